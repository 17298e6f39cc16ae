/- Walks of the program's functions. -/
import Derived.Test.YtjjidificdmnmaaGreatDoorTy
import Derived.Test.YtjjidificdmnmaaGreatDoorFs
import Derived.Test.YtjjidificdmnmaaGreatDoorSh
import Derived.Lib.AppendIntMem
namespace Go.Proofs.YtjjidificdmnmaaGreatDoor
open Go Go.AL
set_option maxRecDepth 100000
theorem u64_nonneg (p : Int) : 0 ≤ IntKind.u64.wrap p := by simp [IntKind.wrap, IntKind.signed, IntKind.bits]; omega
theorem ended_ok (s : Str) (hs : s.length ≤ 1099511627776) : FnOk Tryz.prog 63 [F6 s] (fun rs => rs = [D5 (ended s)]) := by
 refine FnOk.intro Tryz.func63 (by decide) Z Z Z Z ?_
 refine k2 ?_
 refine A5 (A2 (A4 Z Z) Z (A6 ?_))
 refine k1 (k2 ?_)
 have hl : s ≠ [] → s[((s.length : Int) - 1).toNat]? = some (s.getLastD 0) := by
  intro h
  have h1 : 0 < s.length := List.length_pos_iff.2 h
  have h2 : ((s.length : Int) - 1).toNat = s.length - 1 := by omega
  rw [h2, ← List.getLast?_eq_getElem?, List.getLast?_eq_some_getLast h, List.getLastD_eq_getLast?, List.getLast?_eq_some_getLast h]
  rfl
 refine A5 (A2 (A3 Z Z) Z (A2 (V2 Z Z) Z (A2 (A3 Z Z) Z (A8 Z Z Z Z (fun hg => by rw [hg]; exact A3 Z Z) ?_)))); refine A8 Z Z Z Z (fun hg => by rw [hg]; exact A3 Z Z) ?_; refine A8 Z Z Z Z (fun hg => by rw [hg]; exact D8 Z) ?_; refine A8 Z Z Z Z (fun hg => by have hq := hg; (try simp at hq); rw [hg]; exact L8 Z Z (by omega)) ?_; refine A8 Z Z Z Z (fun hg => by have hq := hg; (try simp at hq); have h1 := List.length_pos_iff.2 hq; rw [hg]; exact E7 Z Z (by omega) (hl hq)) ?_; refine A8 Z Z Z Z (fun hg => by rw [hg]; exact G6 Z Z) ?_; refine A2 (B2 Z (fun h => by first | rfl | (rw [h]; rfl)) (fun h => by first | rfl | (rw [h]; rfl))) Z ?_; refine A2 (A4 Z Z) Z (A6 ?_)
 refine k1 (k10 ?_)
 refine B5 (G8 Z Z Z) ?_
 rw [ended_eq]
theorem lines_ok (b : Str) (hb : b.length ≤ 536870912) : FnOk Tryz.prog 43 [F6 b] (fun rs => rs = [Z6 (D9 b)]) := by
 refine FnOk.intro Tryz.func43 (by decide) Z Z Z Z ?_
 refine k2 ?_
 refine A5 (A2 (A4 Z Z) Z (A6 ?_))
 refine k1 (k2 ?_)
 refine A5 (C8 (n3 3 _ K8 Z) Z (A6 ?_))
 refine k1 (k2 ?_)
 refine A5 (A2 (A4 Z Z) Z (A6 ?_))
 refine k1 (k2 (k2 ?_))
 refine A5 (A2 (A4 Z Z) Z (A6 ?_))
 refine k1 (k3 ?_)
 refine E9 (X := Nat × Nat × List Str) (fun x => ([(0, N3 b), (3, .s (.one (.buf 3 Str 1 K8 x.2.2))), (4, C6 x.2.1), (5, C6 x.1)], [(3, .spare x.2.2.length 1 9)]))
  (fun x => x.1 ≤ b.length ∧ x.2.1 ≤ x.1 ∧ x.2.2.length ≤ x.1 ∧ (x.1 = b.length → x.2.1 = x.1) ∧ x.2.2 ++ G2 ((b.drop x.2.1).take (x.1 - x.2.1)) (b.drop x.1) = D9 b) (fun x => b.length - x.1) (0, 0, []) (by simp [D9]) ?_ ?_
 ·exact Sees.of ⟨⟨_, rfl, .same _⟩, ⟨_, rfl, .same _⟩, ⟨_, rfl, .same _⟩, ⟨_, rfl, .same _⟩, trivial⟩ ⟨rfl, trivial⟩
 ·rintro ⟨i, from', out⟩ ⟨hi, hf, ho, he, hp⟩
  dsimp only at hi hf ho he hp ⊢
  refine k2 (k2 ?_)
  refine A5 (A2 (A3 Z Z) Z (A2 (A3 Z Z) Z (A2 (D8 Z) Z (A2 (F0 Z Z) Z (A6 ?_)))))
  refine k1 ?_
  refine B3 rfl (fun ht => ?_) (fun ht => ?_)
  ·have hlt : i < b.length := by simpa using ht
   have hv : b[i]? = some b[i] := by simp [hlt]
   refine k5 (k1 (k2 (k3 (k2 ?_))))
   refine A5 (A2 (A3 Z Z) Z (A2 (A3 Z Z) Z (A2 (E7 Z Z (by omega) hv) Z (A2 (G6 Z Z) Z (A2 (A3 Z Z) Z (A8 Z Z Z Z (fun hg => by rw [hg]; exact A3 Z Z) ?_)))))); refine A8 Z Z Z Z (fun hg => by have hq := hg; (try simp at hq); rw [hg]; exact C3 Z Z (by omega)) ?_; refine A8 Z Z Z Z (fun hg => by rw [hg]; exact A3 Z Z) ?_; refine A8 Z Z Z Z (fun hg => by rw [hg]; exact D8 Z) ?_; refine A8 Z Z Z Z (fun hg => by rw [hg]; exact G6 Z Z) ?_; refine A2 (B2 Z (fun h => by first | rfl | (rw [h]; rfl)) (fun h => by first | rfl | (rw [h]; rfl))) Z ?_; refine A6 ?_
   refine k1 ?_
   refine B3 rfl (fun ht2 => ?_) (fun ht2 => ?_)
   ·refine k2 ?_
    refine A5 (A2 (A3 Z Z) Z (A2 (A3 Z Z) Z (A2 (A3 Z Z) Z (A2 (A3 Z Z) Z (A2 (C3 Z Z (by omega)) Z (A2 (Q0 Z Z Z (by omega) (by omega) (by omega)) Z (A2 (D6 (c := K8) (ys := [_]) (E3 Z Z Z Z H1) Z Z Z) Z (C8 (J3 Z Z Z (.pure _ _ _ _) (by simp; omega) Z) Z (A2 (A4 Z Z) Z (A6 ?_))))))))))
    refine k1 ?_
    refine A5 (A2 (A3 Z Z) Z (A2 (C3 Z Z (by omega)) Z (A2 (A4 Z Z) Z (A6 ?_))))
    refine k4 (k1 ?_)
    refine A5 (A2 (A3 Z Z) Z (A2 (C3 Z Z (by omega)) Z (A2 (A4 Z Z) Z (A6 ?_))))
    refine k1 ?_
    refine ⟨(i + 1, i + 1, _), ⟨?_, ?_, ?_, ?_, ?_⟩, ?_, Sees.of ⟨⟨_, rfl, .same _⟩, ⟨_, rfl, .same _⟩, ⟨_, rfl, .same _⟩, ⟨_, rfl, .same _⟩, trivial⟩ ⟨rfl, trivial⟩⟩
    all_goals dsimp only
    ·omega
    ·omega
    ·simp; omega
    ·omega
    ·have hc : b[i] = 10 ∨ i + 1 = b.length := by
      simp only [u8_lf] at ht2
      by_cases h : b[i] = 10
      ·exact .inl h
      ·simp [h] at ht2; exact .inr (by omega)
     rw [toNat_succ, Int.toNat_natCast, Nat.sub_self, List.take_zero, ← part_snoc b from' i hf hlt, List.append_assoc, ← hp, List.drop_eq_getElem_cons hlt, R3]
     rcases hc with h | h
     ·rw [if_pos h]; rfl
     ·have hd : b.drop (i + 1) = [] := List.drop_eq_nil_of_le (by omega)
      rw [hd]
      split
      ·rfl
      ·rw [show G2 ([] : Str) [] = [] from rfl, linesAux_end _ (by simp)]; simp
    ·omega
   ·refine k5 (k4 (k1 ?_))
    refine A5 (A2 (A3 Z Z) Z (A2 (C3 Z Z (by omega)) Z (A2 (A4 Z Z) Z (A6 ?_))))
    refine k1 ?_
    refine ⟨(i + 1, from', out), ⟨?_, ?_, ?_, ?_, ?_⟩, ?_, Sees.of ⟨⟨_, rfl, .same _⟩, ⟨_, rfl, .same _⟩, ⟨_, rfl, .same _⟩, ⟨_, rfl, .same _⟩, trivial⟩ ⟨rfl, trivial⟩⟩
    all_goals dsimp only
    ·omega
    ·omega
    ·omega
    ·intro h
     simp [show (i : Int) + 1 = (b.length : Int) by omega] at ht2
    ·have hc : b[i] ≠ 10 := fun h => by simp [h] at ht2
     rw [← part_snoc b from' i hf hlt, ← hp, List.drop_eq_getElem_cons hlt, R3, if_neg hc]
    ·omega
  ·refine k6 (k2 ?_)
   refine A5 (A2 (A3 Z Z) Z (A2 (A4 Z Z) Z (A6 ?_)))
   refine k1 (k10 ?_)
   refine B5 (G8 Z Z Z) ?_
   have hi' : i = b.length := by simp at ht; omega
   subst hi'
   have := he rfl
   subst this
   rw [Nat.sub_self, List.take_zero, List.drop_eq_nil_of_le (Nat.le_refl _)] at hp
   rw [← hp]; simp [G2]
theorem check_ok (b : Str) (hb : b.length ≤ 1099511627776) : FnOk Tryz.prog 116 [F6 b] (fun rs => rs = [D2 (checkOf b)]) := by
 refine FnOk.intro Tryz.func116 (by decide) Z Z Z Z ?_
 refine k2 ?_
 refine A5 (A2 (A4 Z Z) Z (A6 ?_))
 refine k1 (k2 (k2 ?_))
 refine A5 (A2 (A3 Z Z) Z (A2 (D8 Z) Z (A2 (L9 Z Z) Z (A2 (A3 Z Z) Z (A8 Z Z Z Z (fun hg => by rw [hg]; exact A3 Z Z) ?_))))); refine A8 Z Z Z Z (fun hg => by have hq := hg; (try simp at hq); rw [hg]; exact F9 (lines_ok b (by omega)) Z Z) ?_; refine A8 Z Z Z Z (fun hg => by rw [hg]; exact F8 Z (.pure _ _ _ _)) ?_; refine A8 Z Z Z Z (fun hg => by rw [hg]; exact L9 Z Z) ?_; refine A2 (B2 Z (fun h => by first | rfl | (rw [h]; rfl)) (fun h => by first | rfl | (rw [h]; rfl))) Z ?_; refine A6 ?_
 refine k1 ?_
 refine B3 rfl (fun ht => ?_) (fun ht => ?_)
 ·have h := A0 (or_pick.symm.trans ht)
  refine k2 ?_
  refine A5 (A2 (A4 Z Z) Z (A6 ?_))
  refine k1 (k10 (k11 ?_))
  exact B5 (G8 rfl rfl rfl) (by rw [checkOf, if_pos (by omega)])
 ·have h := A1 (or_pick.symm.trans ht)
  refine k5 (k1 (k2 ?_))
  refine A5 (A2 (A4 Z Z) Z (A6 ?_))
  refine k1 (k10 ?_)
  exact B5 (G8 rfl rfl rfl) (by rw [checkOf, if_neg (by omega)])
theorem all_ok (l : List Str) (hl : l.flatten.length ≤ 536870912) : FnOk Tryz.prog 87 [Z6 l] (fun rs => rs = [F6 l.flatten]) := by
 refine FnOk.intro Tryz.func87 (by decide) Z Z Z Z ?_
 refine c_bound (t := 0) rfl (.pure _ _ _ _) fun hlen => ?_
 refine k2 ?_
 refine A5 (A2 (A4 Z Z) Z (A6 ?_))
 refine k1 (k2 ?_)
 refine A5 (C8 (n3 3 _ u8C Z) Z (A6 ?_))
 refine k1 (k2 (k2 ?_))
 refine A5 (A2 (A4 Z Z) Z (A6 ?_))
 refine k1 (k3 ?_)
 refine E9 (X := Nat) (fun i => ([(0, E8 Str 1 K8 l), (3, .s (.one (.buf 3 UInt8 1 u8C (l.take i).flatten))), (4, C6 i)], [(3, .spare (l.take i).flatten.length 1 5)])) (fun i => i ≤ l.length) (fun i => l.length - i) 0 (by simp) (Sees.of ⟨le1 rfl, le1 rfl, le1 rfl, trivial⟩ ⟨rfl, trivial⟩) ?_
 intro i hi
 dsimp only at hi ⊢
 refine k2 (k2 ?_)
 refine A5 (A2 (A3 Z Z) Z (A2 (A3 Z Z) Z (A2 (F8 Z (.pure _ _ _ _)) Z (A2 (F0 Z Z) Z (A6 ?_)))))
 refine k1 ?_
 refine B3 rfl (fun ht => ?_) (fun ht => ?_)
 ·have hlt : i < l.length := by simpa using ht
  have hv : l[i]? = some l[i] := by simp [hlt]
  have hf := V5 l i hlt
  have hle := U4 l (i + 1)
  rw [hf, List.length_append] at hle
  refine k5 (k1 (k2 (k3 ?_)))
  refine A5 (A2 (A3 Z Z) Z (A2 (A3 Z Z) Z (A2 (A3 Z Z) Z (A2 (B4 Z (.pure _ _ _ _) Z (by omega) hv) Z (A2 (B8 Z Z) Z (C8 (e_append_s TyStr.out Z Z Z (by omega) Z) Z (A2 (A4 Z Z) Z (A6 ?_))))))))
  refine k4 (k1 ?_)
  refine A5 (A2 (A3 Z Z) Z (A2 (C3 Z Z (by omega)) Z (A2 (A4 Z Z) Z (A6 ?_))))
  refine k1 ?_
  refine ⟨i + 1, by omega, by omega, ?_⟩
  dsimp only
  rw [hf]
  exact Sees.of ⟨le1 rfl, le1 rfl, le1 rfl, trivial⟩ ⟨rfl, trivial⟩
 ·have : i = l.length := by simp at ht; omega
  subst this
  refine k6 (k2 ?_)
  refine A5 (A2 (A3 Z Z) Z (A2 (N6 TyStr.out Z (.buf _ _ _ _ _)) Z (A2 (A4 Z Z) Z (A6 ?_))))
  refine k1 (k10 ?_)
  exact B5 (G8 rfl rfl rfl) (by simp)
theorem line_ok (s : Str) (hs : s.length ≤ 1099511627776) : FnOk Tryz.prog 124 [F6 s] (fun rs => rs = [D5 (L5 s)]) := by
 refine FnOk.intro Tryz.func124 (by decide) Z Z Z Z ?_
 refine k2 ?_
 refine A5 (A2 (A4 Z Z) Z (A6 ?_))
 refine k1 (k2 (k2 ?_))
 refine A5 (A2 (A4 Z Z) Z (A6 ?_))
 refine k1 (k3 ?_)
 refine E9 (X := Nat) (fun k => ([(0, N3 s), (3, C6 k)], [])) (fun k => k ≤ s.length ∧ L5 s = ((s.dropLast.drop k).all (· ≠ 10) && s != [])) (fun k => s.length - k) 0 (by simp [L5]) (Sees.of ⟨le1 rfl, le1 rfl, trivial⟩ trivial) ?_
 intro k hk
 dsimp only at hk ⊢
 refine k2 (k2 ?_)
 refine A5 (A2 (A3 Z Z) Z (A2 (C3 Z Z (by omega)) Z (A2 (A3 Z Z) Z (A2 (D8 Z) Z (A2 (F0 Z Z) Z (A6 ?_))))))
 refine k1 ?_
 refine B3 rfl (fun ht => ?_) (fun ht => ?_)
 ·have hk2 : k + 1 < s.length := by have := A0 ht; omega
  have hvk : s[k]? = some (s[k]'(by omega)) := List.getElem?_eq_getElem (by omega)
  have hd : s.dropLast.drop k = s[k]'(by omega) :: s.dropLast.drop (k + 1) := by
   rw [List.drop_eq_getElem_cons (by simp; omega)]; simp
  rw [hd, List.all_cons] at hk
  refine k5 (k1 (k2 (k3 (k2 ?_))))
  refine A5 (A2 (A3 Z Z) Z (A2 (A3 Z Z) Z (A2 (E7 Z Z (by omega) hvk) Z (A2 (G6 Z Z) Z (A6 ?_)))))
  refine k1 ?_
  refine B3 rfl (fun ht => ?_) (fun ht => ?_)
  ·have h10 := (u8_lf _).1 (A0 ht)
   refine k2 ?_
   refine A5 (A2 (A4 Z Z) Z (A6 ?_))
   refine k1 (k10 (k12 (k11 (k11 (k12 (k11 ?_))))))
   exact B5 (G8 rfl rfl rfl) (by rw [hk.2]; simp [h10])
  ·have h10 : s[k]'(by omega) ≠ 10 := fun h => A1 ht ((u8_lf _).2 h)
   refine k5 (k4 (k1 ?_))
   refine A5 (A2 (A3 Z Z) Z (A2 (C3 Z Z (by omega)) Z (A2 (A4 Z Z) Z (A6 ?_))))
   refine k1 ?_
   exact ⟨k + 1, ⟨by omega, by rw [hk.2]; simp [h10]⟩, by omega, Sees.of ⟨le1 rfl, le1 rfl, trivial⟩ trivial⟩
 ·have hk2 : s.length ≤ k + 1 := by have := A1 ht; omega
  have hlo : L5 s = (s != []) := by rw [hk.2, List.drop_eq_nil_of_le (by simp; omega)]; rfl
  refine k6 (k2 ?_)
  refine A5 (A2 (A3 Z Z) Z (A2 (V2 Z Z) Z (A2 (A4 Z Z) Z (A6 ?_))))
  refine k1 (k10 ?_)
  exact B5 (G8 rfl rfl rfl) (by rw [hlo]; by_cases h : s = [] <;> simp [h])
theorem place_ok (l : List Str) (s : Str) : FnOk Tryz.prog 119 [Z6 l, F6 s] (fun rs => rs = [D2 (N5 l s 0)]) := by
 refine FnOk.intro Tryz.func119 (by decide) Z Z Z Z ?_
 refine c_bound (t := 0) rfl (.pure _ _ _ _) fun hlen => ?_
 refine k2 ?_
 refine A5 (A2 (A4 Z Z) Z (A6 ?_))
 refine k1 (k2 (k2 ?_))
 refine A5 (A2 (A4 Z Z) Z (A6 ?_))
 refine k1 (k3 ?_)
 refine E9 (X := Nat) (fun i => ([(0, E8 Str 1 K8 l), (1, N3 s), (5, C6 i)], [])) (fun i => i ≤ l.length ∧ N5 l s 0 = N5 (l.drop i) s i) (fun i => l.length - i) 0 (by simp) (Sees.of ⟨le1 rfl, le1 rfl, le1 rfl, trivial⟩ trivial) ?_
 rintro i ⟨hi, hp⟩
 dsimp only at hi hp ⊢
 refine k2 (k2 ?_)
 refine A5 (A2 (A3 Z Z) Z (A2 (A3 Z Z) Z (A2 (F8 Z (.pure _ _ _ _)) Z (A2 (F0 Z Z) Z (A6 ?_)))))
 refine k1 ?_
 refine B3 rfl (fun ht => ?_) (fun ht => ?_)
 ·have hlt : i < l.length := by simpa using ht
  have hv : l[i]? = some l[i] := by simp [hlt]
  rw [placeOf_drop l s i hlt] at hp
  refine k5 (k1 (k2 (k3 (k2 ?_))))
  refine A5 (A2 (A3 Z Z) Z (A2 (A3 Z Z) Z (A2 (B4 Z (.pure _ _ _ _) Z (by omega) hv) Z (A2 (B8 Z Z) Z (A2 (A3 Z Z) Z (A2 (W8 Z Z) Z (A6 ?_)))))))
  refine k1 ?_
  refine B3 rfl (fun ht => ?_) (fun ht => ?_)
  ·rw [if_pos (by simpa using ht)] at hp
   refine k2 ?_
   refine A5 (A2 (A3 Z Z) Z (A2 (A4 Z Z) Z (A6 ?_)))
   refine k1 (k10 (k12 (k11 (k11 (k12 (k11 ?_))))))
   exact B5 (G8 rfl rfl rfl) (by rw [hp])
  ·rw [if_neg (by simpa using ht)] at hp
   refine k5 (k4 (k1 ?_))
   refine A5 (A2 (A3 Z Z) Z (A2 (C3 Z Z (by omega)) Z (A2 (A4 Z Z) Z (A6 ?_))))
   refine k1 ?_
   exact ⟨i + 1, ⟨by omega, by simpa using hp⟩, by omega, Sees.of ⟨le1 rfl, le1 rfl, le1 rfl, trivial⟩ trivial⟩
 ·have : i = l.length := by simp at ht; omega
  subst this
  refine k6 (k2 ?_)
  refine A5 (A2 (A4 Z Z) Z (A6 ?_))
  refine k1 (k10 ?_)
  exact B5 (G8 rfl rfl rfl) (by rw [hp]; simp [N5])
theorem names_ok (fs : List (List Str)) (hfs : fs.flatten.length ≤ 536870912) : FnOk Tryz.prog 118 [pStrss fs] (fun rs => rs = [Z6 (E4 fs)]) := by
 refine FnOk.intro Tryz.func118 (by decide) Z Z Z Z ?_
 refine c_bound (t := 0) rfl (.pure _ _ _ _) fun hlen => ?_
 refine k2 ?_
 refine A5 (A2 (A4 Z Z) Z (A6 ?_))
 refine k1 (k2 ?_)
 refine A5 (C8 (n3 3 _ K8 Z) Z (A6 ?_))
 refine k1 (k2 (k2 ?_))
 refine A5 (A2 (A4 Z Z) Z (A6 ?_))
 refine k1 (k3 ?_)
 refine E9 (X := Nat) (fun f => ([(0, E8 (List Str) 1 strsC fs), (3, .s (.one (.buf 3 Str 1 K8 (E4 (fs.take f))))), (4, C6 f)], [(3, .spare (E4 (fs.take f)).length 1 9)])) (fun f => f ≤ fs.length) (fun f => fs.length - f) 0 (by simp) (Sees.of ⟨le1 rfl, le1 rfl, le1 rfl, trivial⟩ ⟨rfl, trivial⟩) ?_
 intro f hf
 dsimp only at hf ⊢
 refine k2 (k2 ?_)
 refine A5 (A2 (A3 Z Z) Z (A2 (A3 Z Z) Z (A2 (F8 Z (.pure _ _ _ _)) Z (A2 (F0 Z Z) Z (A6 ?_)))))
 refine k1 ?_
 refine B3 rfl (fun ht => ?_) (fun ht => ?_)
 ·have hlt : f < fs.length := by have := A0 ht; omega
  have hv : fs[f]? = some fs[f] := by simp [hlt]
  have hfl := V5 fs f hlt
  have hle := U4 fs (f + 1)
  rw [hfl, List.length_append] at hle
  have hn0 := namesOf_length (fs.take f)
  refine k5 (k1 (k2 (k3 (k2 ?_))))
  refine A5 (A2 (A4 Z Z) Z (A6 ?_))
  refine k1 (k3 ?_)
  refine E9 (X := Nat) (fun i => ([(0, E8 (List Str) 1 strsC fs), (3, .s (.one (.buf 3 Str 1 K8 ((fs[f].take i).foldl L1 (E4 (fs.take f)))))), (4, C6 f), (5, C6 i)], [(3, .spare ((fs[f].take i).foldl L1 (E4 (fs.take f))).length 1 9)])) (fun i => i ≤ fs[f].length) (fun i => fs[f].length - i) 0 (by simp) (Sees.of ⟨le1 rfl, le1 rfl, le1 rfl, le1 rfl, trivial⟩ ⟨rfl, trivial⟩) ?_
  intro i hi
  dsimp only at hi ⊢
  have hni := x4 (fs[f].take i) (E4 (fs.take f))
  rw [List.length_take] at hni
  refine k2 (k2 ?_)
  refine A5 (A2 (A3 Z Z) Z (A2 (A3 Z Z) Z (A2 (A3 Z Z) Z (A2 (B4 Z (.pure _ _ _ _) Z (by omega) hv) Z (A2 (B8 Z Z) Z (A2 (F8 Z (.pure _ _ _ _)) Z (A2 (F0 Z Z) Z (A6 ?_))))))))
  refine k1 ?_
  refine B3 rfl (fun ht => ?_) (fun ht => ?_)
  ·have hlt2 : i < fs[f].length := by have := A0 ht; omega
   have hvi : fs[f][i]? = some fs[f][i] := by simp [hlt2]
   have hst : (fs[f].take (i + 1)).foldl L1 (E4 (fs.take f)) = L1 ((fs[f].take i).foldl L1 (E4 (fs.take f))) fs[f][i] := by
    rw [List.take_add_one, hvi, Option.toList_some, List.foldl_append]; rfl
   refine k5 (k1 (k2 (k3 (k2 ?_))))
   refine A5 (A2 (A3 Z Z) Z (A2 (A3 Z Z) Z (A2 (A3 Z Z) Z (A2 (B4 Z (.pure _ _ _ _) Z (by omega) hv) Z (A2 (B8 Z Z) Z (A2 (A3 Z Z) Z (A2 (B4 Z (.pure _ _ _ _) Z (by omega) hvi) Z (A2 (B8 Z Z) Z (C0 (place_ok _ _) Z Z Z ?_))))))))); rintro _ rfl; refine A2 (F0 Z Z) Z (A6 ?_)
   refine k1 ?_
   have hpl := placeOf_neg ((fs[f].take i).foldl L1 (E4 (fs.take f))) fs[f][i] 0 (Int.le_refl _)
   refine B3 rfl (fun ht => ?_) (fun ht => ?_)
   ·have hnot := hpl.1 (A0 ht)
    skip
    refine A5 (A2 (A3 Z Z) Z (A2 (A3 Z Z) Z (A2 (A3 Z Z) Z (A2 (B4 Z (.pure _ _ _ _) Z (by omega) hv) Z (A2 (B8 Z Z) Z (A2 (A3 Z Z) Z (A2 (B4 Z (.pure _ _ _ _) Z (by omega) hvi) Z (A2 (B8 Z Z) Z (A2 (D6 (c := K8) (ys := [_]) (E3 Z Z Z Z H1) Z Z Z) Z (C8 (J3 Z Z Z (.pure _ _ _ _) (by simp; omega) Z) Z (A2 (A4 Z Z) Z (A6 ?_))))))))))))
    refine k4 (k1 ?_)
    refine A5 (A2 (A3 Z Z) Z (A2 (C3 Z Z (by omega)) Z (A2 (A4 Z Z) Z (A6 ?_))))
    refine k1 ?_
    refine ⟨i + 1, by omega, by omega, ?_⟩
    rw [hst, L1, if_neg hnot]
    exact Sees.of ⟨le1 rfl, le1 rfl, le1 rfl, le1 rfl, trivial⟩ ⟨rfl, trivial⟩
   ·have hin : fs[f][i] ∈ (fs[f].take i).foldl L1 (E4 (fs.take f)) := Classical.byContradiction fun h => A1 ht (hpl.2 h)
    refine k5 (k4 (k1 ?_))
    refine A5 (A2 (A3 Z Z) Z (A2 (C3 Z Z (by omega)) Z (A2 (A4 Z Z) Z (A6 ?_))))
    refine k1 ?_
    refine ⟨i + 1, by omega, by omega, ?_⟩
    rw [hst, L1, if_pos hin]
    exact Sees.of ⟨le1 rfl, le1 rfl, le1 rfl, le1 rfl, trivial⟩ ⟨rfl, trivial⟩
  ·have hi' : i = fs[f].length := by have := A1 ht; omega
   subst hi'
   refine k6 (k7 (k7 (k8 Z (k4 (k1 ?_)))))
   have : E4 (fs.take (f + 1)) = (fs[f].take fs[f].length).foldl L1 (E4 (fs.take f)) := by
    rw [E4, hfl, List.foldl_append, List.take_length]; rfl
   refine A5 (A2 (A3 Z Z) Z (A2 (C3 Z Z (by omega)) Z (A2 (A4 Z Z) Z (A6 ?_))))
   refine k1 ?_
   refine ⟨f + 1, by omega, by omega, ?_⟩
   rw [this]
   exact Sees.of ⟨le1 rfl, le1 rfl, le1 rfl, trivial⟩ ⟨rfl, trivial⟩
 ·have : f = fs.length := by have := A1 ht; omega
  subst this
  refine k6 (k2 ?_)
  refine A5 (A2 (A3 Z Z) Z (A2 (A4 Z Z) Z (A6 ?_)))
  refine k1 (k10 ?_)
  exact B5 (G8 rfl rfl rfl) (by simp)
theorem made_ok (p : List Span) (m n : Int) (hp : p.length ≤ 536870912) (hb : ∀ s ∈ p, -1099511627776 ≤ s.From ∧ s.From ≤ 1099511627776 ∧ -1099511627776 ≤ s.To ∧ s.To ≤ 1099511627776)
  (hm : -1099511627776 ≤ m ∧ m ≤ 1099511627776 ∧ -1099511627776 ≤ n ∧ n ≤ 1099511627776) :
  FnOk Tryz.prog 161 [pSpans p, D2 m, D2 n] (fun rs => rs = [pChanges (madeOf p m n)]) := by
 refine FnOk.intro Tryz.func161 (by decide) Z Z Z Z ?_
 refine k2 ?_
 refine A5 (A2 (A4 Z Z) Z (A6 ?_))
 refine k1 (k2 ?_)
 refine A5 (C8 (n3 7 _ changeC Z) Z (A6 ?_))
 refine k1 (k2 ?_)
 refine A5 (A2 (A4 Z Z) Z (A2 (A4 Z Z) Z (A6 ?_)))
 refine k1 (k2 (k2 ?_))
 refine A5 (A2 (A4 Z Z) Z (A6 ?_))
 refine k1 (k3 ?_)
 refine E9 (X := Nat × Int × Int × List Change) (fun x => ([(0, E8 Span 2 spanC p), (1, C6 m), (2, C6 n), (7, .s (.one (.buf 7 Change 4 changeC x.2.2.2))), (8, C6 x.2.1), (9, C6 x.2.2.1), (10, C6 x.1)], [(7, .spare x.2.2.2.length 4 78)]))
  (fun x => x.1 ≤ p.length + 1 ∧ x.2.2.2.length ≤ x.1 ∧ (-1099511627776 ≤ x.2.1 ∧ x.2.1 ≤ 1099511627777 ∧ -1099511627776 ≤ x.2.2.1 ∧ x.2.2.1 ≤ 1099511627777) ∧ (x.1 ≤ p.length → x.2.2.2 ++ T9 x.2.1 x.2.2.1 (p.drop x.1) m n = madeOf p m n) ∧ (x.1 = p.length + 1 → x.2.2.2 = madeOf p m n))
  (fun x => p.length + 1 - x.1) (0, 0, 0, []) (by simp [madeOf]) (Sees.of ⟨le1 rfl, le1 rfl, le1 rfl, le1 rfl, le1 rfl, le1 rfl, le1 rfl, trivial⟩ ⟨rfl, trivial⟩) ?_
 rintro ⟨k, i, j, out⟩ ⟨hk, ho, hij, h1, h2⟩
 dsimp only at hk ho hij h1 h2 ⊢
 refine k2 (k2 ?_)
 refine A5 (A2 (A3 Z Z) Z (A2 (A3 Z Z) Z (A2 (F8 Z (.pure _ _ _ _)) Z (A2 (n_leq Z Z) Z (A6 ?_)))))
 refine k1 ?_
 refine B3 rfl (fun ht => ?_) (fun ht => ?_)
 ·have hk' : k ≤ p.length := by have := A0 ht; omega
  have hpp := h1 hk'
  refine k5 (k1 (k2 (k3 (k2 ?_))))
  refine A5 (A2 (A3 Z Z) Z (A2 (A3 Z Z) Z (A2 (G4 Z) Z (C8 (H4 11 Z) Z (F4 (B9 TySz.out Z Z Z Z Z Z) (A6 ?_))))))
  refine J6 ?_
  obtain ⟨x, hx⟩ : ∃ x, x = p.getD k ⟨m, n⟩ := ⟨_, rfl⟩
  have hxb : -1099511627776 ≤ x.From ∧ x.From ≤ 1099511627776 ∧ -1099511627776 ≤ x.To ∧ x.To ≤ 1099511627776 := by
   rw [hx, List.getD_eq_getElem?_getD]
   by_cases h : k < p.length
   ·rw [List.getElem?_eq_getElem h]; exact hb _ (List.getElem_mem h)
   ·rw [List.getElem?_eq_none (by omega)]; exact hm
  have hmade : T9 i j (p.drop k) m n = (if x.From > i ∨ x.To > j then [⟨i, x.From - i, j, x.To - j⟩] else []) ++ (if k < p.length then T9 (x.From + 1) (x.To + 1) (p.drop (k + 1)) m n else []) := by
   by_cases h : k < p.length
   ·rw [List.drop_eq_getElem_cons h, if_pos h, hx, List.getD_eq_getElem?_getD, List.getElem?_eq_getElem h]; rfl
   ·rw [List.drop_eq_nil_of_le (by omega), if_neg h, hx, List.getD_eq_getElem?_getD, List.getElem?_eq_none (by omega)]; simp [T9]
  refine V9 [(0, E8 Span 2 spanC p), (1, C6 m), (2, C6 n), (7, .s (.one (.buf 7 Change 4 changeC out))), (8, C6 i), (9, C6 j), (10, C6 k), (11, .s (.one (.ref 11 0)))] [(11, .box [.p (.v (.int .i64 x.From)), .p (.v (.int .i64 x.To))]), (7, .spare out.length 4 78)] ?_ ?_
  ·refine k2 ?_
   refine A5 (A2 (A3 Z Z) Z (A2 (A3 Z Z) Z (A2 (F8 Z (.pure _ _ _ _)) Z (A2 (F0 Z Z) Z (A6 ?_)))))
   refine k1 ?_
   refine B3 rfl (fun ht => ?_) (fun ht => ?_)
   ·have hlt : k < p.length := by have := A0 ht; omega
    have hv : p[k]? = some p[k] := by simp [hlt]
    have : x = p[k] := by rw [hx, List.getD_eq_getElem?_getD, hv]; rfl
    subst this
    skip
    refine A5 (A2 (A3 Z Z) Z (A2 (A3 Z Z) Z (A2 (B4 Z (.pure _ _ _ _) Z (by omega) hv) Z (A2 (F2 Z Z) Z (F4 (B9 TySz.out Z Z Z Z Z Z) (A6 ?_))))))
    refine k1 ?_
    exact Sees.of ⟨le1 rfl, le1 rfl, le1 rfl, le1 rfl, le1 rfl, le1 rfl, le1 rfl, le1 rfl, trivial⟩ ⟨rfl, rfl, trivial⟩
   ·have hlt : ¬ k < p.length := by have := A1 ht; omega
    have : x = ⟨m, n⟩ := by rw [hx, List.getD_eq_getElem?_getD, List.getElem?_eq_none (by omega)]; rfl
    subst this
    refine k5 (k1 ?_)
    exact Sees.of ⟨le1 rfl, le1 rfl, le1 rfl, le1 rfl, le1 rfl, le1 rfl, le1 rfl, le1 rfl, trivial⟩ ⟨rfl, rfl, trivial⟩
  ·obtain ⟨out', hout'⟩ : ∃ o, o = out ++ (if x.From > i ∨ x.To > j then [⟨i, x.From - i, j, x.To - j⟩] else []) := ⟨_, rfl⟩
   have hol : out'.length ≤ k + 1 := by rw [hout', List.length_append]; split <;> simp <;> omega
   refine V9 [(0, E8 Span 2 spanC p), (1, C6 m), (2, C6 n), (7, .s (.one (.buf 7 Change 4 changeC out'))), (10, C6 k), (11, .s (.one (.ref 11 0)))] [(11, .box [.p (.v (.int .i64 x.From)), .p (.v (.int .i64 x.To))]), (7, .spare out'.length 4 78)] ?_ ?_
   ·refine k2 ?_
    refine A5 (A2 (A7 Z) Z (A2 (B0 Z Z Z) Z (A2 (A3 Z Z) Z (A2 (L9 Z Z) Z (A2 (A3 Z Z) Z (A8 Z Z Z Z (fun hg => by rw [hg]; exact A7 Z) ?_)))))); refine A8 Z Z Z Z (fun hg => by rw [hg]; exact B0 Z Z Z) ?_; refine A8 Z Z Z Z (fun hg => by rw [hg]; exact A3 Z Z) ?_; refine A8 Z Z Z Z (fun hg => by rw [hg]; exact L9 Z Z) ?_; refine A2 (B2 Z (fun h => by first | rfl | (rw [h]; rfl)) (fun h => by first | rfl | (rw [h]; rfl))) Z ?_; refine A6 ?_
    refine k1 ?_
    refine B3 rfl (fun ht => ?_) (fun ht => ?_)
    ·have h := A0 (or_pick.symm.trans ht)
     rw [if_pos h] at hout'
     subst hout'
     skip
     refine A5 (A2 (A3 Z Z) Z (A2 (A3 Z Z) Z (A2 (A7 Z) Z (A2 (B0 Z Z Z) Z (A2 (A3 Z Z) Z (A2 (L8 Z Z (by omega)) Z (A2 (A3 Z Z) Z (A2 (A7 Z) Z (A2 (B0 Z Z Z) Z (A2 (A3 Z Z) Z (A2 (L8 Z Z (by omega)) Z (A2 (G4 Z) Z (A2 (D6 (c := changeC) (ys := [⟨_, _, _, _⟩]) (E3 Z Z Z Z H1) Z Z Z) Z (C8 (J3 Z Z Z (.pure _ _ _ _) (by simp; omega) Z) Z (A2 (A4 Z Z) Z (A6 ?_))))))))))))))))
     refine k1 ?_
     exact Sees.of ⟨le1 rfl, le1 rfl, le1 rfl, le1 rfl, le1 rfl, le1 rfl, trivial⟩ ⟨rfl, rfl, trivial⟩
    ·have h := A1 (or_pick.symm.trans ht)
     rw [if_neg h, List.append_nil] at hout'
     subst hout'
     refine k5 (k1 ?_)
     exact Sees.of ⟨le1 rfl, le1 rfl, le1 rfl, le1 rfl, le1 rfl, le1 rfl, trivial⟩ ⟨rfl, rfl, trivial⟩
   ·skip
    refine C2 (by kernel_rfl) (by kernel_rfl) (A9 (A7 Z) Z Z (A9 (B0 Z Z Z) Z Z (A9 (C3 Z Z (by omega)) Z Z (A9 (A7 Z) Z Z (A9 (B0 Z Z Z) Z Z (A9 (C3 Z Z (by omega)) Z Z (A9 (A4 Z Z) Z Z (A9 (A4 Z Z) Z Z (H3 ?_)))))))))
    refine k4 (k1 ?_)
    refine A5 (A2 (A3 Z Z) Z (A2 (C3 Z Z (by omega)) Z (A2 (A4 Z Z) Z (A6 ?_))))
    refine k1 ?_
    refine ⟨(k + 1, x.From + 1, x.To + 1, out'), ⟨by dsimp only; omega, hol, by dsimp only; omega, ?_, ?_⟩, by dsimp only; omega, Sees.of ⟨le1 rfl, le1 rfl, le1 rfl, le1 rfl, le1 rfl, le1 rfl, le1 rfl, trivial⟩ ⟨rfl, trivial⟩⟩
    ·intro hk2
     dsimp only at hk2 ⊢
     rw [← hpp, hmade, if_pos (show k < p.length by omega), hout']; simp
    ·intro hk2
     dsimp only at hk2 ⊢
     rw [← hpp, hmade, if_neg (show ¬ k < p.length by omega), hout']; simp
 ·have hk' : k = p.length + 1 := by have := A1 ht; omega
  refine k6 (k2 ?_)
  refine A5 (A2 (A3 Z Z) Z (A2 (A4 Z Z) Z (A6 ?_)))
  refine k1 (k10 ?_)
  exact B5 (G8 rfl rfl rfl) (by rw [h2 hk'])
theorem table_ok (a b : List Int) (ha : a.length ≤ 536870912) (hb : b.length ≤ 536870912) : FnOk Tryz.prog 160 [Y0 a, Y0 b] (fun rs => rs = [pIntss (distTable a b)]) := by
 refine FnOk.intro Tryz.func160 (by decide) Z Z Z Z ?_
 refine k2 ?_
 refine A5 (A2 (A4 Z Z) Z (A6 ?_))
 refine k1 (k2 ?_)
 refine A5 (A2 (A3 Z Z) Z (A2 (F8 Z (.pure _ _ _ _)) Z (A2 (C3 Z Z (by omega)) Z (C8 (f_makeZ 5 (List Int) intsC [] Z Z (by omega) (by omega) (fun _ => by first | exact ⟨⟨rfl, rfl⟩, trivial⟩ | exact ⟨W6 _ _ _, trivial⟩) (by first | rfl | (simp [H5, M4, Ob.free, SV.free, S1.free, TC.free] <;> rfl))) Z ?_)))); refine A2 (A4 Z Z) Z (A6 ?_)
 refine k1 (k2 (k2 ?_))
 refine A5 (A2 (A3 Z Z) Z (A2 (F8 Z (.pure _ _ _ _)) Z (A2 (A4 Z Z) Z (A6 ?_))))
 refine k1 (k3 ?_)
 refine E9 (X := Nat) (fun i => ([(0, E8 Int 1 Y8 a), (1, E8 Int 1 Y8 b), (5, .s (.one (.mut 5))), (6, C6 ((i : Int) - 1))], [(5, .arr (List Int) 1 intsC (M5 a b i))])) (fun i => i ≤ a.length + 1) (fun i => i) (a.length + 1) (Nat.le_refl _) ?_ ?_
 ·refine Sees.of ⟨⟨_, rfl, .same _⟩, ⟨_, rfl, .same _⟩, ⟨_, rfl, .same _⟩, ⟨_, rfl, .eq (by simp)⟩, trivial⟩ ⟨?_, trivial⟩
  rw [← distRows_full]; rfl
 intro i hi
 dsimp only at hi ⊢
 refine k2 (k2 ?_)
 refine A5 (A2 (A3 Z Z) Z (A2 (V1 Z Z) Z (A6 ?_)))
 refine k1 ?_
 refine B3 rfl (fun ht => ?_) (fun ht => ?_)
 ·obtain ⟨i, rfl⟩ : ∃ r, i = r + 1 := ⟨i - 1, by have := A0 ht; omega⟩
  refine c_cut [(0, E8 Int 1 Y8 a), (1, E8 Int 1 Y8 b), (5, .s (.one (.mut 5))), (6, C6 i)] [(5, .arr (List Int) 1 intsC (M5 a b (i + 1)))] (Sees.of ⟨le1 rfl, le1 rfl, le1 rfl, leE Z (by first | (simp; done) | (simp; omega)), trivial⟩ ⟨rfl, trivial⟩) ?_
  refine G7 (Sees.toT1 5 Z) ?_
  have hTl : ((M5 a b (i + 1)).map fun x => TC.p (intsC x 0)).length = a.length + 1 := by simp [r8]
  have hRs := r8 a b (i + 1)
  refine k5 (k1 (k2 (k3 (k2 ?_))))
  refine A5 (A2 (A3 Z Z) Z (A2 (A3 Z Z) Z (A2 (A3 Z Z) Z (A2 (F8 Z (.pure _ _ _ _)) Z (A2 (C3 Z Z (by omega)) Z (C8 (f_makeZ 23 Int Y8 0 Z Z (by omega) (by omega) (fun _ => by first | exact ⟨⟨rfl, rfl⟩, trivial⟩ | exact ⟨W6 _ _ _, trivial⟩) (by first | rfl | (simp [H5, M4, Ob.free, SV.free, S1.free, TC.free] <;> rfl))) Z ?_)))))); refine A2 (L6 Z Z Z (by omega) (by omega)) Z (F4 (e_store_mrefT1 TySz.out Z Z (by (rw [hTl]; simp; omega)) Z Z) ?_); refine A6 ?_
  refine k1 (k2 ?_)
  refine A5 (A2 (A3 Z Z) Z (A2 (F8 Z (.pure _ _ _ _)) Z (A2 (A4 Z Z) Z (A6 ?_))))
  refine k1 (k3 ?_)
  obtain ⟨T, hT⟩ : ∃ T, T = ((M5 a b (i + 1)).map fun x => TC.p (intsC x 0)).set i (.mut 23) := ⟨_, rfl⟩
  have hTi : T[i]? = some (.mut 23) := by rw [hT, List.getElem?_set_self (by rw [hTl]; omega)]
  have hTn : i + 1 ≤ a.length → T[i + 1]? = some (.p (intsC (O2 a b (i + 1) 0) 0)) := fun h => by
   rw [hT, List.getElem?_set_ne (by omega), List.getElem?_map, distRows_get a b (i + 1) (i + 1) (Nat.le_refl _) h]; rfl
  refine E9 (X := Nat) (fun j => ([(0, E8 Int 1 Y8 a), (1, E8 Int 1 Y8 b), (5, .s (.one (.mut 5))), (6, C6 i), (7, C6 ((j : Int) - 1))], [(5, .tarr (M5 a b (i + 1)).length 1 T), (23, .arr Int 1 Y8 (O2 a b i j))])) (fun j => j ≤ b.length + 1) (fun j => j) (b.length + 1) (Nat.le_refl _) ?_ ?_
  ·refine Sees.of ⟨⟨_, rfl, .same _⟩, ⟨_, rfl, .same _⟩, ⟨_, rfl, .same _⟩, ⟨_, rfl, .same _⟩, ⟨_, rfl, .eq (by simp)⟩, trivial⟩ ⟨by rw [hT]; rfl, ?_, trivial⟩
   rw [← distRow_full]; rfl
  intro j hj
  dsimp only at hj ⊢
  refine k2 (k2 ?_)
  refine A5 (A2 (A3 Z Z) Z (A2 (V1 Z Z) Z (A6 ?_)))
  refine k1 ?_
  refine B3 rfl (fun ht => ?_) (fun ht => ?_)
  ·obtain ⟨j, rfl⟩ : ∃ r, j = r + 1 := ⟨j - 1, by have := A0 ht; omega⟩
   refine c_cut [(0, E8 Int 1 Y8 a), (1, E8 Int 1 Y8 b), (5, .s (.one (.mut 5))), (6, C6 i), (7, C6 j)] [(5, .tarr (M5 a b (i + 1)).length 1 T), (23, .arr Int 1 Y8 (O2 a b i (j + 1)))] (Sees.of ⟨le1 rfl, le1 rfl, le1 rfl, le1 rfl, leE Z (by first | (simp; done) | (simp; omega)), trivial⟩ ⟨rfl, rfl, trivial⟩) ?_
   have hRl := distRow_length a b i (j + 1)
   have hst := distRow_set a b i j
   refine c_skip ?_
   refine J6 ?_
   refine V9 [(0, E8 Int 1 Y8 a), (1, E8 Int 1 Y8 b), (5, .s (.one (.mut 5))), (6, C6 i), (7, C6 j)] [(5, .tarr (M5 a b (i + 1)).length 1 T), (23, .arr Int 1 Y8 (O2 a b i j))] ?_ ?_
   ·refine k3 (k3 (k2 ?_))
    refine A5 (A2 (A3 Z Z) Z (A2 (A3 Z Z) Z (A2 (F8 Z (.pure _ _ _ _)) Z (A2 (G6 Z Z) Z (A2 (A4 Z Z) Z (A6 ?_))))))
    refine k1 ?_
    refine B3 rfl (fun ht => ?_) (fun ht => ?_)
    ·have hia : i = a.length := by have := A0 ht; omega
     have hd : (dist (a.drop i) (b.drop j) : Int) = b.length - j := by rw [hia, List.drop_eq_nil_of_le (Nat.le_refl _), dist, List.length_drop]; omega
     rw [hd] at hst
     skip
     refine A5 (A2 (A3 Z Z) Z (A2 (A3 Z Z) Z (A2 (L6 Z Z Z (by omega) (by omega)) Z (A2 (R1 Z Z hTi) Z (A2 (A3 Z Z) Z (A2 (A3 Z Z) Z (A2 (F8 Z (.pure _ _ _ _)) Z (A2 (A3 Z Z) Z (A2 (L8 Z Z (by omega)) Z (A2 (O6 Z Z Z (by omega) (by omega)) Z (F4 (U6 TySz.out Z Z (by (rw [hRl]; simp; omega)) Z Z) ?_))))))))))); refine A6 ?_
     refine k4 (k4 (k1 ?_))
     rw [← hst]
     exact Sees.of ⟨le1 rfl, le1 rfl, le1 rfl, le1 rfl, le1 rfl, trivial⟩ ⟨rfl, rfl, trivial⟩
    ·have hia : i < a.length := by have := A1 ht; omega
     refine k2 ?_
     refine A5 (A2 (A3 Z Z) Z (A2 (A3 Z Z) Z (A2 (F8 Z (.pure _ _ _ _)) Z (A2 (G6 Z Z) Z (A2 (A4 Z Z) Z (A6 ?_))))))
     refine k1 ?_
     refine B3 rfl (fun ht => ?_) (fun ht => ?_)
     ·have hjb : j = b.length := by have := A0 ht; omega
      have hd : (dist (a.drop i) (b.drop j) : Int) = a.length - i := by rw [hjb, List.drop_eq_nil_of_le (Nat.le_refl b.length), dist_nil, List.length_drop]; omega
      rw [hd] at hst
      skip
      refine A5 (A2 (A3 Z Z) Z (A2 (A3 Z Z) Z (A2 (L6 Z Z Z (by omega) (by omega)) Z (A2 (R1 Z Z hTi) Z (A2 (A3 Z Z) Z (A2 (A3 Z Z) Z (A2 (F8 Z (.pure _ _ _ _)) Z (A2 (A3 Z Z) Z (A2 (L8 Z Z (by omega)) Z (A2 (O6 Z Z Z (by omega) (by omega)) Z (F4 (U6 TySz.out Z Z (by (rw [hRl]; simp; omega)) Z Z) ?_))))))))))); refine A6 ?_
      refine k4 (k4 (k1 ?_))
      rw [← hst]
      exact Sees.of ⟨le1 rfl, le1 rfl, le1 rfl, le1 rfl, le1 rfl, trivial⟩ ⟨rfl, rfl, trivial⟩
     ·have hjb : j < b.length := by have := A1 ht; omega
      have hva : a[i]? = some a[i] := by simp [hia]
      have hvb : b[j]? = some b[j] := by simp [hjb]
      have hdd := dist_drop a b i j hia hjb
      have hTn' := hTn hia
      refine k2 ?_
      refine C2 (by kernel_rfl) (by kernel_rfl) (A9 (A3 Z Z) Z Z (A9 (A3 Z Z) Z Z (A9 (B4 Z (.pure _ _ _ _) Z (by omega) hva) Z Z (A9 (B8 Z Z) Z Z (A9 (A3 Z Z) Z Z (A9 (A3 Z Z) Z Z (A9 (B4 Z (.pure _ _ _ _) Z (by omega) hvb) Z Z (A9 (B8 Z Z) Z Z (A9 (G6 Z Z) Z Z (A9 (A4 Z Z) Z Z (H3 ?_)))))))))))
      refine k1 ?_
      refine B3 rfl (fun ht => ?_) (fun ht => ?_)
      ·rw [if_pos (A0 ht)] at hdd
       have hg := o7 a b (i + 1) 0 (j + 1) (Nat.zero_le _) hjb
       rw [hdd] at hst
       skip
       refine C2 (by kernel_rfl) (by kernel_rfl) (A9 (A3 Z Z) Z Z (A9 (A3 Z Z) Z Z (A9 (L6 Z Z Z (by omega) (by omega)) Z Z (A9 (R1 Z Z hTi) Z Z (A9 (A3 Z Z) Z Z (A9 (A3 Z Z) Z Z (A9 (A3 Z Z) Z Z (A9 (C3 Z Z (by omega)) Z Z (A9 (L6 Z Z Z (by omega) (by omega)) Z Z (A9 (R1 Z Z hTn') Z Z (A9 (A3 Z Z) Z Z (A9 (C3 Z Z (by omega)) Z Z (A9 (B4 Z (.pure _ _ _ _) Z (by omega) hg) Z Z (A9 (B8 Z Z) Z Z (A9 (O6 Z Z Z (by omega) (by omega)) Z Z (d_eff (U6 TySz.out Z Z (by (rw [hRl]; simp; omega)) Z Z) Z ?_)))))))))))))))); refine H3 ?_
       refine k4 (k4 (k1 ?_))
       rw [← hst]
       exact Sees.of ⟨le1 rfl, le1 rfl, le1 rfl, le1 rfl, le1 rfl, trivial⟩ ⟨rfl, rfl, trivial⟩
      ·rw [if_neg (A1 ht)] at hdd
       have hg1 := o7 a b (i + 1) 0 j (Nat.zero_le _) (by omega)
       have hg2 := o7 a b i (j + 1) (j + 1) (Nat.le_refl _) (by omega)
       have hl1 := dist_le (a.drop (i + 1)) (b.drop j)
       have hl2 := dist_le (a.drop i) (b.drop (j + 1))
       simp only [List.length_drop] at hl1 hl2
       have hval : (1 : Int) + (if (dist (a.drop i) (b.drop (j + 1)) : Int) < (dist (a.drop (i + 1)) (b.drop j) : Int) then (dist (a.drop i) (b.drop (j + 1)) : Int) else (dist (a.drop (i + 1)) (b.drop j) : Int)) = (dist (a.drop i) (b.drop j) : Int) := by
        rw [hdd]; split <;> omega
       rw [← hval] at hst
       skip
       refine C2 (by kernel_rfl) (by kernel_rfl) (A9 (A3 Z Z) Z Z (A9 (A3 Z Z) Z Z (A9 (L6 Z Z Z (by omega) (by omega)) Z Z (A9 (R1 Z Z hTi) Z Z (A9 (A3 Z Z) Z Z (A9 (A3 Z Z) Z Z (A9 (A3 Z Z) Z Z (A9 (C3 Z Z (by omega)) Z Z (A9 (L6 Z Z Z (by omega) (by omega)) Z Z (A9 (R1 Z Z hTn') Z Z (A9 (A3 Z Z) Z Z (A9 (B4 Z (.pure _ _ _ _) Z (by omega) hg1) Z Z (A9 (B8 Z Z) Z Z (A9 (A3 Z Z) Z Z (A9 (A3 Z Z) Z Z (A9 (L6 Z Z Z (by omega) (by omega)) Z Z (A9 (R1 Z Z hTi) Z Z (A9 (A3 Z Z) Z Z (A9 (C3 Z Z (by omega)) Z Z (A9 (O6 Z Z Z (by omega) (by omega)) Z Z (A9 (n_load_mref Z Z hg2 Z) Z Z (A9 (n_min Z Z) Z Z (A9 (C3 Z Z (by (constructor <;> split <;> omega))) Z Z ?_))))))))))))))))))))))); refine A9 (O6 Z Z Z (by omega) (by omega)) Z Z (d_eff (U6 TySz.out Z Z (by (rw [hRl]; simp; omega)) Z Z) Z ?_); refine H3 ?_
       refine k4 (k4 (k1 ?_))
       rw [← hst]
       exact Sees.of ⟨le1 rfl, le1 rfl, le1 rfl, le1 rfl, le1 rfl, trivial⟩ ⟨rfl, rfl, trivial⟩
   ·skip
    refine A5 (A2 (A3 Z Z) Z (A2 (L8 Z Z (by omega)) Z (A2 (A4 Z Z) Z (A6 ?_))))
    refine k1 ?_
    exact ⟨j, by omega, by omega, Sees.of ⟨le1 rfl, le1 rfl, le1 rfl, le1 rfl, le1 rfl, trivial⟩ ⟨rfl, rfl, trivial⟩⟩
  ·obtain rfl : j = 0 := by have := A1 ht; omega
   refine G7 (Sees.freeze (k := 23) Z) ?_
   refine G7 (Sees.ofT1 5 (M5 a b i) Z (by simp [r8]) (by rw [hT, freeze_set (y := O2 a b i 0) rfl, distRows_set])) ?_
   refine k6 (k7 (k7 (k8 Z (k4 (k1 ?_)))))
   refine A5 (A2 (A3 Z Z) Z (A2 (L8 Z Z (by omega)) Z (A2 (A4 Z Z) Z (A6 ?_))))
   refine k1 ?_
   exact ⟨i, by omega, by omega, Sees.of ⟨le1 rfl, le1 rfl, le1 rfl, le1 rfl, trivial⟩ ⟨rfl, trivial⟩⟩
 ·obtain rfl : i = 0 := by have := A1 ht; omega
  refine G7 (Sees.freeze (k := 5) Z) ?_
  refine k6 (k2 ?_)
  refine A5 (A2 (A3 Z Z) Z (A2 (A4 Z Z) Z (A6 ?_)))
  refine k1 (k10 ?_)
  exact B5 (G8 rfl rfl rfl) rfl
theorem walkGo_bound (a b : List Int) : ∀ (p q : Int), ∀ s ∈ J9 p q a b, p ≤ s.From ∧ s.From < p + a.length ∧ q ≤ s.To ∧ s.To < q + b.length := by
 induction a generalizing b with
 | nil => intro p q s hs; simp [J9] at hs
 | cons x a iha =>
  induction b with
  | nil => intro p q s hs; simp [J9] at hs
  | cons y b ihb =>
   intro p q s hs
   rw [J9] at hs
   simp only [List.length_cons]
   split at hs
   ·rcases List.mem_cons.1 hs with rfl | hs
    ·simp only; omega
    ·have := iha b (p + 1) (q + 1) s hs; omega
   ·split at hs
    ·have := iha (y :: b) (p + 1) q s hs; simp only [List.length_cons] at this; omega
    ·have := ihb p (q + 1) s hs; simp only [List.length_cons] at this; omega
theorem walk_ok (a b : List Int) (ha : a.length ≤ 536870911) (hb : b.length ≤ 536870911) : FnOk Tryz.prog 117 [Y0 a, Y0 b] (fun rs => rs = [pChanges (walkOf a b)]) := by
 refine FnOk.intro Tryz.func117 (by decide) Z Z Z Z ?_
 refine k2 ?_
 refine A5 (A2 (A4 Z Z) Z (A6 ?_))
 refine k1 (k2 ?_)
 refine A5 (A2 (A3 Z Z) Z (A2 (A3 Z Z) Z (C0 (table_ok a b (by omega) (by omega)) Z Z Z ?_))); rintro _ rfl; refine A2 (A4 Z Z) Z (A6 ?_)
 refine k1 (k2 ?_)
 refine A5 (C8 (n3 6 _ spanC Z) Z (A6 ?_))
 refine k1 (k2 ?_)
 refine A5 (A2 (A4 Z Z) Z (A2 (A4 Z Z) Z (A6 ?_)))
 refine k1 (k2 (k3 ?_))
 refine E9 (X := Nat × Nat × List Span) (fun x => ([(0, E8 Int 1 Y8 a), (1, E8 Int 1 Y8 b), (5, E8 (List Int) 1 intsC (distTable a b)), (6, .s (.one (.buf 6 Span 2 spanC x.2.2))), (7, C6 x.1), (8, C6 x.2.1)], [(6, .spare x.2.2.length 2 109)]))
  (fun x => x.1 ≤ a.length ∧ x.2.1 ≤ b.length ∧ x.2.2.length ≤ x.1 ∧ x.2.2 ++ J9 x.1 x.2.1 (a.drop x.1) (b.drop x.2.1) = J9 0 0 a b) (fun x => a.length + b.length - x.1 - x.2.1) (0, 0, []) (by simp) (Sees.of ⟨le1 rfl, le1 rfl, le1 rfl, le1 rfl, le1 rfl, le1 rfl, trivial⟩ ⟨rfl, trivial⟩) ?_
 rintro ⟨i, j, out⟩ ⟨hi, hj, ho, hp⟩
 dsimp only at hi hj ho hp ⊢
 refine k2 (k2 ?_)
 refine A5 (A2 (A3 Z Z) Z (A2 (A3 Z Z) Z (A2 (F8 Z (.pure _ _ _ _)) Z (A2 (F0 Z Z) Z (A2 (A3 Z Z) Z (A8 Z Z Z Z (fun hg => by rw [hg]; exact A3 Z Z) ?_)))))); refine A8 Z Z Z Z (fun hg => by rw [hg]; exact A3 Z Z) ?_; refine A8 Z Z Z Z (fun hg => by rw [hg]; exact F8 Z (.pure _ _ _ _)) ?_; refine A8 Z Z Z Z (fun hg => by rw [hg]; exact F0 Z Z) ?_; refine A2 (B2 Z (fun h => by first | rfl | (rw [h]; rfl)) (fun h => by first | rfl | (rw [h]; rfl))) Z ?_; refine A6 ?_
 refine k1 ?_
 refine B3 rfl (fun ht => ?_) (fun ht => ?_)
 ·have hor := A0 (or_pick.symm.trans ht)
  refine c_skip ?_
  refine J6 ?_
  refine k3 (k3 (k2 ?_))
  have hTi : i < a.length → (distTable a b)[i]? = some (O2 a b i 0) := fun h => distRows_get a b 0 i (Nat.zero_le _) (by omega)
  have hTn : i < a.length → (distTable a b)[i + 1]? = some (O2 a b (i + 1) 0) := fun h => distRows_get a b 0 (i + 1) (Nat.zero_le _) (by omega)
  have hva : i < a.length → a[i]? = some (a.getD i 0) := fun h => by simp [List.getD_eq_getElem?_getD, h]
  have hvb : j < b.length → b[j]? = some (b.getD j 0) := fun h => by simp [List.getD_eq_getElem?_getD, h]
  have hga : ∀ h : i < a.length, a.getD i 0 = a[i] := fun h => by simp [List.getD_eq_getElem?_getD, h]
  have hgb : ∀ h : j < b.length, b.getD j 0 = b[j] := fun h => by simp [List.getD_eq_getElem?_getD, h]
  refine C2 (by kernel_rfl) (by kernel_rfl) (A9 (A3 Z Z) Z Z (A9 (A3 Z Z) Z Z (A9 (F8 Z (.pure _ _ _ _)) Z Z (A9 (F0 Z Z) Z Z (A9 (A3 Z Z) Z Z (B6 Z Z (fun hg => by rw [hg]; exact A3 Z Z) Z Z ?_)))))); refine B6 Z Z (fun hg => by rw [hg]; exact A3 Z Z) Z Z ?_; refine B6 Z Z (fun hg => by rw [hg]; exact F8 Z (.pure _ _ _ _)) Z Z ?_; refine B6 Z Z (fun hg => by rw [hg]; exact F0 Z Z) Z Z ?_; refine A9 (B2 Z (fun h => by first | rfl | (rw [h]; rfl)) (fun h => by first | rfl | (rw [h]; rfl))) Z Z ?_; refine A9 (A3 Z Z) Z Z (B6 Z Z (fun hg => by rw [hg]; exact A3 Z Z) Z Z ?_); refine B6 Z Z (fun hg => by rw [hg]; exact A3 Z Z) Z Z ?_; refine B6 Z Z (fun hg => by have hq := hg; (try simp at hq); rw [hg]; exact B4 Z (.pure _ _ _ _) Z (by omega) (hva (by omega))) Z Z ?_; refine B6 Z Z (fun hg => by rw [hg]; exact B8 Z Z) Z Z ?_; refine B6 Z Z (fun hg => by rw [hg]; exact A3 Z Z) Z Z ?_; refine B6 Z Z (fun hg => by rw [hg]; exact A3 Z Z) Z Z ?_; refine B6 Z Z (fun hg => by have hq := hg; (try simp at hq); rw [hg]; exact B4 Z (.pure _ _ _ _) Z (by omega) (hvb (by omega))) Z Z ?_; refine B6 Z Z (fun hg => by rw [hg]; exact B8 Z Z) Z Z ?_; refine B6 Z Z (fun hg => by rw [hg]; exact G6 Z Z) Z Z ?_; refine A9 (B2 Z (fun h => by first | rfl | (rw [h]; rfl)) (fun h => by first | rfl | (rw [h]; rfl))) Z Z ?_; refine A9 (A4 Z Z) Z Z (H3 ?_)
  refine k1 ?_
  refine B3 rfl (fun ht => ?_) (fun ht => ?_)
  ·simp only [H2] at ht
   obtain ⟨⟨hia, hjb⟩, heq⟩ := A0 ht
   have hia' : i < a.length := by omega
   have hjb' : j < b.length := by omega
   rw [hga hia', hgb hjb'] at heq
   rw [walkGo_drop a b i j hia' hjb', if_pos heq] at hp
   refine k2 ?_
   refine A5 (A2 (A3 Z Z) Z (A2 (A3 Z Z) Z (A2 (A3 Z Z) Z (A2 (G4 Z) Z (A2 (D6 (c := spanC) (ys := [⟨_, _⟩]) (E3 Z Z Z Z H1) Z Z Z) Z (C8 (J3 Z Z Z (.pure _ _ _ _) (by simp; omega) Z) Z (A2 (A4 Z Z) Z (A6 ?_))))))))
   refine k1 ?_
   refine A5 (A2 (A3 Z Z) Z (A2 (C3 Z Z (by omega)) Z (A2 (A3 Z Z) Z (A2 (C3 Z Z (by omega)) Z (A2 (A4 Z Z) Z (A2 (A4 Z Z) Z (A6 ?_)))))))
   refine k4 (k4 (k1 ?_))
   exact ⟨(i + 1, j + 1, out ++ [⟨i, j⟩]), ⟨by dsimp only; omega, by dsimp only; omega, by dsimp only; simp; omega, by dsimp only; rw [List.append_assoc]; exact hp⟩, by dsimp only; omega, Sees.of ⟨le1 rfl, le1 rfl, le1 rfl, le1 rfl, le1 rfl, le1 rfl, trivial⟩ ⟨rfl, trivial⟩⟩
  ·have hne : ∀ (h1 : i < a.length) (h2 : j < b.length), a[i] ≠ b[j] := fun h1 h2 h => by
    simp only [H2] at ht
    exact A1 ht ⟨⟨by omega, by omega⟩, by rw [hga h1, hgb h2]; exact h⟩
   refine k2 ?_
   refine C2 (by kernel_rfl) (by kernel_rfl) (A9 (A3 Z Z) Z Z (A9 (A3 Z Z) Z Z (A9 (F8 Z (.pure _ _ _ _)) Z Z (A9 (F0 Z Z) Z Z (A9 (A3 Z Z) Z Z (B6 Z Z (fun hg => by rw [hg]; exact A3 Z Z) Z Z ?_)))))); refine B6 Z Z (fun hg => by rw [hg]; exact A3 Z Z) Z Z ?_; refine B6 Z Z (fun hg => by have hq := hg; (try simp at hq); rw [hg]; exact C3 Z Z (by omega)) Z Z ?_; refine B6 Z Z (fun hg => by have hq := hg; (try simp at hq); rw [hg]; exact B4 Z (.pure _ _ _ _) Z (by omega) (hTn (by omega))) Z Z ?_; refine B6 Z Z (fun hg => by rw [hg]; exact B8 Z Z) Z Z ?_; refine B6 Z Z (fun hg => by rw [hg]; exact A3 Z Z) Z Z ?_; refine B6 Z Z (fun hg => by have hq := hg; (try simp at hq); rw [hg]; exact B4 Z (.pure _ _ _ _) Z (by omega) (o7 a b (i + 1) 0 j (Nat.zero_le _) hj)) Z Z ?_; refine B6 Z Z (fun hg => by rw [hg]; exact B8 Z Z) Z Z ?_; refine B6 Z Z (fun hg => by have hq := hg; (try simp at hq); have h1 := dist_le (a.drop (i + 1)) (b.drop j); simp only [List.length_drop] at h1; rw [hg]; exact C3 Z Z (by omega)) Z Z ?_; refine B6 Z Z (fun hg => by rw [hg]; exact A3 Z Z) Z Z ?_; refine B6 Z Z (fun hg => by rw [hg]; exact A3 Z Z) Z Z ?_; refine B6 Z Z (fun hg => by have hq := hg; (try simp at hq); rw [hg]; exact B4 Z (.pure _ _ _ _) Z (by omega) (hTi (by omega))) Z Z ?_; refine B6 Z Z (fun hg => by rw [hg]; exact B8 Z Z) Z Z ?_; refine B6 Z Z (fun hg => by rw [hg]; exact A3 Z Z) Z Z ?_; refine B6 Z Z (fun hg => by have hq := hg; (try simp at hq); rw [hg]; exact B4 Z (.pure _ _ _ _) Z (by omega) (o7 a b i 0 j (Nat.zero_le _) hj)) Z Z ?_; refine B6 Z Z (fun hg => by rw [hg]; exact B8 Z Z) Z Z ?_; refine B6 Z Z (fun hg => by rw [hg]; exact G6 Z Z) Z Z ?_; refine A9 (B2 Z (fun h => by first | rfl | (rw [h]; rfl)) (fun h => by first | rfl | (rw [h]; rfl))) Z Z ?_; refine A9 (A4 Z Z) Z Z (H3 ?_)
   refine k1 ?_
   refine B3 rfl (fun ht => ?_) (fun ht => ?_)
   ·rw [H2] at ht
    obtain ⟨hia, hd⟩ := A0 ht
    have hia' : i < a.length := by omega
    have hp' : out ++ J9 (i + 1 : Nat) j (a.drop (i + 1)) (b.drop j) = J9 0 0 a b := by
     by_cases hjb : j < b.length
     ·rw [walkGo_drop a b i j hia' hjb, if_neg (hne hia' hjb), if_pos (by omega)] at hp
      exact hp
     ·rw [List.drop_eq_nil_of_le (show b.length ≤ j by omega), walkGo_nil_right] at hp ⊢
      exact hp
    skip
    refine A5 (A2 (A3 Z Z) Z (A2 (C3 Z Z (by omega)) Z (A2 (A4 Z Z) Z (A6 ?_))))
    refine k4 (k4 (k1 ?_))
    exact ⟨(i + 1, j, out), ⟨by dsimp only; omega, by dsimp only; omega, by dsimp only; omega, hp'⟩, by dsimp only; omega, Sees.of ⟨le1 rfl, le1 rfl, le1 rfl, le1 rfl, le1 rfl, le1 rfl, trivial⟩ ⟨rfl, trivial⟩⟩
   ·rw [H2] at ht
    have hd := A1 ht
    have hjb : j < b.length := by
     refine Classical.byContradiction fun h => ?_
     have hjb : j = b.length := by omega
     have hia : i < a.length := by omega
     apply hd
     refine ⟨by omega, ?_⟩
     rw [List.drop_eq_nil_of_le (show b.length ≤ j by omega), dist_nil, dist_nil, List.length_drop, List.length_drop]
     omega
    have hp' : out ++ J9 i (j + 1 : Nat) (a.drop i) (b.drop (j + 1)) = J9 0 0 a b := by
     by_cases hia : i < a.length
     ·rw [walkGo_drop a b i j hia hjb, if_neg (hne hia hjb), if_neg (fun h => hd ⟨by omega, by omega⟩)] at hp
      exact hp
     ·rw [List.drop_eq_nil_of_le (show a.length ≤ i by omega), walkGo_nil_left] at hp ⊢
      exact hp
    skip
    refine A5 (A2 (A3 Z Z) Z (A2 (C3 Z Z (by omega)) Z (A2 (A4 Z Z) Z (A6 ?_))))
    refine k4 (k4 (k1 ?_))
    exact ⟨(i, j + 1, out), ⟨by dsimp only; omega, by dsimp only; omega, by dsimp only; omega, hp'⟩, by dsimp only; omega, Sees.of ⟨le1 rfl, le1 rfl, le1 rfl, le1 rfl, le1 rfl, le1 rfl, trivial⟩ ⟨rfl, trivial⟩⟩
 ·have hor := A1 (or_pick.symm.trans ht)
  have hi' : i = a.length := by omega
  have hj' : j = b.length := by omega
  rw [hi', List.drop_eq_nil_of_le (Nat.le_refl a.length)] at hp
  have hout : out = J9 0 0 a b := by rw [← hp]; simp [J9]
  refine k6 (k2 ?_)
  refine A5 (A2 (A3 Z Z) Z (A2 (A3 Z Z) Z (A2 (F8 Z (.pure _ _ _ _)) Z (A2 (A3 Z Z) Z (A2 (F8 Z (.pure _ _ _ _)) Z (C0 (made_ok out a.length b.length (by omega) (fun s hs => by have := walkGo_bound a b 0 0 s (hout ▸ hs); omega) (by omega)) Z Z Z ?_)))))); rintro _ rfl; refine A2 (A4 Z Z) Z (A6 ?_)
  refine k1 (k10 ?_)
  exact B5 (G8 rfl rfl rfl) (by rw [hout]; rfl)
theorem matched_ok (l : List Change) (m : Int) (hl : l.length ≤ 1048576) (hm : m ≤ 536870911) (hb : ∀ c ∈ l, c.Old ≤ 536870911 ∧ 0 ≤ c.OldLen ∧ c.OldLen ≤ 1048576 ∧ 0 ≤ c.NewLen ∧ c.NewLen ≤ 1048576) :
  FnOk Tryz.prog 184 [pChanges l, D2 m] (fun rs => rs = [pSpans (U8 l m)]) := by
 refine FnOk.intro Tryz.func184 (by decide) Z Z Z Z ?_
 refine k2 ?_
 refine A5 (A2 (A4 Z Z) Z (A6 ?_))
 refine k1 (k2 ?_)
 refine A5 (C8 (n3 5 _ spanC Z) Z (A6 ?_))
 refine k1 (k2 ?_)
 refine A5 (A2 (A4 Z Z) Z (A2 (A4 Z Z) Z (A6 ?_)))
 refine k1 (k2 (k2 ?_))
 refine A5 (A2 (A4 Z Z) Z (A6 ?_))
 refine k1 (k3 ?_)
 refine E9 (X := Nat × Int × Int × List Span) (fun x => ([(0, E8 Change 4 changeC l), (1, C6 m), (5, .s (.one (.buf 5 Span 2 spanC x.2.2.2))), (6, C6 x.2.1), (7, C6 x.2.2.1), (8, C6 x.1)], [(5, .spare x.2.2.2.length 2 109)]))
  (fun x => x.1 ≤ l.length ∧ 0 ≤ x.2.1 ∧ (x.2.2.2.length : Int) ≤ x.2.1 ∧ x.2.1 ≤ 536870911 + x.1 * 1048576 ∧ 0 ≤ x.2.2.1 ∧ x.2.2.1 ≤ 536870911 * (x.1 + 1) + x.1 * 1048576 ∧ x.2.2.2.length ≤ 536870911 ∧ x.2.2.2 ++ S5 x.2.1 x.2.2.1 (l.drop x.1) m = U8 l m)
  (fun x => l.length - x.1) (0, 0, 0, []) (by simp [U8]) (Sees.of ⟨le1 rfl, le1 rfl, le1 rfl, le1 rfl, le1 rfl, le1 rfl, trivial⟩ ⟨rfl, trivial⟩) ?_
 rintro ⟨k, i, j, out⟩ ⟨hk, hi, ho, hi2, hj, hj2, ho2, hp⟩
 dsimp only at hk hi ho hi2 hj hj2 ho2 hp ⊢
 refine k2 (k2 ?_)
 refine A5 (A2 (A3 Z Z) Z (A2 (A3 Z Z) Z (A2 (F8 Z (.pure _ _ _ _)) Z (A2 (F0 Z Z) Z (A6 ?_)))))
 refine k1 ?_
 refine B3 rfl (fun ht => ?_) (fun ht => ?_)
 ·have hlt : k < l.length := by have := A0 ht; omega
  have hv : l[k]? = some l[k] := by simp [hlt]
  have hc := hb l[k] (List.getElem_mem hlt)
  rw [List.drop_eq_getElem_cons hlt, S5] at hp
  refine k5 (k1 (k2 (k3 (k2 (k3 ?_)))))
  refine E9 (X := Nat) (fun t => ([(0, E8 Change 4 changeC l), (1, C6 m), (5, .s (.one (.buf 5 Span 2 spanC (out ++ U0 i j t)))), (6, C6 (i + t)), (7, C6 (j + t)), (8, C6 k)], [(5, .spare (out ++ U0 i j t).length 2 109)]))
   (fun t => t ≤ (l[k].Old - i).toNat) (fun t => (l[k].Old - i).toNat - t) 0 (Nat.zero_le _) (by rw [spanRun_zero, List.append_nil]; exact Sees.of ⟨le1 rfl, le1 rfl, le1 rfl, leE rfl (by first | (simp; done) | (simp; omega)), leE rfl (by first | (simp; done) | (simp; omega)), le1 rfl, trivial⟩ ⟨rfl, trivial⟩) ?_
  intro t htl
  dsimp only at htl ⊢
  have hsl := i6 i j t
  refine k2 (k2 ?_)
  have hol : out.length + t ≤ 536870911 := by omega
  refine A5 (A2 (A3 Z Z) Z (A2 (A3 Z Z) Z (A2 (A3 Z Z) Z (A2 (B4 Z (.pure _ _ _ _) Z (by omega) hv) Z (A2 (C7 Z) Z (A2 (B8 Z Z) Z (A2 (F0 Z Z) Z (A6 ?_))))))))
  refine k1 ?_
  refine B3 rfl (fun ht => ?_) (fun ht => ?_)
  ·have h1 := A0 ht
   refine k5 (k1 (k3 (k2 ?_)))
   refine A5 (A2 (A3 Z Z) Z (A2 (A3 Z Z) Z (A2 (A3 Z Z) Z (A2 (G4 Z) Z (A2 (D6 (c := spanC) (ys := [⟨_, _⟩]) (E3 Z Z Z Z H1) Z Z Z) Z (C8 (J3 Z Z Z (.pure _ _ _ _) (by (simp; omega)) Z) Z (A2 (A4 Z Z) Z (A6 ?_))))))))
   refine k1 ?_
   refine A5 (A2 (A3 Z Z) Z (A2 (C3 Z Z (by omega)) Z (A2 (A3 Z Z) Z (A2 (C3 Z Z (by omega)) Z (A2 (A4 Z Z) Z (A2 (A4 Z Z) Z (A6 ?_)))))))
   refine k4 (k1 ?_)
   refine ⟨t + 1, by omega, by omega, ?_⟩
   rw [spanRun_snoc, ← List.append_assoc]
   exact Sees.of ⟨le1 rfl, le1 rfl, le1 rfl, leE rfl (by first | (simp; done) | (simp; omega)), leE rfl (by first | (simp; done) | (simp; omega)), le1 rfl, trivial⟩ ⟨rfl, trivial⟩
  ·have h1 := A1 ht
   have h2 : t = (l[k].Old - i).toNat := by omega
   rw [← h2] at hp
   have h3 : max i l[k].Old = i + t := by omega
   rw [h3] at hp
   refine k6 (k7 (k7 (k8 Z (k1 ?_))))
   refine C2 (by kernel_rfl) (by kernel_rfl) (A9 (A3 Z Z) Z Z (A9 (A3 Z Z) Z Z (A9 (A3 Z Z) Z Z (A9 (B4 Z (.pure _ _ _ _) Z (by omega) hv) Z Z (A9 (C7 Z) Z Z (A9 (B8 Z Z) Z Z (A9 (C3 Z Z (by omega)) Z Z (A9 (A3 Z Z) Z Z (A9 (A3 Z Z) Z Z (A9 (A3 Z Z) Z Z (A9 (B4 Z (.pure _ _ _ _) Z (by omega) hv) Z Z (A9 (C7 Z) Z Z (A9 (B8 Z Z) Z Z (A9 (C3 Z Z (by omega)) Z Z (A9 (A4 Z Z) Z Z (A9 (A4 Z Z) Z Z (H3 ?_)))))))))))))))))
   refine k4 (k1 ?_)
   refine A5 (A2 (A3 Z Z) Z (A2 (C3 Z Z (by omega)) Z (A2 (A4 Z Z) Z (A6 ?_))))
   refine k1 ?_
   exact ⟨(k + 1, i + t + l[k].OldLen, j + t + l[k].NewLen, out ++ U0 i j t), ⟨by dsimp only; omega, by dsimp only; omega, by dsimp only; rw [List.length_append, hsl]; omega, by dsimp only; omega, by dsimp only; omega, by dsimp only; omega, by dsimp only; rw [List.length_append, hsl]; omega, by dsimp only; rw [List.append_assoc]; exact hp⟩, by dsimp only; omega, Sees.of ⟨le1 rfl, le1 rfl, le1 rfl, le1 rfl, le1 rfl, le1 rfl, trivial⟩ ⟨rfl, trivial⟩⟩
 ·have hk' : k = l.length := by have := A1 ht; omega
  rw [hk', List.drop_eq_nil_of_le (Nat.le_refl _), S5] at hp
  refine k6 (k2 (k3 ?_))
  refine E9 (X := Nat) (fun t => ([(1, C6 m), (5, .s (.one (.buf 5 Span 2 spanC (out ++ U0 i j t)))), (6, C6 (i + t)), (7, C6 (j + t))], [(5, .spare (out ++ U0 i j t).length 2 109)]))
   (fun t => t ≤ (m - i).toNat) (fun t => (m - i).toNat - t) 0 (Nat.zero_le _) (by rw [spanRun_zero, List.append_nil]; exact Sees.of ⟨le1 rfl, le1 rfl, leE rfl (by first | (simp; done) | (simp; omega)), leE rfl (by first | (simp; done) | (simp; omega)), trivial⟩ ⟨rfl, trivial⟩) ?_
  intro t htl
  dsimp only at htl ⊢
  have hsl := i6 i j t
  have hol : out.length + t ≤ 536870911 := by omega
  refine k2 (k2 ?_)
  refine A5 (A2 (A3 Z Z) Z (A2 (A3 Z Z) Z (A2 (F0 Z Z) Z (A6 ?_))))
  refine k1 ?_
  refine B3 rfl (fun ht => ?_) (fun ht => ?_)
  ·have h1 := A0 ht
   refine k5 (k1 (k3 (k2 ?_)))
   refine A5 (A2 (A3 Z Z) Z (A2 (A3 Z Z) Z (A2 (A3 Z Z) Z (A2 (G4 Z) Z (A2 (D6 (c := spanC) (ys := [⟨_, _⟩]) (E3 Z Z Z Z H1) Z Z Z) Z (C8 (J3 Z Z Z (.pure _ _ _ _) (by (simp; omega)) Z) Z (A2 (A4 Z Z) Z (A6 ?_))))))))
   refine k1 ?_
   refine A5 (A2 (A3 Z Z) Z (A2 (C3 Z Z (by omega)) Z (A2 (A3 Z Z) Z (A2 (C3 Z Z (by omega)) Z (A2 (A4 Z Z) Z (A2 (A4 Z Z) Z (A6 ?_)))))))
   refine k4 (k1 ?_)
   refine ⟨t + 1, by omega, by omega, ?_⟩
   rw [spanRun_snoc, ← List.append_assoc]
   exact Sees.of ⟨le1 rfl, le1 rfl, leE rfl (by first | (simp; done) | (simp; omega)), leE rfl (by first | (simp; done) | (simp; omega)), trivial⟩ ⟨rfl, trivial⟩
  ·have h1 := A1 ht
   have h2 : t = (m - i).toNat := by omega
   refine k6 (k2 ?_)
   refine A5 (A2 (A3 Z Z) Z (A2 (A4 Z Z) Z (A6 ?_)))
   refine k1 (k10 ?_)
   exact B5 (G8 rfl rfl rfl) (by rw [h2, hp])
theorem u64_in {n : Int} (h : 0 ≤ n ∧ n < 18446744073709551616) : IntKind.u64.wrap n = n := by simp [IntKind.wrap, IntKind.signed, IntKind.bits]; omega
def W0 (a n : Int) : Int := IntKind.u64.wrap a % n
theorem w7 (a : Int) {n : Int} (h : 1 ≤ n) : 0 ≤ W0 a n ∧ W0 a n < n := ⟨Int.emod_nonneg _ (by omega), Int.emod_lt_of_pos _ (by omega)⟩
theorem mod_ok (a n : Int) (hn : 1 ≤ n) (hn' : n ≤ 9223372036854775807) : FnOk Tryz.prog 18 [D2 a, D2 n] (fun rs => rs = [D2 (W0 a n)]) := by
 refine FnOk.intro Tryz.func18 (by decide) Z Z Z Z ?_
 refine k2 ?_
 refine A5 (A2 (A4 Z Z) Z (A6 ?_))
 refine k1 (k2 ?_)
 have h1 : IntKind.u64.wrap n = n := u64_in (by omega)
 refine A5 (A2 (A3 Z Z) Z (A2 (O1 Z) Z (A2 (A3 Z Z) Z (A2 (O1 Z) Z (A2 (n_rem Z Z (by (rw [h1]; omega))) Z ?_))))); refine A2 (O1 Z) Z (A2 (A4 Z Z) Z (A6 ?_))
 refine k1 (k10 ?_)
 refine B5 (G8 Z Z Z) ?_
 have h2 := u64_nonneg a
 have h3 : (IntKind.u64.wrap a).tmod n = IntKind.u64.wrap a % n := Int.tmod_eq_emod_of_nonneg h2
 have h4 := w7 a hn
 unfold W0 at *
 rw [h1, h3, i64_wrap_in ⟨by omega, by omega⟩]
def xor64 (a b : Int) : Int := IntKind.u64.wrap ((BitVec.ofInt IntKind.u64.bits a ^^^ BitVec.ofInt IntKind.u64.bits b).toNat : Int)
def shr64 (a n : Int) : Int := a.fdiv (2 ^ (min n.toNat IntKind.u64.bits))
def at0 (k : Int) : Int := IntKind.u64.wrap (IntKind.u64.wrap (k + 1) * 11400714819323198485)
def at1 (raw : List Int) (k : Int) : Int := if 0 < raw.length then xor64 (at0 k) (IntKind.u64.wrap (raw.getD (k.tmod raw.length).toNat 0)) else at0 k
def at2 (x : Int) : Int := IntKind.u64.wrap (xor64 x (shr64 x 31) * 13787848793156543929)
def atOf (raw : List Int) (k : Int) : Int := IntKind.i64.wrap (shr64 (xor64 (at2 (at1 raw k)) (shr64 (at2 (at1 raw k)) 29)) 1)
theorem at_ok (raw : List Int) (k : Int) (h0 : 0 ≤ k) (h1 : k ≤ 1099511627776) : FnOk Tryz.prog 25 [Y0 raw, D2 k] (fun rs => rs = [D2 (atOf raw k)]) := by
 refine FnOk.intro Tryz.func25 (by decide) Z Z Z Z ?_
 refine c_bound (t := 0) rfl (.pure _ _ _ _) fun hlen => ?_
 refine k2 ?_
 refine A5 (A2 (A4 Z Z) Z (A6 ?_))
 refine k1 (k2 ?_)
 refine A5 (A2 (A3 Z Z) Z (A2 (C3 Z Z (by omega)) Z (A2 (O1 Z) Z (A2 (n_mul_w Z Z) Z (A2 (A4 Z Z) Z (A6 ?_))))))
 refine J6 ?_
 refine V9 [(0, E8 Int 1 Y8 raw), (1, C6 k), (5, J1 (.int .u64 (at1 raw k)))] [] ?_ ?_
 ·refine k2 ?_
  refine A5 (A2 (A3 Z Z) Z (A2 (F8 Z (.pure _ _ _ _)) Z (A2 (L9 Z Z) Z (A6 ?_))))
  refine k1 ?_
  refine B3 rfl (fun ht => ?_) (fun ht => ?_)
  ·have hpos : 0 < raw.length := by have := A0 ht; omega
   have hm0 : 0 ≤ k.tmod raw.length := Int.tmod_nonneg _ h0
   have hm1 : k.tmod raw.length < raw.length := Int.tmod_lt_of_pos _ (by omega)
   have hv : raw[(k.tmod raw.length).toNat]? = some (raw.getD (k.tmod raw.length).toNat 0) := by
    rw [List.getD_eq_getElem?_getD, List.getElem?_eq_getElem (by omega)]; rfl
   skip
   refine A5 (A2 (A3 Z Z) Z (A2 (A3 Z Z) Z (A2 (A3 Z Z) Z (A2 (A3 Z Z) Z (A2 (F8 Z (.pure _ _ _ _)) Z (A2 (n_rem Z Z (by omega)) Z (A2 (B4 Z (.pure _ _ _ _) Z (by omega) hv) Z (A2 (B8 Z Z) Z (A2 (O1 Z) Z (A2 (n_bits Z Z Z (fun _ => rfl)) Z (A2 (A4 Z Z) Z (A6 ?_))))))))))))
   refine k1 ?_
   rw [at1, if_pos hpos]
   exact Sees.of ⟨le1 rfl, le1 rfl, le1 rfl, trivial⟩ trivial
  ·have hpos : ¬ 0 < raw.length := by have := A1 ht; omega
   refine k5 (k1 ?_)
   rw [at1, if_neg hpos]
   exact Sees.of ⟨le1 rfl, le1 rfl, le1 rfl, trivial⟩ trivial
 ·refine k2 ?_
  refine A5 (A2 (A3 Z Z) Z (A2 (A3 Z Z) Z (A2 (n_shr Z Z (by omega)) Z (A2 (n_bits Z Z Z (fun _ => rfl)) Z (A2 (n_mul_w Z Z) Z (A2 (A4 Z Z) Z (A6 ?_)))))))
  refine k1 (k2 ?_)
  refine A5 (A2 (A3 Z Z) Z (A2 (A3 Z Z) Z (A2 (n_shr Z Z (by omega)) Z (A2 (n_bits Z Z Z (fun _ => rfl)) Z (A2 (n_shr Z Z (by omega)) Z (A2 (O1 Z) Z (A2 (A4 Z Z) Z (A6 ?_))))))))
  refine k1 (k10 ?_)
  exact B5 (G8 rfl rfl rfl) rfl
def lineTab : List Str := [[97], [98], [99], [97, 98], [98, 97], [], [97, 97], [98, 32, 97], [120, 43, 121], [92]]
def lineOf (k : Int) : Str := lineTab.getD (W0 k 10).toNat []
theorem lineTab_len : ∀ s ∈ lineTab, s.length ≤ 3 := by decide
theorem lineOf_len (k : Int) : (lineOf k).length ≤ 3 := by
 unfold lineOf
 rw [List.getD_eq_getElem?_getD]
 cases h : lineTab[(W0 k 10).toNat]? with
 | none => simp
 | some s => exact lineTab_len s (List.mem_of_getElem? h)
theorem gline_ok (k : Int) : FnOk Tryz.prog 24 [D2 k] (fun rs => rs = [F6 (lineOf k)]) := by
 refine FnOk.intro Tryz.func24 (by decide) Z Z Z Z ?_
 refine k2 ?_
 refine A5 (A2 (A4 Z Z) Z (A6 ?_))
 refine k1 (k2 ?_)
 have hm := w7 k (n := 10) (by decide)
 have hv : lineTab[(W0 k 10).toNat]? = some (lineOf k) := by
  unfold lineOf
  rw [List.getD_eq_getElem?_getD, List.getElem?_eq_getElem (show (W0 k 10).toNat < lineTab.length by simp [lineTab]; omega)]; rfl
 refine A5 (A2 (D6 (c := K8) (ys := lineTab) (E3 Z Z Z Z (E3 Z Z Z Z (E3 Z Z Z Z (E3 Z Z Z Z (E3 Z Z Z Z (E3 Z Z Z Z (E3 Z Z Z Z (E3 Z Z Z Z (E3 Z Z Z Z (E3 Z Z Z Z H1)))))))))) Z Z Z) Z (A2 (A3 Z Z) Z (C0 (mod_ok k 10 (by decide) (by decide)) Z Z Z ?_))); rintro _ rfl; refine A2 (B4 Z (.pure _ _ _ _) Z (by omega) hv) Z (A2 (B8 Z Z) Z (A2 (A4 Z Z) Z (A6 ?_)))
 refine k1 (k10 ?_)
 exact B5 (G8 rfl rfl rfl) rfl
theorem ids_ok (fs : List (List Str)) (hfs : fs.flatten.length ≤ 536870912) (hf1 : fs.length ≤ 536870912) : FnOk Tryz.prog 78 [pStrss fs] (fun rs => rs = [pIntss (fs.map (G9 (E4 fs)))]) := by
 refine FnOk.intro Tryz.func78 (by decide) Z Z Z Z ?_
 refine k2 ?_
 refine A5 (A2 (A4 Z Z) Z (A6 ?_))
 refine k1 (k2 ?_)
 refine A5 (A2 (A3 Z Z) Z (C0 (names_ok fs hfs) Z Z Z ?_)); rintro _ rfl; refine A2 (A4 Z Z) Z (A6 ?_)
 refine k1 (k2 ?_)
 refine A5 (C8 (n3 4 _ intsC Z) Z (A6 ?_))
 refine k1 (k2 (k2 ?_))
 refine A5 (A2 (A4 Z Z) Z (A6 ?_))
 refine k1 (k3 ?_)
 refine E9 (X := Nat) (fun f => ([(0, E8 (List Str) 1 strsC fs), (3, E8 Str 1 K8 (E4 fs)), (4, .s (.one (.buf 4 (List Int) 1 intsC ((fs.take f).map (G9 (E4 fs)))))), (5, C6 f)], [(4, .spare ((fs.take f).map (G9 (E4 fs))).length 1 25)])) (fun f => f ≤ fs.length) (fun f => fs.length - f) 0 (by simp) (Sees.of ⟨le1 rfl, le1 rfl, le1 rfl, le1 rfl, trivial⟩ ⟨rfl, trivial⟩) ?_
 intro f hf
 dsimp only at hf ⊢
 refine k2 (k2 ?_)
 refine A5 (A2 (A3 Z Z) Z (A2 (A3 Z Z) Z (A2 (F8 Z (.pure _ _ _ _)) Z (A2 (F0 Z Z) Z (A6 ?_)))))
 refine k1 ?_
 have hfl : ((fs.take f).map (G9 (E4 fs))).length = f := by simp; omega
 refine B3 rfl (fun ht => ?_) (fun ht => ?_)
 ·have hlt : f < fs.length := by have := A0 ht; omega
  have hv : fs[f]? = some fs[f] := by simp [hlt]
  have hle := U4 fs (f + 1)
  rw [V5 fs f hlt, List.length_append] at hle
  refine k5 (k1 (k2 (k3 (k2 ?_))))
  refine A5 (C8 (f_buildBuf 16 (c := Y8) (ys := []) H1 Z Z Z (by first | rfl | (simp [H5, M4, Ob.free, SV.free, S1.free, TC.free] <;> rfl))) Z ?_); refine A2 (A4 Z Z) Z (A6 ?_)
  refine k1 (k2 (k2 ?_))
  refine A5 (A2 (A4 Z Z) Z (A6 ?_))
  refine k1 (k3 ?_)
  refine E9 (X := Nat) (fun i => ([(0, E8 (List Str) 1 strsC fs), (3, E8 Str 1 K8 (E4 fs)), (4, .s (.one (.buf 4 (List Int) 1 intsC ((fs.take f).map (G9 (E4 fs)))))), (5, C6 f), (6, .s (.one (.buf 16 Int 1 Y8 (G9 (E4 fs) (fs[f].take i))))), (7, C6 i)], [(4, .spare ((fs.take f).map (G9 (E4 fs))).length 1 25), (16, .spare (G9 (E4 fs) (fs[f].take i)).length 1 3)])) (fun i => i ≤ fs[f].length) (fun i => fs[f].length - i) 0 (by simp) (Sees.of ⟨le1 rfl, le1 rfl, le1 rfl, le1 rfl, le1 rfl, le1 rfl, trivial⟩ ⟨rfl, rfl, trivial⟩) ?_
  intro i hi
  dsimp only at hi ⊢
  have hil : (G9 (E4 fs) (fs[f].take i)).length = i := by simp [G9]; omega
  refine k2 (k2 ?_)
  refine A5 (A2 (A3 Z Z) Z (A2 (A3 Z Z) Z (A2 (A3 Z Z) Z (A2 (B4 Z (.pure _ _ _ _) Z (by omega) hv) Z (A2 (B8 Z Z) Z (A2 (F8 Z (.pure _ _ _ _)) Z (A2 (F0 Z Z) Z (A6 ?_))))))))
  refine k1 ?_
  refine B3 rfl (fun ht => ?_) (fun ht => ?_)
  ·have hlt2 : i < fs[f].length := by have := A0 ht; omega
   have hvi : fs[f][i]? = some fs[f][i] := by simp [hlt2]
   have hst : G9 (E4 fs) (fs[f].take (i + 1)) = G9 (E4 fs) (fs[f].take i) ++ [N5 (E4 fs) fs[f][i] 0] := by
    unfold G9; rw [List.take_add_one, hvi, Option.toList_some, List.map_append]; rfl
   refine k5 (k1 (k2 (k3 ?_)))
   refine A5 (A2 (A3 Z Z) Z (A2 (A3 Z Z) Z (A2 (A3 Z Z) Z (A2 (A3 Z Z) Z (A2 (B4 Z (.pure _ _ _ _) Z (by omega) hv) Z (A2 (B8 Z Z) Z (A2 (A3 Z Z) Z (A2 (B4 Z (.pure _ _ _ _) Z (by omega) hvi) Z (A2 (B8 Z Z) Z (C0 (place_ok _ _) Z Z Z ?_)))))))))); rintro _ rfl; refine A2 (D6 (c := Y8) (ys := [_]) (E3 Z Z Z Z H1) Z Z Z) Z (C8 (J3 Z Z Z (.pure _ _ _ _) (by (simp only [List.length_cons, List.length_nil]; omega)) Z) Z (A2 (A4 Z Z) Z (A6 ?_)))
   refine k4 (k1 ?_)
   refine A5 (A2 (A3 Z Z) Z (A2 (C3 Z Z (by omega)) Z (A2 (A4 Z Z) Z (A6 ?_))))
   refine k1 ?_
   refine ⟨i + 1, by omega, by omega, ?_⟩
   rw [hst]
   exact Sees.of ⟨le1 rfl, le1 rfl, le1 rfl, le1 rfl, le1 rfl, le1 rfl, trivial⟩ ⟨rfl, rfl, trivial⟩
  ·have hi' : i = fs[f].length := by have := A1 ht; omega
   have hst : (fs.take (f + 1)).map (G9 (E4 fs)) = (fs.take f).map (G9 (E4 fs)) ++ [G9 (E4 fs) (fs[f].take i)] := by
    rw [List.take_add_one, hv, Option.toList_some, List.map_append, hi', List.take_length]; rfl
   refine k6 (k7 (k7 (k8 Z (k1 ?_))))
   refine A5 (A2 (A3 Z Z) Z (A2 (A3 Z Z) Z (A2 (D6 (c := intsC) (ys := [_]) (E3 Z Z Z Z H1) Z Z Z) Z (C8 (J3 Z Z Z (.pure _ _ _ _) (by (simp only [List.length_cons, List.length_nil]; omega)) Z) Z (A2 (A4 Z Z) Z (A6 ?_))))))
   refine k4 (k1 ?_)
   refine A5 (A2 (A3 Z Z) Z (A2 (C3 Z Z (by omega)) Z (A2 (A4 Z Z) Z (A6 ?_))))
   refine k1 ?_
   refine ⟨f + 1, by omega, by omega, ?_⟩
   rw [hst]
   exact Sees.of ⟨le1 rfl, le1 rfl, le1 rfl, le1 rfl, trivial⟩ ⟨rfl, trivial⟩
 ·have hk' : f = fs.length := by have := A1 ht; omega
  subst hk'
  refine k6 (k2 ?_)
  refine A5 (A2 (A3 Z Z) Z (A2 (A4 Z Z) Z (A6 ?_)))
  refine k1 (k10 ?_)
  exact B5 (G8 rfl rfl rfl) (by rw [List.take_length])
def Z9 (raw : List Int) (from' : Int) (kinds : Int) (m : Nat) : Str := ((List.range m).map fun (i : Nat) => lineOf (W0 (atOf raw (from' + 1 + (i : Int))) kinds) ++ [10]).flatten
def blobOf (raw : List Int) (from' n kinds : Int) : Str :=
 let s := Z9 raw from' kinds (W0 (atOf raw from') (n + 1)).toNat
 if ((atOf raw (from' + 90)).tmod 4 = 0 ∧ (1 : Int) < s.length) ∧ ((s.getD (s.length - 2) 0).toNat : Int) ≠ 10 then s.take (s.length - 1) else s
theorem blobLines_succ (raw : List Int) (from' kinds : Int) (m : Nat) : Z9 raw from' kinds (m + 1) = Z9 raw from' kinds m ++ lineOf (W0 (atOf raw (from' + 1 + (m : Int))) kinds) ++ [10] := by
 unfold Z9; rw [List.range_succ, List.map_append, List.flatten_append]; simp
theorem blobLines_len (raw : List Int) (from' kinds : Int) (m : Nat) : (Z9 raw from' kinds m).length ≤ 4 * m := by
 induction m with
 | zero => simp [Z9]
 | succ m ih => have := lineOf_len (W0 (atOf raw (from' + 1 + (m : Int))) kinds); rw [blobLines_succ]; simp only [List.length_append, List.length_cons, List.length_nil]; omega
theorem blob_ok (raw : List Int) (from' n kinds : Int) (h0 : 0 ≤ from' ∧ from' ≤ 1073741824) (h1 : 0 ≤ n ∧ n ≤ 1048576) (h2 : 1 ≤ kinds ∧ kinds ≤ 1048576) :
  FnOk Tryz.prog 39 [Y0 raw, D2 from', D2 n, D2 kinds] (fun rs => rs = [F6 (blobOf raw from' n kinds)]) := by
 obtain ⟨m, hm⟩ : ∃ m : Nat, W0 (atOf raw from') (n + 1) = m := ⟨(W0 (atOf raw from') (n + 1)).toNat, by have := w7 (atOf raw from') (n := n + 1) (by omega); omega⟩
 have hmi := w7 (atOf raw from') (n := n + 1) (by omega)
 have hml : m ≤ 1048576 := by omega
 refine FnOk.intro Tryz.func39 (by decide) Z Z Z Z ?_
 refine k2 ?_
 refine A5 (A2 (A4 Z Z) Z (A6 ?_))
 refine k1 (k2 ?_)
 refine A5 (A2 (A3 Z Z) Z (A2 (A3 Z Z) Z (C0 (at_ok raw from' (by omega) (by omega)) Z Z Z ?_))); rintro _ rfl; refine A2 (A3 Z Z) Z (A2 (C3 Z Z (by omega)) Z (C0 (mod_ok _ (n + 1) (by omega) (by omega)) Z Z Z ?_)); rintro _ rfl; refine A2 (A4 Z Z) Z (A6 ?_)
 refine k1 (k2 ?_)
 rw [hm]
 refine A5 (A2 (A4 Z Z) Z (A6 ?_))
 refine k1 (k2 (k2 ?_))
 refine A5 (A2 (A4 Z Z) Z (A6 ?_))
 refine k1 (k3 ?_)
 refine E9 (X := Nat) (fun i => ([(0, E8 Int 1 Y8 raw), (1, C6 from'), (2, C6 m), (3, C6 kinds), (9, N3 (Z9 raw from' kinds i)), (10, C6 i)], [])) (fun i => i ≤ m) (fun i => m - i) 0 (Nat.zero_le _) (Sees.of ⟨le1 rfl, le1 rfl, le1 rfl, le1 rfl, le1 rfl, le1 rfl, trivial⟩ trivial) ?_
 intro i hi
 dsimp only at hi ⊢
 have hbl := blobLines_len raw from' kinds i
 refine k2 (k2 ?_)
 refine A5 (A2 (A3 Z Z) Z (A2 (A3 Z Z) Z (A2 (F0 Z Z) Z (A6 ?_))))
 refine k1 ?_
 refine B3 rfl (fun ht => ?_) (fun ht => ?_)
 ·have hlt : i < m := by have := A0 ht; omega
  have hll := lineOf_len (W0 (atOf raw (from' + 1 + (i : Int))) kinds)
  refine k5 (k1 (k2 (k3 ?_)))
  refine A5 (A2 (A3 Z Z) Z (A2 (A3 Z Z) Z (A2 (A3 Z Z) Z (A2 (C3 Z Z (by omega)) Z (A2 (A3 Z Z) Z (A2 (C3 Z Z (by omega)) Z (C0 (at_ok raw _ (by omega) (by omega)) Z Z Z ?_))))))); rintro _ rfl; refine A2 (A3 Z Z) Z (C0 (mod_ok _ kinds (by omega) (by omega)) Z Z Z ?_); rintro _ rfl; refine C0 (gline_ok _) Z Z Z ?_; rintro _ rfl; refine A2 (F5 Z Z (by omega)) Z (A2 (F5 Z Z (by (simp only [List.length_append, List.length_cons, List.length_nil]; omega))) Z (A2 (A4 Z Z) Z (A6 ?_)))
  refine k4 (k1 ?_)
  refine A5 (A2 (A3 Z Z) Z (A2 (C3 Z Z (by omega)) Z (A2 (A4 Z Z) Z (A6 ?_))))
  refine k1 ?_
  refine ⟨i + 1, by omega, by omega, ?_⟩
  rw [blobLines_succ]
  exact Sees.of ⟨le1 rfl, le1 rfl, le1 rfl, le1 rfl, le1 rfl, le1 rfl, trivial⟩ trivial
 ·have hi' : i = m := by have := A1 ht; omega
  subst hi'
  obtain ⟨s, hs⟩ : ∃ s, s = Z9 raw from' kinds i := ⟨_, rfl⟩
  have hv : (1 : Int) < s.length → s[((s.length : Int) - 2).toNat]? = some (s.getD (s.length - 2) 0) := fun h => by
   rw [show ((s.length : Int) - 2).toNat = s.length - 2 by omega, List.getD_eq_getElem?_getD, List.getElem?_eq_getElem (by omega)]; rfl
  have hbo : blobOf raw from' n kinds = if ((atOf raw (from' + 90)).tmod 4 = 0 ∧ (1 : Int) < s.length) ∧ ((s.getD (s.length - 2) 0).toNat : Int) ≠ 10 then s.take (s.length - 1) else s := by
   simp only [blobOf, hm, Int.toNat_natCast, ← hs]
  rw [← hs] at hbl
  refine k6 (k2 (k2 ?_))
  rw [← hs]
  refine A5 (A2 (A3 Z Z) Z (A2 (A3 Z Z) Z (A2 (C3 Z Z (by omega)) Z (C0 (at_ok raw _ (by omega) (by omega)) Z Z Z ?_)))); rintro _ rfl; refine A2 (n_rem Z Z (by omega)) Z (A2 (G6 Z Z) Z (A2 (A3 Z Z) Z (A8 Z Z Z Z (fun hg => by rw [hg]; exact A3 Z Z) ?_))); refine A8 Z Z Z Z (fun hg => by rw [hg]; exact D8 Z) ?_; refine A8 Z Z Z Z (fun hg => by rw [hg]; exact L9 Z Z) ?_; refine A2 (B2 Z (fun h => by first | rfl | (rw [h]; rfl)) (fun h => by first | rfl | (rw [h]; rfl))) Z ?_; refine A2 (A3 Z Z) Z (A8 Z Z Z Z (fun hg => by rw [hg]; exact A3 Z Z) ?_); refine A8 Z Z Z Z (fun hg => by rw [hg]; exact A3 Z Z) ?_; refine A8 Z Z Z Z (fun hg => by rw [hg]; exact D8 Z) ?_; refine A8 Z Z Z Z (fun hg => by have hq := hg; (try simp at hq); rw [hg]; exact L8 Z Z (by omega)) ?_; refine A8 Z Z Z Z (fun hg => by have hq := hg; (try simp at hq); rw [hg]; exact E7 Z Z (by omega) (hv (by omega))) ?_; refine A8 Z Z Z Z (fun hg => by rw [hg]; exact J2 Z Z) ?_; refine A2 (B2 Z (fun h => by first | rfl | (rw [h]; rfl)) (fun h => by first | rfl | (rw [h]; rfl))) Z ?_; refine A6 ?_
  refine k1 ?_
  refine B3 rfl (fun ht => ?_) (fun ht => ?_)
  ·simp only [H2] at ht
   have h := A0 ht
   skip
   refine A5 (A2 (A3 Z Z) Z (A2 (A3 Z Z) Z (A2 (D8 Z) Z (A2 (L8 Z Z (by omega)) Z (A2 (m9 Z Z (by omega) (by omega)) Z (A2 (A4 Z Z) Z (A6 ?_)))))))
   refine k1 (k2 ?_)
   refine A5 (A2 (A3 Z Z) Z (A2 (A4 Z Z) Z (A6 ?_)))
   refine k1 (k10 ?_)
   exact B5 (G8 rfl rfl rfl) (by rw [hbo, if_pos h, show ((s.length : Int) - 1).toNat = s.length - 1 by omega])
  ·simp only [H2] at ht
   have h := A1 ht
   refine k5 (k1 (k2 ?_))
   refine A5 (A2 (A3 Z Z) Z (A2 (A4 Z Z) Z (A6 ?_)))
   refine k1 (k10 ?_)
   exact B5 (G8 rfl rfl rfl) (by rw [hbo, if_neg h])
theorem blobOf_len (raw : List Int) (from' n kinds : Int) (h1 : 0 ≤ n) : ((blobOf raw from' n kinds).length : Int) ≤ 4 * n := by
 have h := w7 (atOf raw from') (n := n + 1) (by omega)
 have h2 := blobLines_len raw from' kinds (W0 (atOf raw from') (n + 1)).toNat
 unfold blobOf
 simp only
 split
 ·simp only [List.length_take]; omega
 ·omega
def w8 (raw : List Int) (from' : Int) (i : Nat) (s : Str) : List Str → Str
 | [] => s
 | x :: r => if (atOf raw (from' + (i : Int))).tmod 6 = 0 then w8 raw from' (i + 1) s r
  else if (atOf raw (from' + (i : Int))).tmod 6 = 1 then w8 raw from' (i + 1) (s ++ lineOf (atOf raw (from' + 40 + (i : Int))) ++ [10] ++ x) r
  else w8 raw from' (i + 1) (s ++ x) r
def nearOf (blob : Str) (raw : List Int) (from' : Int) : Str := w8 raw from' 0 [] (D9 blob)
theorem nearGo_len (raw : List Int) (from' : Int) : ∀ (l : List Str) (i : Nat) (s : Str), (w8 raw from' i s l).length ≤ s.length + l.flatten.length + 4 * l.length
 | [], i, s => by simp [w8]
 | x :: r, i, s => by
  have h1 := nearGo_len raw from' r (i + 1) s
  have h2 := nearGo_len raw from' r (i + 1) (s ++ lineOf (atOf raw (from' + 40 + (i : Int))) ++ [10] ++ x)
  have h3 := nearGo_len raw from' r (i + 1) (s ++ x)
  have h4 := lineOf_len (atOf raw (from' + 40 + (i : Int)))
  simp only [List.length_append, List.length_cons, List.length_nil, List.flatten_cons] at *
  unfold w8
  split
  ·omega
  ·split <;> omega
theorem linesAux_flatten (s cur : Str) : (G2 cur s).flatten = cur ++ s := by
 induction s generalizing cur with
 | nil => unfold G2; split <;> simp [*]
 | cons c r ih => unfold G2; split <;> simp [ih]
theorem linesOf_flatten (s : Str) : (D9 s).flatten = s := linesAux_flatten s []
theorem near_ok (blob : Str) (raw : List Int) (from' : Int) (hb : blob.length ≤ 16777216) (h0 : 0 ≤ from' ∧ from' ≤ 1073741824) :
  FnOk Tryz.prog 26 [F6 blob, Y0 raw, D2 from'] (fun rs => rs = [F6 (nearOf blob raw from')]) := by
 have hll := W4 blob
 have hlf := linesOf_flatten blob
 have hlf' : (D9 blob).flatten.length = blob.length := by rw [hlf]
 refine FnOk.intro Tryz.func26 (by decide) Z Z Z Z ?_
 refine k2 ?_
 refine A5 (A2 (A4 Z Z) Z (A6 ?_))
 refine k1 (k2 ?_)
 refine A5 (A2 (A3 Z Z) Z (C0 (lines_ok blob (by omega)) Z Z Z ?_)); rintro _ rfl; refine A2 (A4 Z Z) Z (A6 ?_)
 refine k1 (k2 ?_)
 obtain ⟨l, hl⟩ : ∃ l, l = D9 blob := ⟨_, rfl⟩
 have hno : nearOf blob raw from' = w8 raw from' 0 [] l := by rw [nearOf, hl]
 rw [← hl] at hll hlf' ⊢
 refine A5 (A2 (A4 Z Z) Z (A6 ?_))
 refine k1 (k2 (k2 ?_))
 refine A5 (A2 (A4 Z Z) Z (A6 ?_))
 refine k1 (k3 ?_)
 refine E9 (X := Nat × Str) (fun x => ([(1, E8 Int 1 Y8 raw), (2, C6 from'), (7, E8 Str 1 K8 l), (8, N3 x.2), (9, C6 x.1)], [])) (fun x => x.1 ≤ l.length ∧ x.2.length ≤ (l.take x.1).flatten.length + 4 * x.1 ∧ w8 raw from' x.1 x.2 (l.drop x.1) = w8 raw from' 0 [] l) (fun x => l.length - x.1) (0, []) (by simp) (Sees.of ⟨le1 rfl, le1 rfl, le1 rfl, le1 rfl, le1 rfl, trivial⟩ trivial) ?_
 rintro ⟨i, s⟩ ⟨hi, hs, hp⟩
 dsimp only at hi hs hp ⊢
 have hle := U4 l i
 refine k2 (k2 ?_)
 refine A5 (A2 (A3 Z Z) Z (A2 (A3 Z Z) Z (A2 (F8 Z (.pure _ _ _ _)) Z (A2 (F0 Z Z) Z (A6 ?_)))))
 refine k1 ?_
 refine B3 rfl (fun ht => ?_) (fun ht => ?_)
 ·have hlt : i < l.length := by have := A0 ht; omega
  have hv : l[i]? = some l[i] := by simp [hlt]
  have hle2 := U4 l (i + 1)
  have hst := V5 l i hlt
  rw [hst, List.length_append] at hle2
  rw [List.drop_eq_getElem_cons hlt, w8] at hp
  refine k5 (k1 (k2 (k3 (k2 (k2 ?_)))))
  refine A5 (A2 (A3 Z Z) Z (A2 (A3 Z Z) Z (A2 (A3 Z Z) Z (A2 (C3 Z Z (by omega)) Z (C0 (at_ok raw _ (by omega) (by omega)) Z Z Z ?_))))); rintro _ rfl; refine A2 (n_rem Z Z (by omega)) Z (A6 ?_)
  refine k1 (k3 (k2 ?_))
  refine A5 (A2 (G6 Z Z) Z (A2 (A4 Z Z) Z (A6 ?_)))
  refine k1 ?_
  refine B3 rfl (fun ht => ?_) (fun ht => ?_)
  ·rw [if_pos (A0 ht)] at hp
   refine k6 (k9 Z (k7 (k8 Z (k1 ?_))))
   refine A5 (A2 (A3 Z Z) Z (A2 (C3 Z Z (by omega)) Z (A2 (A4 Z Z) Z (A6 ?_))))
   refine k1 ?_
   exact ⟨(i + 1, s), ⟨by dsimp only; omega, by dsimp only; rw [hst, List.length_append]; omega, hp⟩, by dsimp only; omega, Sees.of ⟨le1 rfl, le1 rfl, le1 rfl, le1 rfl, le1 rfl, trivial⟩ trivial⟩
  ·rw [if_neg (A1 ht)] at hp
   refine k2 ?_
   refine A5 (A2 (G6 Z Z) Z (A2 (A4 Z Z) Z (A6 ?_)))
   refine k1 ?_
   refine B3 rfl (fun ht => ?_) (fun ht => ?_)
   ·rw [if_pos (A0 ht)] at hp
    have h4 := lineOf_len (atOf raw (from' + 40 + (i : Int)))
    skip
    refine A5 (A2 (A3 Z Z) Z (A2 (A3 Z Z) Z (A2 (A3 Z Z) Z (A2 (C3 Z Z (by omega)) Z (A2 (A3 Z Z) Z (A2 (C3 Z Z (by omega)) Z (C0 (at_ok raw _ (by omega) (by omega)) Z Z Z ?_))))))); rintro _ rfl; refine C0 (gline_ok _) Z Z Z ?_; rintro _ rfl; refine A2 (F5 Z Z (by omega)) Z (A2 (F5 Z Z (by (simp only [List.length_append, List.length_cons, List.length_nil]; omega))) Z (A2 (A4 Z Z) Z (A6 ?_)))
    refine k4 (k1 ?_)
    refine A5 (A2 (A3 Z Z) Z (A2 (A3 Z Z) Z (A2 (A3 Z Z) Z (A2 (B4 Z (.pure _ _ _ _) Z (by omega) hv) Z (A2 (B8 Z Z) Z (A2 (F5 Z Z (by (simp only [List.length_append, List.length_cons, List.length_nil]; omega))) Z (A2 (A4 Z Z) Z (A6 ?_))))))))
    refine k4 (k1 ?_)
    refine A5 (A2 (A3 Z Z) Z (A2 (C3 Z Z (by omega)) Z (A2 (A4 Z Z) Z (A6 ?_))))
    refine k1 ?_
    exact ⟨(i + 1, s ++ lineOf (atOf raw (from' + 40 + (i : Int))) ++ [10] ++ l[i]), ⟨by dsimp only; omega, by dsimp only; rw [hst]; simp only [List.length_append, List.length_cons, List.length_nil]; omega, hp⟩, by dsimp only; omega, Sees.of ⟨le1 rfl, le1 rfl, le1 rfl, le1 rfl, le1 rfl, trivial⟩ trivial⟩
   ·rw [if_neg (A1 ht)] at hp
    refine k5 (k4 (k1 ?_))
    refine A5 (A2 (A3 Z Z) Z (A2 (A3 Z Z) Z (A2 (A3 Z Z) Z (A2 (B4 Z (.pure _ _ _ _) Z (by omega) hv) Z (A2 (B8 Z Z) Z (A2 (F5 Z Z (by omega)) Z (A2 (A4 Z Z) Z (A6 ?_))))))))
    refine k4 (k1 ?_)
    refine A5 (A2 (A3 Z Z) Z (A2 (C3 Z Z (by omega)) Z (A2 (A4 Z Z) Z (A6 ?_))))
    refine k1 ?_
    exact ⟨(i + 1, s ++ l[i]), ⟨by dsimp only; omega, by dsimp only; rw [hst, List.length_append, List.length_append]; omega, hp⟩, by dsimp only; omega, Sees.of ⟨le1 rfl, le1 rfl, le1 rfl, le1 rfl, le1 rfl, trivial⟩ trivial⟩
 ·have hi' : i = l.length := by have := A1 ht; omega
  rw [hi', List.drop_eq_nil_of_le (Nat.le_refl _)] at hp
  refine k6 (k2 ?_)
  refine A5 (A2 (A3 Z Z) Z (A2 (A4 Z Z) Z (A6 ?_)))
  refine k1 (k10 ?_)
  exact B5 (G8 rfl rfl rfl) (by rw [hno, ← hp]; rfl)
end Go.Proofs.YtjjidificdmnmaaGreatDoor
namespace Go.Proofs.YtjjidificdmnmaaGreatDoor
open Go Go.AL
set_option maxRecDepth 100000
theorem str_size' (s : Str) : (ByteArray.mk s.toArray).size = s.length := by simp [ByteArray.size]
theorem hasSuffix_ok (s p : Str) (hs : s.length ≤ 1099511627776) : FnOk Tryz.prog 147 [F6 s, F6 p] (fun rs => rs = [D5 (Lib.hasSuffix s p)]) :=
 FnOk.ofPlain (xs := [.string ⟨s.toArray⟩, .string ⟨p.toArray⟩]) ⟨_, rfl, rfl, rfl⟩ rfl fun w => by simpa using Tryz.strings_HasSuffix ⟨s.toArray⟩ ⟨p.toArray⟩ w (by rw [str_size']; omega)
theorem trimSuffix_ok (s p : Str) (hs : s.length ≤ 1099511627776) : FnOk Tryz.prog 171 [F6 s, F6 p] (fun rs => rs = [F6 (Lib.trimSuffix s p)]) :=
 FnOk.ofPlain (xs := [.string ⟨s.toArray⟩, .string ⟨p.toArray⟩]) ⟨_, rfl, rfl, rfl⟩ rfl fun w => by simpa using Tryz.strings_TrimSuffix ⟨s.toArray⟩ ⟨p.toArray⟩ w (by rw [str_size']; omega)
theorem contains1_ok (s : Str) (c : UInt8) : FnOk Tryz.prog 180 [F6 s, F6 [c]] (fun rs => rs = [D5 (decide (0 ≤ Lib.indexByte s c))]) :=
 FnOk.ofPlain (xs := [.string ⟨s.toArray⟩, .string ⟨#[c]⟩]) ⟨_, rfl, rfl, rfl⟩ rfl fun w => by simpa using Tryz.strings_Contains_one ⟨s.toArray⟩ c w
theorem tended_ok (s : Str) (hs : s.length ≤ 1099511627776) : FnOk Tryz.prog 100 [F6 s] (fun rs => rs = [D5 (ended s)]) := by
 refine FnOk.intro Tryz.func100 (by decide) Z Z Z Z ?_
 refine k2 ?_
 refine A5 (A2 (A4 Z Z) Z (A6 ?_))
 refine k1 (k2 ?_)
 refine A5 (A2 (A3 Z Z) Z (C0 (hasSuffix_ok s [10] hs) Z Z Z ?_)); rintro _ rfl; refine A2 (A4 Z Z) Z (A6 ?_)
 rw [hasSuffix_lf]
 refine k1 (k10 ?_)
 exact B5 (G8 rfl rfl rfl) rfl
theorem tbare_ok (s : Str) (hs : s.length ≤ 1099511627776) : FnOk Tryz.prog 181 [F6 s] (fun rs => rs = [F6 (bareOf s)]) := by
 refine FnOk.intro Tryz.func181 (by decide) Z Z Z Z ?_
 refine k2 ?_
 refine A5 (A2 (A4 Z Z) Z (A6 ?_))
 refine k1 (k2 ?_)
 refine A5 (A2 (A3 Z Z) Z (C0 (trimSuffix_ok s [10] hs) Z Z Z ?_)); rintro _ rfl; refine A2 (A4 Z Z) Z (A6 ?_)
 rw [trimSuffix_lf]
 refine k1 (k10 ?_)
 exact B5 (G8 rfl rfl rfl) rfl
def isBld (ob : Obs) (xs : Str) : Prop := (∃ a, (a = .p (.v (.pointer none)) ∨ a = .ref 700 0) ∧ E2 ob 700 = some (.tbx 132 [a, .buf 701 UInt8 1 u8C xs])) ∧ E2 ob 701 = some (.spare xs.length 1 5)
abbrev bldObs (ob : Obs) (ys xs : Str) : Obs := (700, .tbx 132 [.ref 700 0, .buf 701 UInt8 1 u8C xs]) :: (701, .spare xs.length 1 5) :: Obs.forget 701 ((700, .tbx 132 [.ref 700 0, .buf 701 UInt8 1 u8C ys]) :: ob)
def ccRen : Go.Shelf.Ren := ⟨fun | 240 => 142 | 276 => 178 | n => n, fun | 72 => 132 | 70 => 130 | 164 => 214 | 37 => 90 | n => n, fun n => n⟩
theorem ccLays : Go.Proofs.Lays.n240 Tryz.prog ccRen := {
 mixed := by kernel_rfl
 f240 := Tryz.func142.trans (congrArg some (by kernel_rfl))
 f276 := Tryz.func178.trans (congrArg some (by kernel_rfl))
 t0 := Tryz.underlying0
 a0 := Tryz.isAgg0
 z0 := Tryz.sizeOf0
 v0 := Tryz.zeroValue0
 t4 := Tryz.underlying4
 a4 := Tryz.isAgg4
 z4 := Tryz.sizeOf4
 v4 := Tryz.zeroValue4
 t9 := Tryz.underlying9
 a9 := Tryz.isAgg9
 z9 := Tryz.sizeOf9
 v9 := Tryz.zeroValue9
 t20 := Tryz.underlying20
 a20 := Tryz.isAgg20
 z20 := Tryz.sizeOf20
 v20 := Tryz.zeroValue20
 t70 := Tryz.underlying130
 a70 := Tryz.isAgg130
 z70 := Tryz.sizeOf130
 v70 := Tryz.zeroValue130
 t72 := Tryz.underlying132
 a72 := Tryz.isAgg132
 z72 := Tryz.sizeOf132
 v72 := Tryz.zeroValue132
 t164 := Tryz.underlying214
 a164 := Tryz.isAgg214
 z164 := Tryz.sizeOf214
 v164 := Tryz.zeroValue214 }
theorem ccX : Builder.X72 Tryz.prog ccRen := {
 sizeBuilder := by kernel_rfl
 liesBuilder := by kernel_rfl }
theorem copyCheck_met {gf : Fr} {ob : Obs} {a t : TC} (hk : E2 ob 700 = some (.tbx 132 [a, t])) (ha : a = .p (.v (.pointer none)) ∨ a = .ref 700 0) :
  Met Tryz.prog 142 [.one (.ref 700 0)] gf ob [] (fun rs ob' => rs = [] ∧ ob' = (700, .tbx 132 [.ref 700 0, t]) :: ob) :=
 Met.copyCheck ⟨_, rfl, rfl, rfl⟩ (fun b w h1 h2 h3 => Any.Builder_copyCheck_fresh (ρ := ccRen) ccLays ccX b w h1 h2 h3) (fun b w h => Any.Builder_copyCheck_used (ρ := ccRen) ccLays ccX b w h) hk ha
theorem U3 {gf : Fr} {ob : Obs} {xs s : Str} (hb : isBld ob xs) (hlen : xs.length + s.length ≤ 1073741824) :
  Met Tryz.prog 96 [.one (.ref 700 0), .one (.p (.v (.string ⟨s.toArray⟩)))] gf ob [701] (fun rs ob' => rs = [.one (.p (.v (.int .i64 s.length))), .one (.p (.v .nilIface))] ∧ ob' = bldObs ob xs (xs ++ s)) := by
 obtain ⟨⟨a, ha, hk⟩, hk1⟩ := hb
 refine Met.intro Tryz.func96 (by decide) Z Z Z ?_
 refine k2 ?_
 refine A5 (A2 (A4 Z Z) Z (A2 (A4 Z Z) Z (A6 ?_)))
 refine k1 (k2 ?_)
 refine A5 (A2 (A3 Z Z) Z (S3 (copyCheck_met hk ha) Z Z Z ?_)); rintro _ _ ⟨rfl, rfl⟩; refine A6 ?_
 refine k1 (k2 ?_)
 refine A5 (A2 (A3 Z Z) Z (A2 (A3 Z Z) Z (A2 (B7 Z) Z (A2 (A7 Z) Z (A2 (n_load_tref Z Z Z) Z (A2 (A3 Z Z) Z (C8 (e_append_s TyStr.out Z hk1 Z (by first | omega | (simp; omega)) Z) Z (A2 (B7 Z) Z (A2 (A7 Z) Z (F4 (e_store_tref TySz.out Z Z Z Z Z Z) (A6 ?_)))))))))))
 refine k1 (k2 ?_)
 refine A5 (A2 (A3 Z Z) Z (A2 (D8 Z) Z (A2 (A4 Z Z) Z (A2 (A4 Z Z) Z (A6 ?_)))))
 refine k1 (k10 ?_)
 exact I3 (rets2 rfl rfl rfl) (by repeat (first | exact C9 | refine D1 rfl ?_ | refine E1 _ ?_)) (fun _ _ h => h) ⟨rfl, rfl⟩
theorem writeByte_met {gf : Fr} {ob : Obs} {xs : Str} {c : UInt8} (hb : isBld ob xs) (hlen : xs.length + 1 ≤ 1073741824) :
  Met Tryz.prog 99 [.one (.ref 700 0), .one (.p (.v (.int .u8 c.toNat)))] gf ob [701] (fun rs ob' => rs = [.one (.p (.v .nilIface))] ∧ ob' = bldObs ob xs (xs ++ [c])) := by
 obtain ⟨⟨a, ha, hk⟩, hk1⟩ := hb
 refine Met.intro Tryz.func99 (by decide) Z Z Z ?_
 refine k2 ?_
 refine A5 (A2 (A4 Z Z) Z (A6 ?_))
 refine k1 (k2 ?_)
 refine A5 (A2 (A3 Z Z) Z (S3 (copyCheck_met hk ha) Z Z Z ?_)); rintro _ _ ⟨rfl, rfl⟩; refine A6 ?_
 refine k1 (k2 ?_)
 refine A5 (A2 (A3 Z Z) Z (A2 (A3 Z Z) Z (A2 (B7 Z) Z (A2 (A7 Z) Z (A2 (n_load_tref Z Z Z) Z (A2 (A3 Z Z) Z (A2 (D6 (c := u8C) (ys := [c]) (E3 Z Z Z Z H1) Z Z Z) Z (C8 (J3 Z hk1 Z (.pure _ _ _ _) (by (simp; omega)) Z) Z (A2 (B7 Z) Z (A2 (A7 Z) Z (F4 (e_store_tref TySz.out Z Z Z Z Z Z) (A6 ?_))))))))))))
 refine k1 (k2 ?_)
 refine A5 (A2 (A4 Z Z) Z (A6 ?_))
 refine k1 (k10 ?_)
 exact I3 (Y1 rfl rfl) (by repeat (first | exact C9 | refine D1 rfl ?_ | refine E1 _ ?_)) (fun _ _ h => h) ⟨rfl, rfl⟩
theorem rplain_ok (c : UInt8) : FnOk Tryz.prog 128 [pByte c] (fun rs => rs = [D5 (M6 c)]) := by
 refine FnOk.intro Tryz.func128 (by decide) Z Z Z Z ?_
 refine k2 ?_
 refine A5 (A2 (A4 Z Z) Z (A6 ?_))
 refine k1 (k2 ?_)
 refine A5 (A2 (A3 Z Z) Z (A2 (V1 Z Z) Z (A2 (A3 Z Z) Z (A8 Z Z Z Z (fun hg => by rw [hg]; exact A3 Z Z) ?_)))); refine A8 Z Z Z Z (fun hg => by rw [hg]; exact n_leq Z Z) ?_; refine A2 (B2 Z (fun h => by first | rfl | (rw [h]; rfl)) (fun h => by first | rfl | (rw [h]; rfl))) Z ?_; refine A2 (A3 Z Z) Z (A8 Z Z Z Z (fun hg => by rw [hg]; exact A3 Z Z) ?_); refine A8 Z Z Z Z (fun hg => by rw [hg]; exact J2 Z Z) ?_; refine A2 (B2 Z (fun h => by first | rfl | (rw [h]; rfl)) (fun h => by first | rfl | (rw [h]; rfl))) Z ?_; refine A2 (A3 Z Z) Z (A8 Z Z Z Z (fun hg => by rw [hg]; exact A3 Z Z) ?_); refine A8 Z Z Z Z (fun hg => by rw [hg]; exact J2 Z Z) ?_; refine A2 (B2 Z (fun h => by first | rfl | (rw [h]; rfl)) (fun h => by first | rfl | (rw [h]; rfl))) Z ?_; refine A2 (A4 Z Z) Z (A6 ?_)
 refine k1 (k10 ?_)
 refine B5 (G8 Z Z Z) ?_
 simp only [H2]
 congr 4
 unfold M6
 congr 1
 simp; omega
theorem splain_ok (c : UInt8) : FnOk Tryz.prog 143 [pByte c] (fun rs => rs = [D5 (M6 c)]) := by
 refine FnOk.intro Tryz.func143 (by decide) Z Z Z Z ?_
 refine k2 ?_
 refine A5 (A2 (A4 Z Z) Z (A6 ?_))
 refine k1 (k2 ?_)
 refine A5 (A2 (A3 Z Z) Z (A2 (V1 Z Z) Z (A2 (A3 Z Z) Z (A8 Z Z Z Z (fun hg => by rw [hg]; exact A3 Z Z) ?_)))); refine A8 Z Z Z Z (fun hg => by rw [hg]; exact n_leq Z Z) ?_; refine A2 (B2 Z (fun h => by first | rfl | (rw [h]; rfl)) (fun h => by first | rfl | (rw [h]; rfl))) Z ?_; refine A2 (A3 Z Z) Z (A8 Z Z Z Z (fun hg => by rw [hg]; exact A3 Z Z) ?_); refine A8 Z Z Z Z (fun hg => by rw [hg]; exact J2 Z Z) ?_; refine A2 (B2 Z (fun h => by first | rfl | (rw [h]; rfl)) (fun h => by first | rfl | (rw [h]; rfl))) Z ?_; refine A2 (A3 Z Z) Z (A8 Z Z Z Z (fun hg => by rw [hg]; exact A3 Z Z) ?_); refine A8 Z Z Z Z (fun hg => by rw [hg]; exact J2 Z Z) ?_; refine A2 (B2 Z (fun h => by first | rfl | (rw [h]; rfl)) (fun h => by first | rfl | (rw [h]; rfl))) Z ?_; refine A2 (A4 Z Z) Z (A6 ?_)
 refine k1 (k10 ?_)
 refine B5 (G8 Z Z Z) ?_
 simp only [H2]
 congr 4
 unfold M6
 congr 1
 simp; omega
theorem rformat_ok (n : Int) : FnOk Tryz.prog 129 [D2 n] (fun rs => rs = [F6 (K2 n)]) := by
 obtain ⟨k, hk⟩ : ∃ k : Nat, n.toNat = k := ⟨_, rfl⟩
 induction k using Nat.strongRecOn generalizing n with
 | _ k ih =>
 refine FnOk.intro Tryz.func129 (by decide) Z Z Z Z ?_
 refine k2 ?_
 refine A5 (A2 (A4 Z Z) Z (A6 ?_))
 refine k1 (k2 (k2 ?_))
 refine A5 (A2 (A3 Z Z) Z (A2 (F0 Z Z) Z (A2 (A3 Z Z) Z (A8 Z Z Z Z (fun hg => by rw [hg]; exact A3 Z Z) ?_)))); refine A8 Z Z Z Z (fun hg => by rw [hg]; exact L9 Z Z) ?_; refine A2 (B2 Z (fun h => by first | rfl | (rw [h]; rfl)) (fun h => by first | rfl | (rw [h]; rfl))) Z ?_; refine A6 ?_
 refine k1 ?_
 refine B3 rfl (fun ht => ?_) (fun ht => ?_)
 ·have h := A0 (or_pick.symm.trans ht)
  refine k2 ?_
  refine A5 (A2 (A4 Z Z) Z (A6 ?_))
  refine k1 (k10 (k11 ?_))
  exact B5 (G8 rfl rfl rfl) (by rw [K2, if_pos (by omega)])
 ·have h := A1 (or_pick.symm.trans ht)
  refine k5 (k1 (k2 (k2 ?_)))
  refine A5 (A2 (A3 Z Z) Z (A2 (F0 Z Z) Z (A6 ?_)))
  refine k1 ?_
  refine B3 rfl (fun ht => ?_) (fun ht => ?_)
  ·have h2 := A0 ht
   refine k2 ?_
   refine A5 (A2 (A3 Z Z) Z (A2 (A3 Z Z) Z (A2 (C3 Z Z (by omega)) Z (A2 (Q0 Z Z Z (by (first | omega | (simp; omega))) (by (first | omega | (simp; omega))) (by (first | omega | (simp; omega)))) Z (A2 (A4 Z Z) Z (A6 ?_))))))
   refine k1 (k10 (k11 ?_))
   refine B5 (G8 Z Z Z) ?_
   rw [fmt_small n (by omega) h2]
   have e : (n + 1).toNat - n.toNat = 1 := by omega
   rw [e]; rfl
  ·have h2 := A1 ht
   have hl := U9 (n / 10)
   have hq : IntKind.i64.wrap (n.tdiv 10) = n / 10 := by
    rw [i64_wrap_in] <;> rw [Int.tdiv_eq_ediv_of_nonneg (by omega)]; omega
   have hr : n.tmod 10 = n % 10 := Int.tmod_eq_emod_of_nonneg (by omega)
   have ihq : FnOk Tryz.prog 129 [D2 (IntKind.i64.wrap (n.tdiv 10))] (fun rs => rs = [F6 (K2 (n / 10))]) := by
    rw [hq]; exact ih (n / 10).toNat (by omega) (n / 10) rfl
   refine k5 (k1 (k2 ?_))
   refine C2 (by kernel_rfl) (by kernel_rfl) (A9 (A3 Z Z) Z Z (A9 (n_quo_w Z Z (by omega)) Z Z (A9 (F9 (ihq) Z Z) Z Z (A9 (A3 Z Z) Z Z (A9 (n_rem Z Z (by omega)) Z Z (A9 (A3 Z Z) Z Z (A9 (n_rem Z Z (by omega)) Z Z (A9 (C3 Z Z (by omega)) Z Z (A9 (Q0 Z Z Z (by (first | omega | (simp; omega))) (by (first | omega | (simp; omega))) (by (first | omega | (simp; omega)))) Z Z (A9 (F5 Z Z (by (simp; omega))) Z Z (A9 (A4 Z Z) Z Z (H3 ?_))))))))))))
   refine k1 (k10 ?_)
   refine B5 (G8 Z Z Z) ?_
   rw [fmt_big n (by omega) (by omega)]
   rw [hr]
   have e : (n % 10 + 1).toNat - (n % 10).toNat = 1 := by omega
   rw [e]; rfl
theorem rrange_ok (a n : Int) (ha : -4611686018427387904 ≤ a ∧ a ≤ 4611686018427387904) (hn : -4611686018427387904 ≤ n ∧ n ≤ 4611686018427387904) : FnOk Tryz.prog 89 [D2 a, D2 n] (fun rs => rs = [F6 (G5 a n)]) := by
 refine FnOk.intro Tryz.func89 (by decide) Z Z Z Z ?_
 refine k2 ?_
 refine A5 (A2 (A4 Z Z) Z (A6 ?_))
 refine k1 (k2 (k2 ?_))
 refine A5 (A2 (A3 Z Z) Z (A2 (F0 Z Z) Z (A2 (A3 Z Z) Z (A8 Z Z Z Z (fun hg => by rw [hg]; exact A3 Z Z) ?_)))); refine A8 Z Z Z Z (fun hg => by rw [hg]; exact F0 Z Z) ?_; refine A2 (B2 Z (fun h => by first | rfl | (rw [h]; rfl)) (fun h => by first | rfl | (rw [h]; rfl))) Z ?_; refine A2 (A3 Z Z) Z (A8 Z Z Z Z (fun hg => by rw [hg]; exact A3 Z Z) ?_); refine A8 Z Z Z Z (fun hg => by rw [hg]; exact L9 Z Z) ?_; refine A2 (B2 Z (fun h => by first | rfl | (rw [h]; rfl)) (fun h => by first | rfl | (rw [h]; rfl))) Z ?_; refine A2 (A3 Z Z) Z (A8 Z Z Z Z (fun hg => by rw [hg]; exact A3 Z Z) ?_); refine A8 Z Z Z Z (fun hg => by rw [hg]; exact A3 Z Z) ?_; refine A8 Z Z Z Z (fun hg => by rw [hg]; exact L8 Z Z (by (first | omega | (simp at hq; omega)))) ?_; refine A8 Z Z Z Z (fun hg => by rw [hg]; exact L9 Z Z) ?_; refine A2 (B2 Z (fun h => by first | rfl | (rw [h]; rfl)) (fun h => by first | rfl | (rw [h]; rfl))) Z ?_; refine A6 ?_
 refine k1 ?_
 have l1 := U9 a
 have l2 := U9 (a + 1)
 have l3 := U9 n
 refine B3 rfl (fun ht => ?_) (fun ht => ?_)
 ·have h := A0 ((by simp only [or_pick] at ht; exact ht) : decide _ = true)
  refine k2 ?_
  refine A5 (A2 (A4 Z Z) Z (A6 ?_))
  refine k1 (k10 (k11 ?_))
  exact B5 (G8 rfl rfl rfl) (by rw [G5, if_pos (by omega)])
 ·have h := A1 ((by simp only [or_pick] at ht; exact ht) : decide _ = false)
  refine k5 (k1 (k2 (k2 ?_)))
  refine A5 (A2 (A3 Z Z) Z (A6 ?_))
  refine k1 (k3 (k2 ?_))
  refine A5 (A2 (G6 Z Z) Z (A2 (A4 Z Z) Z (A6 ?_)))
  refine k1 ?_
  refine B3 rfl (fun ht => ?_) (fun ht => ?_)
  ·have h0 := A0 ht
   refine k2 ?_
   refine A5 (A2 (A3 Z Z) Z (C0 (rformat_ok a) Z Z Z ?_)); rintro _ rfl; refine A2 (F5 Z Z (by simp; omega)) Z (A2 (A4 Z Z) Z (A6 ?_))
   refine k1 (k10 (k12 (k11 ?_)))
   exact B5 (G8 rfl rfl rfl) (by rw [G5, if_neg (by omega), if_pos h0])
  ·have h0 := A1 ht
   refine k2 ?_
   refine A5 (A2 (G6 Z Z) Z (A2 (A4 Z Z) Z (A6 ?_)))
   refine k1 ?_
   refine B3 rfl (fun ht => ?_) (fun ht => ?_)
   ·have h1 := A0 ht
    refine k2 ?_
    refine A5 (A2 (A3 Z Z) Z (A2 (C3 Z Z (by omega)) Z (C0 (rformat_ok (a + 1)) Z Z Z ?_))); rintro _ rfl; refine A2 (A4 Z Z) Z (A6 ?_)
    refine k1 (k10 (k12 (k11 ?_)))
    exact B5 (G8 rfl rfl rfl) (by rw [G5, if_neg (by omega), if_neg h0, if_pos h1])
   ·have h1 := A1 ht
    refine k5 (k2 ?_)
    refine A5 (A2 (A3 Z Z) Z (A2 (C3 Z Z (by omega)) Z (C0 (rformat_ok (a + 1)) Z Z Z ?_))); rintro _ rfl; refine A2 (F5 Z Z (by simp; omega)) Z (A2 (A3 Z Z) Z (C0 (rformat_ok n) Z Z Z ?_)); rintro _ rfl; refine A2 (F5 Z Z (by simp; omega)) Z (A2 (A4 Z Z) Z (A6 ?_))
    refine k1 (k10 ?_)
    exact B5 (G8 rfl rfl rfl) (by rw [G5, if_neg (by omega), if_neg h0, if_neg h1])
theorem X2 : ([48, 49, 50, 51, 52, 53, 54, 55] : Str).length = 8 := rfl
theorem u8q (c : UInt8) (k : Nat) : IntKind.u8.wrap ((c.toNat : Int).tdiv (k : Int)) = ((c.toNat / k : Nat) : Int) := by
 have hc := c.toNat_lt
 have h1 : (c.toNat : Int).tdiv (k : Int) = ((c.toNat / k : Nat) : Int) := by rw [Int.tdiv_eq_ediv_of_nonneg (by omega)]; simp
 have h2 : c.toNat / k ≤ c.toNat := Nat.div_le_self _ _
 rw [h1]
 generalize c.toNat / k = q at *
 rw [IntWalk.u8_in _ (by omega)]
theorem u8r (n k : Nat) : (n : Int).tmod (k : Int) = ((n % k : Nat) : Int) := by
 rw [Int.tmod_eq_emod_of_nonneg (by omega)]; simp
theorem u8s (n : Nat) (h : n < 255) : IntKind.u8.wrap ((n : Int) + 1) = ((n + 1 : Nat) : Int) := by
 rw [IntWalk.u8_in _ (by omega)]; simp
set_option maxHeartbeats 1000000 in
theorem rquote_ok (s : Str) (hs : s.length ≤ 16777216) : FnOk Tryz.prog 88 [F6 s] (fun rs => rs = [F6 (I4 s)]) := by
 refine FnOk.intro Tryz.func88 (by decide) Z Z Z Z ?_
 refine k2 ?_
 refine A5 (A2 (A4 Z Z) Z (A6 ?_))
 refine k1 (k2 ?_)
 refine A5 (A2 (A3 Z Z) Z (A2 (V2 Z Z) Z (A2 (A4 Z Z) Z (A6 ?_))))
 refine k1 (k2 ?_)
 refine A5 (A2 (A4 Z Z) Z (A6 ?_))
 refine k1 (k2 (k2 ?_))
 refine A5 (A2 (A4 Z Z) Z (A6 ?_))
 refine k1 (k3 ?_)
 refine E9 (X := Nat) (fun i => ([(0, N3 s), (3, J1 (.bool (plains s i))), (4, N3 (34 :: escs s i)), (5, C6 i)], [])) (fun i => i ≤ s.length) (fun i => s.length - i) 0 (Nat.zero_le _) ?_ ?_
 ·rw [plains_zero, escs_zero]
  first | exact Sees.of ⟨le1 rfl, le1 rfl, le1 rfl, le1 rfl, trivial⟩ trivial | trace_state
 intro i hi
 dsimp only at hi ⊢
 have hel := escs_len s i hi
 refine k2 (k2 ?_)
 refine A5 (A2 (A3 Z Z) Z (A2 (A3 Z Z) Z (A2 (D8 Z) Z (A2 (F0 Z Z) Z (A6 ?_)))))
 refine k1 ?_
 refine B3 rfl (fun ht => ?_) (fun ht => ?_)
 ·have hlt : i < s.length := by have := A0 ht; omega
  have hv : s[i]? = some s[i] := by simp [hlt]
  obtain ⟨c, hc⟩ : ∃ c, c = s[i] := ⟨_, rfl⟩
  have h1 := escs_succ s i hlt
  have h2 := plains_succ s i hlt
  rw [← hc] at hv h1 h2
  have h3 := c.toNat_lt
  refine k5 (k1 (k2 (k3 (k2 ?_))))
  refine A5 (A2 (A3 Z Z) Z (A2 (A3 Z Z) Z (A2 (E7 Z Z (by omega) hv) Z (A2 (A4 Z Z) Z (A6 ?_)))))
  refine k1 (k2 ?_)
  refine A5 (A2 (A3 Z Z) Z (A2 (A3 Z Z) Z (A8 Z Z Z Z (fun hg => by rw [hg]; exact A3 Z Z) ?_))); refine A8 Z Z Z Z (fun hg => by have hq := hg; (try simp at hq); rw [hg]; exact F9 (rplain_ok c) Z Z) ?_; refine A2 (B2 Z (fun h => by first | rfl | (rw [h]; rfl)) (fun h => by first | rfl | (rw [h]; rfl))) Z ?_; refine A2 (A4 Z Z) Z (A6 ?_)
  rw [show (if plains s i = true then M6 c else false) = plains s (i + 1) from by rw [h2]; cases plains s i <;> rfl]
  have hsub : (s.drop i).take 1 = [c] := by rw [List.drop_eq_getElem_cons hlt, ← hc]; rfl
  have hone : (i : Int).toNat = i ∧ ((i : Int) + 1).toNat - i = 1 := by omega
  refine k1 (k3 (k2 ?_))
  refine A5 (A2 (A3 Z Z) Z (A2 (G6 Z Z) Z (A2 (A3 Z Z) Z (A8 Z Z Z Z (fun hg => by rw [hg]; exact A3 Z Z) ?_)))); refine A8 Z Z Z Z (fun hg => by rw [hg]; exact G6 Z Z) ?_; refine A2 (B2 Z (fun h => by first | rfl | (rw [h]; rfl)) (fun h => by first | rfl | (rw [h]; rfl))) Z ?_; refine A2 (A4 Z Z) Z (A6 ?_)
  refine k1 ?_
  refine B3 rfl (fun ht => ?_) (fun ht => ?_)
  ·have h := A0 (or_pick.symm.trans ht)
   skip
   refine A5 (A2 (A3 Z Z) Z (A2 (F5 Z Z (by (simp; omega))) Z (A2 (A3 Z Z) Z (A2 (A3 Z Z) Z (A2 (A3 Z Z) Z (A2 (C3 Z Z (by omega)) Z (A2 (Q0 Z Z Z (by omega) (by omega) (by omega)) Z (A2 (F5 Z Z (by (simp; omega))) Z (A2 (A4 Z Z) Z (A6 ?_))))))))))
   refine k4 (k4 (k1 ?_))
   refine A5 (A2 (A3 Z Z) Z (A2 (C3 Z Z (by omega)) Z (A2 (A4 Z Z) Z (A6 ?_))))
   refine k1 ?_
   refine ⟨i + 1, hlt, by omega, ?_⟩
   rw [h1, show N1 c = _ from by rw [N1, if_pos (by omega)]]
   rw [hone.1, hone.2, hsub, List.append_assoc]
   exact Sees.of ⟨le1 rfl, le1 rfl, le1 rfl, le1 rfl, trivial⟩ trivial
  ·have h := A1 (or_pick.symm.trans ht)
   refine k2 ?_
   refine A5 (A2 (A3 Z Z) Z (A2 (G6 Z Z) Z (A2 (A4 Z Z) Z (A6 ?_))))
   refine k1 ?_
   refine B3 rfl (fun ht => ?_) (fun ht => ?_)
   ·have h4 := A0 ht
    skip
    refine A5 (A2 (A3 Z Z) Z (A2 (F5 Z Z (by simp; omega)) Z (A2 (A4 Z Z) Z (A6 ?_))))
    refine k4 (k4 (k1 ?_))
    refine A5 (A2 (A3 Z Z) Z (A2 (C3 Z Z (by omega)) Z (A2 (A4 Z Z) Z (A6 ?_))))
    refine k1 ?_
    refine ⟨i + 1, hlt, by omega, ?_⟩
    rw [h1, show N1 c = _ from by rw [N1, if_neg (by omega), if_pos (by omega)]]
    exact Sees.of ⟨le1 rfl, le1 rfl, le1 rfl, le1 rfl, trivial⟩ trivial
   ·have h4 := A1 ht
    refine k2 ?_
    refine A5 (A2 (A3 Z Z) Z (A2 (G6 Z Z) Z (A2 (A4 Z Z) Z (A6 ?_))))
    refine k1 ?_
    refine B3 rfl (fun ht => ?_) (fun ht => ?_)
    ·have h5 := A0 ht
     skip
     refine A5 (A2 (A3 Z Z) Z (A2 (F5 Z Z (by simp; omega)) Z (A2 (A4 Z Z) Z (A6 ?_))))
     refine k4 (k4 (k1 ?_))
     refine A5 (A2 (A3 Z Z) Z (A2 (C3 Z Z (by omega)) Z (A2 (A4 Z Z) Z (A6 ?_))))
     refine k1 ?_
     refine ⟨i + 1, hlt, by omega, ?_⟩
     rw [h1, show N1 c = _ from by rw [N1, if_neg (by omega), if_neg (by omega), if_pos (by omega)]]
     exact Sees.of ⟨le1 rfl, le1 rfl, le1 rfl, le1 rfl, trivial⟩ trivial
    ·have h5 := A1 ht
     refine k2 ?_
     refine A5 (A2 (A3 Z Z) Z (A2 (F0 Z Z) Z (A2 (A3 Z Z) Z (A8 Z Z Z Z (fun hg => by rw [hg]; exact A3 Z Z) ?_)))); refine A8 Z Z Z Z (fun hg => by rw [hg]; exact L9 Z Z) ?_; refine A2 (B2 Z (fun h => by first | rfl | (rw [h]; rfl)) (fun h => by first | rfl | (rw [h]; rfl))) Z ?_; refine A2 (A4 Z Z) Z (A6 ?_)
     refine k1 ?_
     refine B3 rfl (fun ht => ?_) (fun ht => ?_)
     ·have h6 := A0 (or_pick.symm.trans ht)
      have e1 : IntKind.u8.wrap ((c.toNat : Int).tdiv 64) = ((c.toNat / 64 : Nat) : Int) := u8q c 64
      have e2 : IntKind.u8.wrap ((c.toNat : Int).tdiv 8) = ((c.toNat / 8 : Nat) : Int) := u8q c 8
      have e3 : (IntKind.u8.wrap ((c.toNat : Int).tdiv 8)).tmod 8 = ((c.toNat / 8 % 8 : Nat) : Int) := by rw [e2]; exact u8r _ 8
      have e4 : (c.toNat : Int).tmod 8 = ((c.toNat % 8 : Nat) : Int) := u8r _ 8
      have e5 : IntKind.u8.wrap (IntKind.u8.wrap ((c.toNat : Int).tdiv 64) + 1) = ((c.toNat / 64 + 1 : Nat) : Int) := by rw [e1]; exact u8s _ (by omega)
      have e6 : IntKind.u8.wrap ((IntKind.u8.wrap ((c.toNat : Int).tdiv 8)).tmod 8 + 1) = ((c.toNat / 8 % 8 + 1 : Nat) : Int) := by rw [e3]; exact u8s _ (by omega)
      have e7 : IntKind.u8.wrap ((c.toNat : Int).tmod 8 + 1) = ((c.toNat % 8 + 1 : Nat) : Int) := by rw [e4]; exact u8s _ (by omega)
      have hol := octOf_len c
      have hob : N1 c = 92 :: octOf c := by rw [N1, if_neg (by omega), if_neg (by omega), if_neg (by omega), if_pos (by omega)]
      have g1 : c.toNat / 64 < 8 := by omega
      skip
      refine C2 (by kernel_rfl) (by kernel_rfl) (A9 (A3 Z Z) Z Z (A9 (F5 Z Z (by (simp; omega))) Z Z (A9 (A3 Z Z) Z Z (A9 (n_quo_w Z Z (by omega)) Z Z (A9 (A3 Z Z) Z Z (A9 (n_quo_w Z Z (by omega)) Z Z (A9 (n_add_w Z Z) Z Z (A9 (Q0 Z Z Z (by (first | omega | (simp only [X2]; omega))) (by (first | omega | (simp only [X2]; omega))) (by (first | omega | (simp only [X2]; omega)))) Z Z (A9 (F5 Z Z (by (simp only [List.length_append, List.length_cons, List.length_nil, List.length_take, List.length_drop]; omega))) Z Z (A9 (A3 Z Z) Z Z (A9 (n_quo_w Z Z (by omega)) Z Z (A9 (n_rem Z Z (by omega)) Z Z (A9 (A3 Z Z) Z Z (A9 (n_quo_w Z Z (by omega)) Z Z (A9 (n_rem Z Z (by omega)) Z Z (A9 (n_add_w Z Z) Z Z (A9 (Q0 Z Z Z (by (first | omega | (simp only [X2]; omega))) (by (first | omega | (simp only [X2]; omega))) (by (first | omega | (simp only [X2]; omega)))) Z Z (A9 (F5 Z Z (by (simp only [List.length_append, List.length_cons, List.length_nil, List.length_take, List.length_drop]; omega))) Z Z (A9 (A3 Z Z) Z Z (A9 (n_rem Z Z (by omega)) Z Z (A9 (A3 Z Z) Z Z (A9 (n_rem Z Z (by omega)) Z Z (A9 (n_add_w Z Z) Z Z ?_))))))))))))))))))))))); refine A9 (Q0 Z Z Z (by (first | omega | (simp only [X2]; omega))) (by (first | omega | (simp only [X2]; omega))) (by (first | omega | (simp only [X2]; omega)))) Z Z (A9 (F5 Z Z (by (simp only [List.length_append, List.length_cons, List.length_nil, List.length_take, List.length_drop]; omega))) Z Z (A9 (A4 Z Z) Z Z (H3 ?_)))
      have k1 : ∀ q : Nat, ((q + 1 : Nat) : Int).toNat - ((q : Nat) : Int).toNat = 1 := fun q => by omega
      refine k4 (k4 ?_)
      refine A5 (A2 (A3 Z Z) Z (A2 (C3 Z Z (by omega)) Z (A2 (A4 Z Z) Z (A6 ?_))))
      skip
      refine ⟨i + 1, hlt, by omega, ?_⟩
      rw [e5, e6, e7, e1, e3, e4, k1 (c.toNat / 64), k1 (c.toNat / 8 % 8), k1 (c.toNat % 8), h1, hob, show 34 :: (escs s i ++ (92 :: octOf c)) = 34 :: escs s i ++ [92] ++ (digs8.drop (c.toNat / 64)).take 1 ++ (digs8.drop (c.toNat / 8 % 8)).take 1 ++ (digs8.drop (c.toNat % 8)).take 1 from by unfold octOf; simp only [List.cons_append, List.append_assoc, List.nil_append]]
      exact Sees.of ⟨le1 rfl, le1 rfl, le1 rfl, le1 rfl, trivial⟩ trivial
     ·have h6 := A1 (or_pick.symm.trans ht)
      skip
      refine A5 (A2 (A3 Z Z) Z (A2 (A3 Z Z) Z (A2 (A3 Z Z) Z (A2 (A3 Z Z) Z (A2 (C3 Z Z (by omega)) Z (A2 (Q0 Z Z Z (by omega) (by omega) (by omega)) Z (A2 (F5 Z Z (by simp; omega)) Z (A2 (A4 Z Z) Z (A6 ?_)))))))))
      refine k4 (k4 (k1 ?_))
      refine A5 (A2 (A3 Z Z) Z (A2 (C3 Z Z (by omega)) Z (A2 (A4 Z Z) Z (A6 ?_))))
      refine k1 ?_
      refine ⟨i + 1, hlt, by omega, ?_⟩
      rw [h1, show N1 c = _ from by rw [N1, if_neg (by omega), if_neg (by omega), if_neg (by omega), if_neg (by omega)]]
      rw [hone.1, hone.2, hsub]
      exact Sees.of ⟨le1 rfl, le1 rfl, le1 rfl, le1 rfl, trivial⟩ trivial
 ·have hi' : i = s.length := by have := A1 ht; omega
  subst hi'
  refine k6 (k2 (k2 ?_))
  refine A5 (A2 (A3 Z Z) Z (A6 ?_))
  refine k1 ?_
  refine B3 rfl (fun ht => ?_) (fun ht => ?_)
  ·have h : plains s s.length = true := ht
   refine k2 ?_
   refine A5 (A2 (A3 Z Z) Z (A2 (A4 Z Z) Z (A6 ?_)))
   refine k1 (k10 (k11 ?_))
   exact B5 (G8 rfl rfl rfl) (by rw [quoteOf_eq, if_pos h])
  ·have h : plains s s.length = false := ht
   refine k5 (k1 (k2 ?_))
   refine A5 (A2 (A3 Z Z) Z (A2 (F5 Z Z (by simp; omega)) Z (A2 (A4 Z Z) Z (A6 ?_))))
   refine k1 (k10 ?_)
   exact B5 (G8 rfl rfl rfl) (by rw [quoteOf_eq, h]; rfl)
end Go.Proofs.YtjjidificdmnmaaGreatDoor
namespace Go.Proofs.YtjjidificdmnmaaGreatDoor
open Go Go.AL Go.RowKit
set_option maxRecDepth 100000
theorem u8dig (q : Nat) (h : q < 8) : IntKind.u8.wrap (48 + (q : Int)) = ((UInt8.ofNat (48 + q)).toNat : Int) := by
 rw [IntWalk.u8_in _ (by omega)]
 have : (UInt8.ofNat (48 + q)).toNat = 48 + q := by rw [UInt8.toNat_ofNat']; omega
 rw [this]; simp
theorem and7_u8 (x : Nat) (h : x < 256) : IntKind.u8.wrap ((BitVec.ofInt IntKind.u8.bits (x : Int) &&& BitVec.ofInt IntKind.u8.bits 7).toNat : Int) = ((x % 8 : Nat) : Int) := by
 have h1 : (BitVec.ofInt IntKind.u8.bits (x : Int) &&& BitVec.ofInt IntKind.u8.bits 7).toNat = x % 8 := by
  rw [BitVec.toNat_and, BitVec.toNat_ofInt, BitVec.toNat_ofInt]
  have e1 : ((x : Int) % ((2 ^ IntKind.u8.bits : Nat) : Int)).toNat = x := by
   rw [show ((2 ^ IntKind.u8.bits : Nat) : Int) = 256 by rfl]; omega
  have e2 : ((7 : Int) % ((2 ^ IntKind.u8.bits : Nat) : Int)).toNat = 2 ^ 3 - 1 := by rfl
  rw [e1, e2, Nat.and_two_pow_sub_one_eq_mod]
 rw [h1, IntWalk.u8_in _ (by omega)]
theorem shr_u8 (x : Nat) (c : Nat) (h : c ≤ 8) : (x : Int).fdiv (2 ^ min (Int.toNat (c : Int)) IntKind.u8.bits) = ((x / 2 ^ c : Nat) : Int) := by
 rw [shr_eq _ _ IntKind.u8.bits ⟨by omega, by show (c : Int) ≤ 8; omega⟩]
 simp
theorem escaped_ok (c : UInt8) : FnOk Tryz.prog 144 [pByte c] (fun rs => rs = [F6 (N1 c)]) := by
 have hc := c.toNat_lt
 refine FnOk.intro Tryz.func144 (by decide) Z Z Z Z ?_
 refine k2 ?_
 refine A5 (A2 (A4 Z Z) Z (A6 ?_))
 refine k1 (k2 (k3 (k2 ?_)))
 refine A5 (A2 (A3 Z Z) Z (A2 (G6 Z Z) Z (A2 (A3 Z Z) Z (A8 Z Z Z Z (fun hg => by rw [hg]; exact A3 Z Z) ?_)))); refine A8 Z Z Z Z (fun hg => by rw [hg]; exact G6 Z Z) ?_; refine A2 (B2 Z (fun h => by first | rfl | (rw [h]; rfl)) (fun h => by first | rfl | (rw [h]; rfl))) Z ?_; refine A2 (A4 Z Z) Z (A6 ?_)
 refine k1 ?_
 refine B3 rfl (fun ht => ?_) (fun ht => ?_)
 ·have h := A0 (or_pick.symm.trans ht)
  refine k2 ?_
  refine A5 (A2 (A3 Z Z) Z (A2 (n_byte_string Z (by omega)) Z (A2 (F5 Z Z (by simp)) Z (A2 (A4 Z Z) Z (A6 ?_)))))
  refine k1 (k10 (k12 (k11 ?_)))
  exact B5 (G8 rfl rfl rfl) (by rw [N1, if_pos (by omega)]; rfl)
 ·have h := A1 (or_pick.symm.trans ht)
  refine k2 ?_
  refine A5 (A2 (A3 Z Z) Z (A2 (G6 Z Z) Z (A2 (A4 Z Z) Z (A6 ?_))))
  refine k1 ?_
  refine B3 rfl (fun ht => ?_) (fun ht => ?_)
  ·have h1 := A0 ht
   refine k2 ?_
   refine A5 (A2 (A4 Z Z) Z (A6 ?_))
   refine k1 (k10 (k12 (k11 ?_)))
   exact B5 (G8 rfl rfl rfl) (by rw [N1, if_neg (by omega), if_pos (by omega)])
  ·have h1 := A1 ht
   refine k2 ?_
   refine A5 (A2 (A3 Z Z) Z (A2 (G6 Z Z) Z (A2 (A4 Z Z) Z (A6 ?_))))
   refine k1 ?_
   refine B3 rfl (fun ht => ?_) (fun ht => ?_)
   ·have h2 := A0 ht
    refine k2 ?_
    refine A5 (A2 (A4 Z Z) Z (A6 ?_))
    refine k1 (k10 (k12 (k11 ?_)))
    exact B5 (G8 rfl rfl rfl) (by rw [N1, if_neg (by omega), if_neg (by omega), if_pos (by omega)])
   ·have h2 := A1 ht
    refine k2 ?_
    refine A5 (A2 (A3 Z Z) Z (A2 (F0 Z Z) Z (A2 (A3 Z Z) Z (A8 Z Z Z Z (fun hg => by rw [hg]; exact A3 Z Z) ?_)))); refine A8 Z Z Z Z (fun hg => by rw [hg]; exact L9 Z Z) ?_; refine A2 (B2 Z (fun h => by first | rfl | (rw [h]; rfl)) (fun h => by first | rfl | (rw [h]; rfl))) Z ?_; refine A2 (A4 Z Z) Z (A6 ?_)
    refine k1 ?_
    refine B3 rfl (fun ht => ?_) (fun ht => ?_)
    ·have h3 := A0 (or_pick.symm.trans ht)
     refine k2 ?_
     have f6 : (c.toNat : Int).fdiv (2 ^ min (Int.toNat 6) IntKind.u8.bits) = ((c.toNat / 64 : Nat) : Int) := shr_u8 c.toNat 6 (by omega)
     have f3 : (c.toNat : Int).fdiv (2 ^ min (Int.toNat 3) IntKind.u8.bits) = ((c.toNat / 8 : Nat) : Int) := shr_u8 c.toNat 3 (by omega)
     have e1 := u8dig (c.toNat / 64) (by omega)
     have e2 := u8dig (c.toNat / 8 % 8) (by omega)
     have e3 := u8dig (c.toNat % 8) (by omega)
     have hol := y8 c
     refine A5 (A2 (A3 Z Z) Z (A2 (n_shr Z Z (by omega)) Z (A2 (n_add_w Z Z) Z (A2 (A3 Z Z) Z (A2 (n_shr Z Z (by omega)) Z (A2 (n_bits Z Z Z (fun _ => rfl)) Z (A2 (n_add_w Z Z) Z (A2 (A3 Z Z) Z (A2 (n_bits Z Z Z (fun _ => rfl)) Z (A2 (n_add_w Z Z) Z ?_)))))))))); rw [f6, f3, and7_u8 (c.toNat / 8) (by omega), and7_u8 c.toNat (by omega), e1, e2, e3]; refine A2 (D6 (c := u8C) (ys := [UInt8.ofNat (48 + c.toNat / 64), UInt8.ofNat (48 + c.toNat / 8 % 8), UInt8.ofNat (48 + c.toNat % 8)]) (E3 Z Z Z Z (E3 Z Z Z Z (E3 Z Z Z Z H1))) Z Z Z) Z (A2 (N6 TyStr.out Z (.pure _ _ _ _)) Z (A2 (F5 Z Z (by simp)) Z (A2 (A4 Z Z) Z (A6 ?_))))
     refine k1 (k10 (k12 (k11 ?_)))
     exact B5 (G8 rfl rfl rfl) (by rw [N1, if_neg (by omega), if_neg (by omega), if_neg (by omega), if_pos (by omega), hol]; rfl)
    ·have h3 := A1 (or_pick.symm.trans ht)
     refine k5 (k2 ?_)
     refine A5 (A2 (A3 Z Z) Z (A2 (n_byte_string Z (by omega)) Z (A2 (A4 Z Z) Z (A6 ?_))))
     refine k1 (k10 ?_)
     exact B5 (G8 rfl rfl rfl) (by rw [N1, if_neg (by omega), if_neg (by omega), if_neg (by omega), if_neg (by omega)])
theorem itoa_ok (n : Int) (h : 0 ≤ n ∧ n ≤ 2147483647) : FnOk Tryz.prog 195 [D2 n] (fun rs => rs = [F6 (Lib.itoa n)]) :=
 FnOk.ofPlainG (xs := [.int .i64 n]) (r := .string ⟨(Lib.itoa n).toArray⟩) ⟨_, rfl, rfl, rfl⟩ rfl fun w hw =>
  (Tryz.strconv_Itoa n (by omega) (by omega) w (hw.pow10 rfl)).mono fun e w' ⟨he, k, os, hw'⟩ => ⟨he, by subst hw'; exact Lib.below_grow _ _ (Nat.le_refl _) _ _⟩
theorem sformat_ok (n : Int) : FnOk Tryz.prog 179 [D2 n] (fun rs => rs = [F6 (K2 n)]) := by
 refine FnOk.intro Tryz.func179 (by decide) Z Z Z Z ?_
 refine k2 ?_
 refine A5 (A2 (A4 Z Z) Z (A6 ?_))
 refine k1 (k2 (k2 ?_))
 refine A5 (A2 (A3 Z Z) Z (A2 (F0 Z Z) Z (A2 (A3 Z Z) Z (A8 Z Z Z Z (fun hg => by rw [hg]; exact A3 Z Z) ?_)))); refine A8 Z Z Z Z (fun hg => by rw [hg]; exact L9 Z Z) ?_; refine A2 (B2 Z (fun h => by first | rfl | (rw [h]; rfl)) (fun h => by first | rfl | (rw [h]; rfl))) Z ?_; refine A6 ?_
 refine k1 ?_
 refine B3 rfl (fun ht => ?_) (fun ht => ?_)
 ·have h := A0 (or_pick.symm.trans ht)
  refine k2 ?_
  refine A5 (A2 (A4 Z Z) Z (A6 ?_))
  refine k1 (k10 (k11 ?_))
  exact B5 (G8 rfl rfl rfl) (by rw [K2, if_pos (by omega)])
 ·have h := A1 (or_pick.symm.trans ht)
  refine k5 (k1 (k2 ?_))
  refine A5 (A2 (A3 Z Z) Z (C0 (itoa_ok n (by omega)) Z Z Z ?_)); rintro _ rfl; refine A2 (A4 Z Z) Z (A6 ?_)
  refine k1 (k10 ?_)
  exact B5 (G8 rfl rfl rfl) (by rw [K2, if_neg (by omega)])
theorem srange_ok (a n : Int) (ha : -4611686018427387904 ≤ a ∧ a ≤ 4611686018427387904) (hn : -4611686018427387904 ≤ n ∧ n ≤ 4611686018427387904) : FnOk Tryz.prog 146 [D2 a, D2 n] (fun rs => rs = [F6 (G5 a n)]) := by
 refine FnOk.intro Tryz.func146 (by decide) Z Z Z Z ?_
 refine k2 ?_
 refine A5 (A2 (A4 Z Z) Z (A6 ?_))
 refine k1 (k2 (k2 ?_))
 refine A5 (A2 (A3 Z Z) Z (A2 (F0 Z Z) Z (A2 (A3 Z Z) Z (A8 Z Z Z Z (fun hg => by rw [hg]; exact A3 Z Z) ?_)))); refine A8 Z Z Z Z (fun hg => by rw [hg]; exact F0 Z Z) ?_; refine A2 (B2 Z (fun h => by first | rfl | (rw [h]; rfl)) (fun h => by first | rfl | (rw [h]; rfl))) Z ?_; refine A2 (A3 Z Z) Z (A8 Z Z Z Z (fun hg => by rw [hg]; exact A3 Z Z) ?_); refine A8 Z Z Z Z (fun hg => by rw [hg]; exact L9 Z Z) ?_; refine A2 (B2 Z (fun h => by first | rfl | (rw [h]; rfl)) (fun h => by first | rfl | (rw [h]; rfl))) Z ?_; refine A2 (A3 Z Z) Z (A8 Z Z Z Z (fun hg => by rw [hg]; exact A3 Z Z) ?_); refine A8 Z Z Z Z (fun hg => by rw [hg]; exact A3 Z Z) ?_; refine A8 Z Z Z Z (fun hg => by rw [hg]; exact L8 Z Z (by (first | omega | (simp at hq; omega)))) ?_; refine A8 Z Z Z Z (fun hg => by rw [hg]; exact L9 Z Z) ?_; refine A2 (B2 Z (fun h => by first | rfl | (rw [h]; rfl)) (fun h => by first | rfl | (rw [h]; rfl))) Z ?_; refine A6 ?_
 refine k1 ?_
 have l1 := U9 a
 have l2 := U9 (a + 1)
 have l3 := U9 n
 refine B3 rfl (fun ht => ?_) (fun ht => ?_)
 ·have h := A0 ((by simp only [or_pick] at ht; exact ht) : decide _ = true)
  refine k2 ?_
  refine A5 (A2 (A4 Z Z) Z (A6 ?_))
  refine k1 (k10 (k11 ?_))
  exact B5 (G8 rfl rfl rfl) (by rw [G5, if_pos (by omega)])
 ·have h := A1 ((by simp only [or_pick] at ht; exact ht) : decide _ = false)
  refine k5 (k1 (k2 (k2 ?_)))
  refine A5 (A2 (A3 Z Z) Z (A6 ?_))
  refine k1 (k3 (k2 ?_))
  refine A5 (A2 (G6 Z Z) Z (A2 (A4 Z Z) Z (A6 ?_)))
  refine k1 ?_
  refine B3 rfl (fun ht => ?_) (fun ht => ?_)
  ·have h0 := A0 ht
   refine k2 ?_
   refine A5 (A2 (A3 Z Z) Z (C0 (sformat_ok a) Z Z Z ?_)); rintro _ rfl; refine A2 (F5 Z Z (by simp; omega)) Z (A2 (A4 Z Z) Z (A6 ?_))
   refine k1 (k10 (k12 (k11 ?_)))
   exact B5 (G8 rfl rfl rfl) (by rw [G5, if_neg (by omega), if_pos h0])
  ·have h0 := A1 ht
   refine k2 ?_
   refine A5 (A2 (G6 Z Z) Z (A2 (A4 Z Z) Z (A6 ?_)))
   refine k1 ?_
   refine B3 rfl (fun ht => ?_) (fun ht => ?_)
   ·have h1 := A0 ht
    refine k2 ?_
    refine A5 (A2 (A3 Z Z) Z (A2 (C3 Z Z (by omega)) Z (C0 (sformat_ok (a + 1)) Z Z Z ?_))); rintro _ rfl; refine A2 (A4 Z Z) Z (A6 ?_)
    refine k1 (k10 (k12 (k11 ?_)))
    exact B5 (G8 rfl rfl rfl) (by rw [G5, if_neg (by omega), if_neg h0, if_pos h1])
   ·have h1 := A1 ht
    refine k5 (k2 ?_)
    refine A5 (A2 (A3 Z Z) Z (A2 (C3 Z Z (by omega)) Z (C0 (sformat_ok (a + 1)) Z Z Z ?_))); rintro _ rfl; refine A2 (F5 Z Z (by simp; omega)) Z (A2 (A3 Z Z) Z (C0 (sformat_ok n) Z Z Z ?_)); rintro _ rfl; refine A2 (F5 Z Z (by simp; omega)) Z (A2 (A4 Z Z) Z (A6 ?_))
    refine k1 (k10 ?_)
    exact B5 (G8 rfl rfl rfl) (by rw [G5, if_neg (by omega), if_neg h0, if_neg h1])
theorem bstring_calls (B b : Nat) (l : List UInt8) (w : World) (h : Lib.IsBuilder 132 5 B b (Lib.byteCells l) w) (hBw : B ≤ w.heap.size) :
  Calls Tryz.prog 101 #[.pointer (some ⟨b, 0, none⟩)] w fun e w' => e = .returned (.string ⟨l.toArray⟩) ∧ Below B w w' := Tryz.Builder_String_any B b l w h hBw
theorem squote_ok (s : Str) (hs : s.length ≤ 16777216) : FnOk Tryz.prog 97 [F6 s] (fun rs => rs = [F6 (I4 s)]) := by
 refine FnOk.intro Tryz.func97 (by decide) Z Z Z Z ?_
 refine k2 ?_
 refine A5 (A2 (A4 Z Z) Z (A6 ?_))
 refine k1 (k2 ?_)
 refine A5 (A2 (A3 Z Z) Z (A2 (V2 Z Z) Z (A2 (A4 Z Z) Z (A6 ?_))))
 refine k1 (k2 (k2 ?_))
 refine A5 (A2 (A3 Z Z) Z (A2 (D8 Z) Z (A2 (A3 Z Z) Z (A6 ?_))))
 refine k1 (k3 ?_)
 refine E9 (X := Nat) (fun i => ([(0, N3 s), (3, J1 (.bool (plains s i))), (10, C6 s.length), (11, C6 i)], [])) (fun i => i ≤ s.length) (fun i => s.length - i) 0 (Nat.zero_le _) ?_ ?_
 ·rw [plains_zero]
  exact Sees.of ⟨le1 rfl, le1 rfl, le1 rfl, le1 rfl, trivial⟩ trivial
 intro i hi
 dsimp only at hi ⊢
 refine k2 ?_
 refine A5 (A2 (F0 Z Z) Z (A6 ?_))
 refine k1 (k2 ?_)
 refine B3 rfl (fun ht => ?_) (fun ht => ?_)
 ·have hlt : i < s.length := by have := A0 ht; omega
  have hv : s[i]? = some s[i] := by simp [hlt]
  obtain ⟨c, hc⟩ : ∃ c, c = s[i] := ⟨_, rfl⟩
  have h2 := plains_succ s i hlt
  rw [← hc] at hv h2
  refine k5 (k1 (k2 (k3 (k2 ?_))))
  refine A5 (A2 (A3 Z Z) Z (A2 (A4 Z Z) Z (A6 ?_)))
  refine k1 ?_
  refine A5 (A2 (A3 Z Z) Z (A2 (A3 Z Z) Z (A8 Z Z Z Z (fun hg => by rw [hg]; exact A3 Z Z) ?_))); refine A8 Z Z Z Z (fun hg => by rw [hg]; exact A3 Z Z) ?_; refine A8 Z Z Z Z (fun hg => by have hq := hg; (try simp at hq); rw [hg]; exact E7 Z Z (by omega) hv) ?_; refine A8 Z Z Z Z (fun hg => by have hq := hg; (try simp at hq); rw [hg]; exact F9 (splain_ok c) Z Z) ?_; refine A2 (B2 Z (fun h => by first | rfl | (rw [h]; rfl)) (fun h => by first | rfl | (rw [h]; rfl))) Z ?_; refine A2 (A4 Z Z) Z (A6 ?_)
  refine k4 (k1 ?_)
  refine A5 (A2 (C3 Z Z (by omega)) Z (A2 (A3 Z Z) Z (A6 ?_)))
  refine k1 ?_
  refine ⟨i + 1, hlt, by omega, ?_⟩
  rw [show (if plains s i = true then M6 c else false) = plains s (i + 1) from by rw [h2]; cases plains s i <;> rfl]
  exact Sees.of ⟨le1 rfl, le1 rfl, le1 rfl, le1 rfl, trivial⟩ trivial
 have hi' : i = s.length := by have := A1 ht; omega
 subst hi'
 refine k6 (k2 (k2 ?_))
 refine A5 (A2 (A3 Z Z) Z (A6 ?_))
 refine k1 ?_
 refine B3 rfl (fun ht => ?_) (fun ht => ?_)
 ·have h : plains s s.length = true := ht
  refine k2 ?_
  refine A5 (A2 (A3 Z Z) Z (A2 (A4 Z Z) Z (A6 ?_)))
  refine k1 (k10 (k11 ?_))
  exact B5 (G8 rfl rfl rfl) (by rw [quoteOf_eq, if_pos h])
 have h : plains s s.length = false := ht
 have hq : I4 s = (34 :: escs s s.length) ++ [34] := by rw [quoteOf_eq, h]; rfl
 refine k5 (k1 (k2 ?_))
 refine A5 (C8 (f_allocT 700 Z) Z (A6 ?_))
 refine k1 (k2 ?_)
 refine G7 (Sees.adoptT 701 UInt8 1 u8C 5 (kb := 700) (o := 1) Z Z Z) ?_
 refine A5 (S3 (writeByte_met (xs := []) (c := 34) ⟨⟨_, .inl rfl, rfl⟩, rfl⟩ (by simp)) Z Z Z ?_); rintro _ _ ⟨rfl, rfl⟩; refine A6 ?_
 refine k1 (k2 (k2 ?_))
 refine A5 (A2 (A3 Z Z) Z (A2 (D8 Z) Z (A2 (A3 Z Z) Z (A6 ?_))))
 refine k1 (k3 ?_)
 refine E9 (X := Nat) (fun i => ([(0, N3 s), (5, .s (.one (.ref 700 0))), (26, C6 s.length), (27, C6 i)], [(700, .tbx 132 [.ref 700 0, .buf 701 UInt8 1 u8C (34 :: escs s i)]), (701, .spare (34 :: escs s i).length 1 5)])) (fun i => i ≤ s.length) (fun i => s.length - i) 0 (Nat.zero_le _) (Sees.of ⟨le1 rfl, le1 rfl, le1 rfl, le1 rfl, trivial⟩ ⟨rfl, rfl, trivial⟩) ?_
 intro i hi
 dsimp only at hi ⊢
 have hel := escs_len s i hi
 refine k2 ?_
 refine A5 (A2 (F0 Z Z) Z (A6 ?_))
 refine k1 (k2 ?_)
 refine B3 rfl (fun ht => ?_) (fun ht => ?_)
 ·have hlt : i < s.length := by have := A0 ht; omega
  have hv : s[i]? = some s[i] := by simp [hlt]
  obtain ⟨c, hc⟩ : ∃ c, c = s[i] := ⟨_, rfl⟩
  have h1 := escs_succ s i hlt
  have h2 := escOf_len c
  rw [← hc] at hv h1
  refine k5 (k1 (k2 (k3 (k2 ?_))))
  refine A5 (A2 (A3 Z Z) Z (A2 (A4 Z Z) Z (A6 ?_)))
  refine k1 ?_
  refine A5 (A2 (A3 Z Z) Z (A2 (A3 Z Z) Z (A2 (E7 Z Z (by omega) hv) Z (C0 (escaped_ok c) Z Z Z ?_)))); rintro _ rfl; refine S3 (U3 (xs := 34 :: escs s i) (s := N1 c) ⟨⟨_, .inr rfl, rfl⟩, rfl⟩ (by simp only [List.length_cons]; omega)) Z Z Z ?_; rintro _ _ ⟨rfl, rfl⟩; refine A6 ?_
  refine k4 (k1 ?_)
  refine A5 (A2 (C3 Z Z (by omega)) Z (A2 (A3 Z Z) Z (A6 ?_)))
  refine k1 ?_
  refine ⟨i + 1, hlt, by omega, ?_⟩
  rw [h1]
  exact Sees.of ⟨le1 rfl, le1 rfl, le1 rfl, le1 rfl, trivial⟩ ⟨rfl, rfl, trivial⟩
 have hi' : i = s.length := by have := A1 ht; omega
 subst hi'
 refine k6 (k2 ?_)
 refine A5 (S3 (writeByte_met (xs := 34 :: escs s s.length) (c := 34) ⟨⟨_, .inr rfl, rfl⟩, rfl⟩ (by simp only [List.length_cons]; omega)) Z Z Z ?_); rintro _ _ ⟨rfl, rfl⟩; refine A6 ?_
 refine k1 (k2 ?_)
 refine A5 (l_bstring (k := 700) (k' := 701) ⟨_, rfl, rfl, rfl⟩ bstring_calls Z Z Z Z Z (.inr Z) Z (A2 (A4 Z Z) Z (A6 ?_)))
 refine k1 (k10 ?_)
 exact B5 (G8 rfl rfl rfl) (by rw [hq])
theorem gD {s : Str} {i : Nat} (h : i < s.length) : s[i]? = some (s.getD i 0) := by simp [h]
def digitAt (s : Str) (i : Nat) : Bool := decide ((i < s.length ∧ 48 ≤ (s.getD i 0).toNat) ∧ (s.getD i 0).toNat ≤ 57)
theorem digitAt_eq (s : Str) (i : Nat) : digitAt s i = match s[i]? with | some c => X6 c | none => false := by
 unfold digitAt X6
 by_cases h : i < s.length
 ·rw [gD h]; simp [h]
 ·rw [List.getElem?_eq_none (by omega)]; simp [h]
theorem digs_le (s : Str) (i : Nat) : (K4 (s.drop i)).length ≤ s.length - i := by
 unfold K4
 have := (List.takeWhile_sublist X6 (l := s.drop i)).length_le
 rw [List.length_drop] at this; exact this
theorem u0 {p : UInt8 → Bool} : ∀ (s : Str) (k : Nat), k ≤ (s.takeWhile p).length → (match s[k]? with | some c => p c | none => false) = decide (k < (s.takeWhile p).length)
 | [], k, h => by simp at h ⊢
 | c :: r, 0, h => by by_cases hc : p c = true <;> simp [List.takeWhile_cons, hc]
 | c :: r, k + 1, h => by
  by_cases hc : p c = true
  ·rw [List.takeWhile_cons, if_pos hc, List.length_cons] at h ⊢
   have := u0 (p := p) r k (by omega)
   rw [List.getElem?_cons_succ, this]; simp
  ·rw [List.takeWhile_cons, if_neg hc] at h; simp at h
theorem takeWhile_pre {p : UInt8 → Bool} : ∀ (s : Str) (k : Nat), k < (s.takeWhile p).length → s[k]? = (s.takeWhile p)[k]?
 | [], k, h => by simp at h
 | c :: r, k, h => by
  by_cases hc : p c = true
  ·rw [List.takeWhile_cons, if_pos hc] at h ⊢
   cases k with
   | zero => rfl
   | succ k => rw [List.getElem?_cons_succ, List.getElem?_cons_succ]; exact takeWhile_pre (p := p) r k (by simpa using h)
  ·rw [List.takeWhile_cons, if_neg hc] at h; simp at h
theorem digit_run (s : Str) (i k : Nat) (h : k ≤ (K4 (s.drop i)).length) : digitAt s (i + k) = decide (k < (K4 (s.drop i)).length) := by
 rw [digitAt_eq, ← List.getElem?_drop]
 exact u0 (s.drop i) k h
theorem digit_get {s : Str} {i k : Nat} (h : k < (K4 (s.drop i)).length) : s[i + k]? = some ((K4 (s.drop i)).getD k 0) ∧ 48 ≤ ((K4 (s.drop i)).getD k 0).toNat ∧ ((K4 (s.drop i)).getD k 0).toNat ≤ 57 ∧
  Y5 ((K4 (s.drop i)).take (k + 1)) = 10 * Y5 ((K4 (s.drop i)).take k) + (((K4 (s.drop i)).getD k 0).toNat - 48) := by
 have h1 : s[i + k]? = (K4 (s.drop i))[k]? := by rw [← List.getElem?_drop]; exact takeWhile_pre _ _ h
 have h2 := gD h
 have h3 : X6 ((K4 (s.drop i)).getD k 0) = true := by
  have hm : (K4 (s.drop i)).getD k 0 ∈ (s.drop i).takeWhile X6 := List.mem_of_getElem? h2
  exact List.all_eq_true.1 List.all_takeWhile _ hm
 unfold X6 at h3
 have h3 := A0 h3
 refine ⟨by rw [h1, h2], h3.1, h3.2, ?_⟩
 obtain ⟨hl, he⟩ := List.getElem?_eq_some_iff.1 h2
 rw [List.take_succ_eq_append_getElem hl, decV_snoc, he]
theorem i64sub48 (n : Nat) (h : 48 ≤ n) (h2 : n ≤ 57) : IntKind.i64.wrap (IntKind.u8.wrap ((n : Int) - 48)) = ((n - 48 : Nat) : Int) := by
 have : ∀ k : Fin 10, IntKind.i64.wrap (IntKind.u8.wrap (((k.1 + 48 : Nat) : Int) - 48)) = ((k.1 : Nat) : Int) := by decide
 have h3 := this ⟨n - 48, by omega⟩
 dsimp only at h3
 rw [show n - 48 + 48 = n by omega] at h3
 exact h3
def numR (s : Str) (i : Nat) : List PV := match R7 (s.drop i) with
 | none => [D2 0, D2 0, D5 false]
 | some (n, k) => [D2 n, D2 ((i + k : Nat) : Int), D5 true]
theorem m6 {s : Str} {n k : Nat} (h : R7 s = some (n, k)) : k = (K4 s).length ∧ n = Y5 (K4 s) ∧ 0 < k ∧ k ≤ s.length ∧ n ≤ 2147483647 := by
 unfold R7 at h
 split at h
 ·cases h
 ·rename_i h1
  cases h
  have h2 : K4 s ≠ [] := fun e => h1 (.inl e)
  have h3 := List.length_pos_iff.2 h2
  have h4 : (K4 s).length ≤ s.length := by unfold K4; exact (List.takeWhile_sublist X6).length_le
  refine ⟨rfl, rfl, h3, h4, ?_⟩
  by_cases hv : Y5 (K4 s) ≤ 2147483647
  ·exact hv
  ·exact absurd (.inr (.inr (by omega))) h1
theorem sdigit_ok (s : Str) (i : Nat) : FnOk Tryz.prog 202 [F6 s, D2 i] (fun rs => rs = [D5 (digitAt s i)]) := by
 refine FnOk.intro Tryz.func202 (by decide) Z Z Z Z ?_
 refine k2 ?_
 refine A5 (A2 (A4 Z Z) Z (A6 ?_))
 refine k1 (k2 ?_)
 refine A5 (A2 (A3 Z Z) Z (A2 (A3 Z Z) Z (A2 (D8 Z) Z (A2 (F0 Z Z) Z (A2 (A3 Z Z) Z (A8 Z Z Z Z (fun hg => by rw [hg]; exact A3 Z Z) ?_)))))); refine A8 Z Z Z Z (fun hg => by rw [hg]; exact A3 Z Z) ?_; refine A8 Z Z Z Z (fun hg => by have hq := hg; (try simp at hq); rw [hg]; exact E7 Z Z (by omega) (gD (by omega))) ?_; refine A8 Z Z Z Z (fun hg => by rw [hg]; exact V1 Z Z) ?_; refine A2 (B2 Z (fun h => by first | rfl | (rw [h]; rfl)) (fun h => by first | rfl | (rw [h]; rfl))) Z ?_; refine A2 (A3 Z Z) Z (A8 Z Z Z Z (fun hg => by rw [hg]; exact A3 Z Z) ?_); refine A8 Z Z Z Z (fun hg => by rw [hg]; exact A3 Z Z) ?_; refine A8 Z Z Z Z (fun hg => by have hq := hg; (try simp at hq); rw [hg]; exact E7 Z Z (by omega) (gD (by omega))) ?_; refine A8 Z Z Z Z (fun hg => by rw [hg]; exact n_leq Z Z) ?_; refine A2 (B2 Z (fun h => by first | rfl | (rw [h]; rfl)) (fun h => by first | rfl | (rw [h]; rfl))) Z ?_; refine A2 (A4 Z Z) Z (A6 ?_)
 refine k1 (k10 ?_)
 refine B5 (G8 Z Z Z) ?_
 simp only [H2]
 unfold digitAt
 congr 4
 congr 1
 simp; omega
theorem sNumber_ok (s : Str) (i : Nat) (hi : i ≤ s.length) (hs : s.length ≤ 1073741824) : FnOk Tryz.prog 198 [F6 s, D2 i] (fun rs => rs = numR s i) := by
 obtain ⟨ds, hds⟩ : ∃ ds, ds = K4 (s.drop i) := ⟨_, rfl⟩
 have hle := digs_le s i
 have h0 := digit_run s i 0 (Nat.zero_le _)
 rw [Nat.add_zero] at h0
 rw [← hds] at hle h0
 refine FnOk.intro Tryz.func198 (by decide) Z Z Z Z ?_
 refine k2 ?_
 refine A5 (A2 (A4 Z Z) Z (A2 (A4 Z Z) Z (A2 (A4 Z Z) Z (A6 ?_))))
 refine k1 (k2 (k2 ?_))
 refine A5 (A2 (A3 Z Z) Z (A2 (F0 Z Z) Z (A2 (A3 Z Z) Z (A8 Z Z Z Z (fun hg => by rw [hg]; exact A3 Z Z) ?_)))); refine A8 Z Z Z Z (fun hg => by rw [hg]; exact A3 Z Z) ?_; refine A8 Z Z Z Z (fun hg => by have hq := hg; (try simp at hq); rw [hg]; exact F9 (sdigit_ok s i) Z Z) ?_; refine A8 Z Z Z Z (fun hg => by rw [hg]; exact E5 Z) ?_; refine A2 (B2 Z (fun h => by first | rfl | (rw [h]; rfl)) (fun h => by first | rfl | (rw [h]; rfl))) Z ?_; refine A6 ?_
 rw [h0]
 refine k1 ?_
 by_cases hz : ds.length = 0
 ·refine B3 rfl (fun ht => ?_) (fun ht => ?_)
  rotate_left
  ·exfalso; revert ht; simp [hz]
  refine k2 ?_
  refine A5 (A2 (A4 Z Z) Z (A2 (A4 Z Z) Z (A2 (A4 Z Z) Z (A6 ?_))))
  refine k1 (k10 (k11 ?_))
  refine B5 (rs := [D2 0, D2 0, D5 false]) (ret3 Z Z Z Z Z Z Z) ?_
  unfold numR R7
  rw [← hds, if_pos (.inl (List.length_eq_zero_iff.1 hz))]
 refine B3 rfl (fun ht => ?_) (fun ht => ?_)
 ·exfalso; revert ht; simp [show 0 < ds.length by omega]
 refine k5 (k1 (k2 ?_))
 refine A5 (A2 (A3 Z Z) Z (A2 (A4 Z Z) Z (A2 (A4 Z Z) Z (A6 ?_))))
 refine k1 (k2 (k3 ?_))
 refine E9 (X := Nat) (fun k => ([(0, N3 s), (1, C6 i), (7, C6 ((min (Y5 (ds.take k)) 2147483648 : Nat) : Int)), (8, C6 ((i + k : Nat) : Int))], [])) (fun k => k ≤ ds.length) (fun k => ds.length - k) 0 (Nat.zero_le _) (Sees.of ⟨le1 rfl, le1 rfl, le1 rfl, le1 rfl, trivial⟩ trivial) ?_
 intro k hk
 dsimp only at hk ⊢
 have hrun := digit_run s i k (by rw [← hds]; exact hk)
 rw [← hds] at hrun
 refine k2 (k2 ?_)
 refine A5 (A2 (A3 Z Z) Z (A2 (A3 Z Z) Z (C0 (sdigit_ok s (i + k)) Z Z Z ?_))); rintro _ rfl; refine A6 ?_
 rw [hrun]
 refine k1 ?_
 refine B3 rfl (fun ht => ?_) (fun ht => ?_)
 ·have hlt : k < ds.length := A0 ht
  obtain ⟨g1, g2, g3, g4⟩ := digit_get (s := s) (i := i) (k := k) (by rw [← hds]; exact hlt)
  rw [← hds] at g1 g2 g3 g4
  obtain ⟨c, hc⟩ : ∃ c, c = ds.getD k 0 := ⟨_, rfl⟩
  rw [← hc] at g1 g2 g3 g4
  obtain ⟨v, hv⟩ : ∃ v, v = min (Y5 (ds.take k)) 2147483648 := ⟨_, rfl⟩
  have hvb : v ≤ 2147483648 := by omega
  have hnew : min (Y5 (ds.take (k + 1))) 2147483648 = min (10 * v + (c.toNat - 48)) 2147483648 := by rw [g4]; omega
  rw [← hv]
  have hsub := i64sub48 c.toNat g2 g3
  refine k5 (k1 (k2 (k3 ?_)))
  refine A5 (A2 (A3 Z Z) Z (A2 (n_mul Z Z (by omega)) Z (A2 (A3 Z Z) Z (A2 (A3 Z Z) Z (A2 (E7 Z Z (by omega) g1) Z (A2 (n_sub_w Z Z) Z (A2 (O1 Z) Z (A2 (C3 Z Z (by (rw [hsub]; omega))) Z ?_)))))))); refine A2 (n_min Z Z) Z (A2 (A4 Z Z) Z (A6 ?_))
  refine k4 (k1 ?_)
  refine A5 (A2 (A3 Z Z) Z (A2 (C3 Z Z (by omega)) Z (A2 (A4 Z Z) Z (A6 ?_))))
  refine k1 ?_
  refine ⟨k + 1, hlt, by omega, ?_⟩
  rw [hnew]
  refine Sees.of ⟨⟨_, rfl, .same _⟩, ⟨_, rfl, .same _⟩, ⟨_, rfl, .eq ?_⟩, ⟨_, rfl, .eq ?_⟩, trivial⟩ trivial
  ·rw [hsub]
   congr 6
   split <;> omega
  ·congr 6
 ·have hk' : k = ds.length := by have : ¬ k < ds.length := A1 ht; omega
  subst hk'
  rw [List.take_length]
  have hv0 : i < s.length := by omega
  refine k6 (k2 (k2 ?_))
  refine A5 (A2 (A3 Z Z) Z (A2 (L9 Z Z) Z (A2 (A3 Z Z) Z (A8 Z Z Z Z (fun hg => by rw [hg]; exact A3 Z Z) ?_)))); refine A8 Z Z Z Z (fun hg => by rw [hg]; exact A3 Z Z) ?_; refine A8 Z Z Z Z (fun hg => by have hq := hg; (try simp at hq); rw [hg]; exact E7 Z Z (by omega) (gD hv0)) ?_; refine A8 Z Z Z Z (fun hg => by rw [hg]; exact G6 Z Z) ?_; refine A8 Z Z Z Z (fun hg => by rw [hg]; exact A3 Z Z) ?_; refine S0 Z Z Z (.gd (.val _)) Z (fun hg => by obtain ⟨hg1, hg2⟩ := gd_and hg; (try rw [hg1]); (try rw [hg2]); exact A3 Z Z) ?_; refine S0 Z Z Z (.gd (.val _)) Z (fun hg => by obtain ⟨hg1, hg2⟩ := gd_and hg; (try rw [hg1]); (try rw [hg2]); exact A3 Z Z) ?_; refine S0 Z Z Z (.gd (.val _)) Z (fun hg => by have hq := hg; (try simp at hq); obtain ⟨hg1, hg2⟩ := gd_and hg; (try rw [hg1]); (try rw [hg2]); exact C3 Z Z (by omega)) ?_; refine S0 Z Z Z (.gd (.val _)) Z (fun hg => by obtain ⟨hg1, hg2⟩ := gd_and hg; (try rw [hg1]); (try rw [hg2]); exact L9 Z Z) ?_; refine A8 Z Z Z Z (fun hg => by rw [hg]; exact B2 Z (fun h => by first | rfl | (rw [h]; rfl)) (fun h => by first | rfl | (rw [h]; rfl))) ?_; refine A2 (B2 Z (fun h => by first | rfl | (rw [h]; rfl)) (fun h => by first | rfl | (rw [h]; rfl))) Z ?_; refine A6 ?_
  refine k1 ?_
  have hd0 : (s.drop i).head? = some (s.getD i 0) := by rw [List.head?_drop, gD hv0]
  simp only [H2, or_pick]
  have hbad : (K4 (s.drop i) = [] ∨ ((s.drop i).head? = some 48 ∧ 1 < (K4 (s.drop i)).length) ∨ 2147483647 < Y5 (K4 (s.drop i))) ↔ (2147483647 < ((min (Y5 ds) 2147483648 : Nat) : Int) ∨ (((s.getD i 0).toNat : Int) = 48 ∧ (i : Int) + 1 < ((i + ds.length : Nat) : Int))) := by
   rw [← hds, hd0]
   have e1 : ds ≠ [] := fun e => hz (by rw [e]; rfl)
   have e2 : (some (s.getD i 0) = some 48) ↔ ((s.getD i 0).toNat : Int) = 48 := by
    rw [Option.some.injEq, ← UInt8.toNat_inj]
    have : (48 : UInt8).toNat = 48 := rfl
    omega
   simp only [e1, false_or, e2]
   omega
  refine B3 rfl (fun ht => ?_) (fun ht => ?_)
  ·have h1 := A0 ht
   refine k2 ?_
   refine A5 (A2 (A4 Z Z) Z (A2 (A4 Z Z) Z (A2 (A4 Z Z) Z (A6 ?_))))
   refine k1 (k10 (k11 ?_))
   refine B5 (rs := [D2 0, D2 0, D5 false]) (ret3 Z Z Z Z Z Z Z) ?_
   unfold numR R7
   rw [if_pos (hbad.2 (by first | exact h1 | simpa using h1))]
  ·have h1 := A1 ht
   have h2 : ¬ (K4 (s.drop i) = [] ∨ ((s.drop i).head? = some 48 ∧ 1 < (K4 (s.drop i)).length) ∨ 2147483647 < Y5 (K4 (s.drop i))) := fun hh => h1 (by first | exact hbad.1 hh | simpa using hbad.1 hh)
   refine k5 (k1 (k2 ?_))
   refine A5 (A2 (A3 Z Z) Z (A2 (A3 Z Z) Z (A2 (A4 Z Z) Z (A2 (A4 Z Z) Z (A2 (A4 Z Z) Z (A6 ?_))))))
   refine k1 (k10 ?_)
   refine B5 (rs := [D2 ((min (Y5 ds) 2147483648 : Nat) : Int), D2 ((i + ds.length : Nat) : Int), D5 true]) (ret3 Z Z Z Z Z Z Z) ?_
   unfold numR R7
   rw [if_neg h2, ← hds]
   have h3 : Y5 ds ≤ 2147483647 := by
    rw [← hds] at h2
    by_cases hv : Y5 ds ≤ 2147483647
    ·exact hv
    ·exact absurd (.inr (.inr (by omega))) h2
   rw [show min (Y5 ds) 2147483648 = Y5 ds by omega]
theorem rNumber_ok (s : Str) (i : Nat) (hi : i ≤ s.length) (hs : s.length ≤ 1073741824) : FnOk Tryz.prog 173 [F6 s, D2 i] (fun rs => rs = numR s i) := by
 obtain ⟨ds, hds⟩ : ∃ ds, ds = K4 (s.drop i) := ⟨_, rfl⟩
 have hle := digs_le s i
 rw [← hds] at hle
 have hd0 : 0 < ds.length → (s.drop i).head? = some (s.getD i 0) := fun h => by rw [List.head?_drop, gD (by omega)]
 have e48 : ((s.getD i 0).toNat : Int) = 48 ↔ s.getD i 0 = 48 := by
  rw [← UInt8.toNat_inj]
  have : (48 : UInt8).toNat = 48 := rfl
  omega
 refine FnOk.intro Tryz.func173 (by decide) Z Z Z Z ?_
 refine k2 ?_
 refine A5 (A2 (A4 Z Z) Z (A2 (A4 Z Z) Z (A2 (A4 Z Z) Z (A6 ?_))))
 refine k1 (k2 (k2 ?_))
 refine A5 (A2 (A3 Z Z) Z (A2 (F0 Z Z) Z (A2 (A3 Z Z) Z (A8 Z Z Z Z (fun hg => by rw [hg]; exact A3 Z Z) ?_)))); refine A8 Z Z Z Z (fun hg => by rw [hg]; exact A3 Z Z) ?_; refine A8 Z Z Z Z (fun hg => by rw [hg]; exact D8 Z) ?_; refine A8 Z Z Z Z (fun hg => by rw [hg]; exact L9 Z Z) ?_; refine A2 (B2 Z (fun h => by first | rfl | (rw [h]; rfl)) (fun h => by first | rfl | (rw [h]; rfl))) Z ?_; refine A6 ?_
 refine k1 ?_
 refine B3 rfl (fun ht => ?_) (fun ht => ?_)
 ·exfalso; revert ht; simp only [or_pick]; simp; omega
 refine k5 (k1 (k2 ?_))
 refine A5 (A2 (A3 Z Z) Z (A2 (A4 Z Z) Z (A2 (A4 Z Z) Z (A6 ?_))))
 refine k1 (k2 (k3 ?_))
 refine E9 (X := Nat) (fun k => ([(0, N3 s), (1, C6 i), (7, C6 (Y5 (ds.take k) : Int)), (8, C6 ((i + k : Nat) : Int))], [])) (fun k => k ≤ ds.length ∧ Y5 (ds.take k) ≤ 2147483647 ∧ (1 < k → s.getD i 0 ≠ 48)) (fun k => ds.length - k) 0 ⟨Nat.zero_le _, by simp [Y5], by omega⟩ (Sees.of ⟨le1 rfl, le1 rfl, le1 rfl, le1 rfl, trivial⟩ trivial) ?_
 rintro k ⟨hk, hv, h48⟩
 dsimp only at hk hv h48 ⊢
 have hrun := digit_run s i k (by rw [← hds]; exact hk)
 rw [← hds] at hrun
 unfold digitAt at hrun
 refine k2 (k2 ?_)
 refine A5 (A2 (A3 Z Z) Z (A2 (A3 Z Z) Z (A2 (D8 Z) Z (A2 (F0 Z Z) Z (A2 (A3 Z Z) Z (A8 Z Z Z Z (fun hg => by rw [hg]; exact A3 Z Z) ?_)))))); refine A8 Z Z Z Z (fun hg => by rw [hg]; exact A3 Z Z) ?_; refine A8 Z Z Z Z (fun hg => by have hq := hg; (try simp at hq); rw [hg]; exact E7 Z Z (by omega) (gD (by omega))) ?_; refine A8 Z Z Z Z (fun hg => by rw [hg]; exact V1 Z Z) ?_; refine A2 (B2 Z (fun h => by first | rfl | (rw [h]; rfl)) (fun h => by first | rfl | (rw [h]; rfl))) Z ?_; refine A2 (A3 Z Z) Z (A8 Z Z Z Z (fun hg => by rw [hg]; exact A3 Z Z) ?_); refine A8 Z Z Z Z (fun hg => by rw [hg]; exact A3 Z Z) ?_; refine A8 Z Z Z Z (fun hg => by have hq := hg; (try simp at hq); rw [hg]; exact E7 Z Z (by omega) (gD (by omega))) ?_; refine A8 Z Z Z Z (fun hg => by rw [hg]; exact n_leq Z Z) ?_; refine A2 (B2 Z (fun h => by first | rfl | (rw [h]; rfl)) (fun h => by first | rfl | (rw [h]; rfl))) Z ?_; refine A6 ?_
 refine k1 ?_
 simp only [H2]
 have hrun2 : decide (((((i + k : Nat) : Int) < (s.length : Int)) ∧ (48 : Int) ≤ ((s.getD (i + k) 0).toNat : Int)) ∧ ((s.getD (i + k) 0).toNat : Int) ≤ 57) = decide (k < ds.length) := by
  rw [← hrun]
  congr 1
  simp; omega
 refine B3 rfl (fun ht => ?_) (fun ht => ?_)
 ·have ht2 := ht
  have hlt : k < ds.length := by
   have h1 := A0 ht
   refine A0 (hrun2 ▸ ?_)
   exact decide_eq_true (by first | exact h1 | simpa using h1)
  obtain ⟨g1, g2, g3, g4⟩ := digit_get (s := s) (i := i) (k := k) (by rw [← hds]; exact hlt)
  rw [← hds] at g1 g2 g3 g4
  obtain ⟨c, hc⟩ : ∃ c, c = ds.getD k 0 := ⟨_, rfl⟩
  rw [← hc] at g1 g2 g3 g4
  have hsub := i64sub48 c.toNat g2 g3
  have hi0 : i < s.length := by omega
  refine k5 (k1 (k3 (k2 (k2 ?_))))
  refine A5 (A2 (A3 Z Z) Z (A2 (A3 Z Z) Z (A2 (L9 Z Z) Z (A2 (A3 Z Z) Z (A8 Z Z Z Z (fun hg => by rw [hg]; exact A3 Z Z) ?_))))); refine A8 Z Z Z Z (fun hg => by rw [hg]; exact A3 Z Z) ?_; refine A8 Z Z Z Z (fun hg => by have hq := hg; (try simp at hq); rw [hg]; exact E7 Z Z (by omega) (gD hi0)) ?_; refine A8 Z Z Z Z (fun hg => by rw [hg]; exact G6 Z Z) ?_; refine A2 (B2 Z (fun h => by first | rfl | (rw [h]; rfl)) (fun h => by first | rfl | (rw [h]; rfl))) Z ?_; refine A6 ?_
  refine k1 ?_
  simp only [H2]
  refine B3 rfl (fun ht => ?_) (fun ht => ?_)
  ·have h1 := A0 ht
   have h1 : 0 < k ∧ s.getD i 0 = 48 := ⟨by omega, e48.1 h1.2⟩
   refine k2 ?_
   refine A5 (A2 (A4 Z Z) Z (A2 (A4 Z Z) Z (A2 (A4 Z Z) Z (A6 ?_))))
   refine k1 (k10 (k11 (k12 (k11 (k12 (k11 ?_))))))
   refine B5 (rs := [D2 0, D2 0, D5 false]) (ret3 Z Z Z Z Z Z Z) ?_
   unfold numR R7
   rw [← hds, if_pos (.inr (.inl ⟨by rw [hd0 (by omega), h1.2], by omega⟩))]
  ·have h1 := A1 ht
   have h1 : 0 < k → s.getD i 0 ≠ 48 := fun h2 h3 => h1 ⟨by omega, e48.2 h3⟩
   refine k5 (k1 (k2 ?_))
   refine A5 (A2 (A3 Z Z) Z (A2 (n_mul Z Z (by omega)) Z (A2 (A3 Z Z) Z (A2 (A3 Z Z) Z (A2 (E7 Z Z (by omega) g1) Z (A2 (n_sub_w Z Z) Z (A2 (O1 Z) Z (A2 (C3 Z Z (by (rw [hsub]; omega))) Z ?_)))))))); refine A2 (A4 Z Z) Z (A6 ?_)
   rw [hsub, show 10 * ((Y5 (ds.take k) : Nat) : Int) + ((c.toNat - 48 : Nat) : Int) = ((Y5 (ds.take (k + 1)) : Nat) : Int) by rw [g4]; omega]
   refine k1 (k2 (k2 ?_))
   refine A5 (A2 (A3 Z Z) Z (A2 (L9 Z Z) Z (A6 ?_)))
   refine k1 ?_
   refine B3 rfl (fun ht => ?_) (fun ht => ?_)
   ·have h2 : (2147483647 : Int) < ((Y5 (ds.take (k + 1)) : Nat) : Int) := A0 ht
    refine k2 ?_
    refine A5 (A2 (A4 Z Z) Z (A2 (A4 Z Z) Z (A2 (A4 Z Z) Z (A6 ?_))))
    refine k1 (k10 (k11 (k12 (k11 (k12 (k11 ?_))))))
    refine B5 (rs := [D2 0, D2 0, D5 false]) (ret3 Z Z Z Z Z Z Z) ?_
    have hmono : ∀ j, k + 1 ≤ j → j ≤ ds.length → Y5 (ds.take (k + 1)) ≤ Y5 (ds.take j) := by
     intro j
     induction j with
     | zero => intro h; omega
     | succ j ih =>
      intro h3 h4
      by_cases hj : k + 1 = j + 1
      ·rw [hj]; exact Nat.le_refl _
      ·have := ih (by omega) (by omega)
       obtain ⟨_, _, _, g⟩ := digit_get (s := s) (i := i) (k := j) (by rw [← hds]; omega)
       rw [← hds] at g
       omega
    have h3 := hmono ds.length (by omega) (Nat.le_refl _)
    rw [List.take_length] at h3
    unfold numR R7
    rw [← hds, if_pos (.inr (.inr (by omega)))]
   ·have h2 : ¬ (2147483647 : Int) < ((Y5 (ds.take (k + 1)) : Nat) : Int) := A1 ht
    refine k5 (k1 ?_)
    refine A5 (A2 (A3 Z Z) Z (A2 (C3 Z Z (by omega)) Z (A2 (A4 Z Z) Z (A6 ?_))))
    refine k4 (k1 ?_)
    refine ⟨k + 1, ⟨hlt, by omega, fun _ => h1 (by omega)⟩, by omega, ?_⟩
    rw [show ((i + (k + 1) : Nat) : Int) = ((i + k : Nat) : Int) + 1 by omega]
    exact Sees.of ⟨le1 rfl, le1 rfl, le1 rfl, le1 rfl, trivial⟩ trivial
 ·have hk' : k = ds.length := by
   have h1 := A1 ht
   have h2 : ¬ k < ds.length := by
    refine A1 (hrun2 ▸ ?_)
    exact decide_eq_false (by first | exact h1 | simpa using h1)
   omega
  subst hk'
  rw [List.take_length] at hv ⊢
  refine k6 (k2 (k2 ?_))
  refine A5 (A2 (A3 Z Z) Z (A2 (A3 Z Z) Z (A2 (G6 Z Z) Z (A6 ?_))))
  refine k1 ?_
  refine B3 rfl (fun ht => ?_) (fun ht => ?_)
  ·have hz : ds.length = 0 := by have := A0 ht; omega
   refine k2 ?_
   refine A5 (A2 (A4 Z Z) Z (A2 (A4 Z Z) Z (A2 (A4 Z Z) Z (A6 ?_))))
   refine k1 (k10 (k11 ?_))
   refine B5 (rs := [D2 0, D2 0, D5 false]) (ret3 Z Z Z Z Z Z Z) ?_
   unfold numR R7
   rw [← hds, if_pos (.inl (List.length_eq_zero_iff.1 hz))]
  ·have hz : ds.length ≠ 0 := by have := A1 ht; omega
   refine k5 (k1 (k2 ?_))
   refine A5 (A2 (A3 Z Z) Z (A2 (A3 Z Z) Z (A2 (A4 Z Z) Z (A2 (A4 Z Z) Z (A2 (A4 Z Z) Z (A6 ?_))))))
   refine k1 (k10 ?_)
   refine B5 (rs := [D2 (Y5 ds : Int), D2 ((i + ds.length : Nat) : Int), D5 true]) (ret3 Z Z Z Z Z Z Z) ?_
   unfold numR R7
   rw [← hds, if_neg]
   rintro (h | ⟨h, h'⟩ | h)
   ·exact hz (by rw [h]; rfl)
   ·rw [hd0 (by omega)] at h
    exact h48 h' (Option.some.inj h)
   ·omega
def rngR (s : Str) (i : Nat) : List PV := match Q3 (s.drop i) with
 | none => [D2 0, D2 0, D2 0, D5 false]
 | some (a, n, k) => [D2 a, D2 n, D2 ((i + k : Nat) : Int), D5 true]
theorem numR_some {s : Str} {i n k : Nat} (h : R7 (s.drop i) = some (n, k)) : numR s i = [D2 n, D2 ((i + k : Nat) : Int), D5 true] := by unfold numR; rw [h]
theorem numR_none {s : Str} {i : Nat} (h : R7 (s.drop i) = none) : numR s i = [D2 0, D2 0, D5 false] := by unfold numR; rw [h]
theorem sRange_ok (s : Str) (i : Nat) (hi : i ≤ s.length) (hs : s.length ≤ 1073741824) : FnOk Tryz.prog 189 [F6 s, D2 i] (fun rs => rs = rngR s i) := by
 have hc := sNumber_ok s i hi hs
 cases h1 : R7 (s.drop i) with
 | none =>
  rw [numR_none h1] at hc
  refine FnOk.intro Tryz.func189 (by decide) Z Z Z Z ?_
  refine k2 ?_
  refine A5 (A2 (A4 Z Z) Z (A2 (A4 Z Z) Z (A2 (A4 Z Z) Z (A2 (A4 Z Z) Z (A6 ?_)))))
  refine k1 (k2 ?_)
  refine A5 (A2 (A3 Z Z) Z (A2 (A3 Z Z) Z (C0 (hc) Z Z Z ?_))); rintro _ rfl; refine A2 (A3 Z Z) Z (A2 (B1 Z Z) Z (A2 (B1 Z Z) Z (A2 (B1 Z Z) Z (A2 (A4 Z Z) Z (A2 (A4 Z Z) Z (A2 (A4 Z Z) Z (A6 ?_)))))))
  refine k1 (k2 (k2 ?_))
  refine A5 (A2 (A3 Z Z) Z (A2 (E5 Z) Z (A6 ?_)))
  refine k1 ?_
  refine B3 rfl (fun ht => ?_) (fun ht => ?_)
  ·refine k2 ?_
   refine A5 (A2 (A4 Z Z) Z (A2 (A4 Z Z) Z (A2 (A4 Z Z) Z (A2 (A4 Z Z) Z (A6 ?_)))))
   refine k1 (k10 (k11 ?_))
   exact B5 (ret4 rfl rfl rfl rfl rfl rfl rfl rfl rfl) (by unfold rngR Q3; rw [h1])
  ·cases ht
 | some p =>
  obtain ⟨a, k⟩ := p
  rw [numR_some h1] at hc
  obtain ⟨_, _, hk0, hk1, ha⟩ := m6 h1
  rw [List.length_drop] at hk1
  have hget : (s.drop i)[k]? = s[i + k]? := by rw [List.getElem?_drop]
  have hdd : (s.drop i).drop (k + 1) = s.drop (i + k + 1) := by rw [List.drop_drop]; rfl
  have hcm2 : decide (((i + k : Nat) : Int) < (s.length : Int) ∧ ((s.getD (i + k) 0).toNat : Int) = 44) = decide (s[i + k]? = some 44) := by
   have : (44 : UInt8).toNat = 44 := rfl
   congr 1
   by_cases hlt : i + k < s.length
   ·rw [gD hlt, Option.some.injEq, ← UInt8.toNat_inj]
    apply propext; constructor <;> intro h <;> omega
   ·rw [List.getElem?_eq_none (by omega)]
    apply propext; constructor <;> intro h
    ·omega
    ·cases h
  have hcase : (s[i + k]? = some 44 ∧ R7 (s.drop (i + k + 1)) = none) ∨ (∃ c e, ((∃ kb, s[i + k]? = some 44 ∧ R7 (s.drop (i + k + 1)) = some (c, kb) ∧ e = k + 1 + kb) ∨ (s[i + k]? ≠ some 44 ∧ c = 1 ∧ e = k)) ∧ i + e ≤ s.length ∧ c ≤ 2147483647 ∧ Q3 (s.drop i) = s7 (s.drop i) a c e) := by
   by_cases hcm : s[i + k]? = some 44
   ·have hlt := (List.getElem?_eq_some_iff.1 hcm).1
    cases h2 : R7 (s.drop (i + k + 1)) with
    | none => exact .inl ⟨hcm, rfl⟩
    | some q =>
     obtain ⟨c, kb⟩ := q
     obtain ⟨_, _, hk2, hk3, hc2⟩ := m6 h2
     rw [List.length_drop] at hk3
     refine .inr ⟨c, k + 1 + kb, .inl ⟨kb, hcm, rfl, rfl⟩, by omega, hc2, ?_⟩
     unfold Q3
     rw [h1]; dsimp only
     rw [hget, if_pos hcm, hdd, h2]
   ·refine .inr ⟨1, k, .inr ⟨hcm, rfl, rfl⟩, by omega, by omega, ?_⟩
    unfold Q3
    rw [h1]; dsimp only
    rw [hget, if_neg hcm]
  rcases hcase with ⟨hcm, h2⟩ | ⟨c, e, hce, hel, hcb, hfin⟩
  ·have hlt := (List.getElem?_eq_some_iff.1 hcm).1
   have hc2 := sNumber_ok s (i + k + 1) (by omega) hs
   rw [numR_none h2, show ((i + k + 1 : Nat) : Int) = ((i + k : Nat) : Int) + 1 by omega] at hc2
   refine FnOk.intro Tryz.func189 (by decide) Z Z Z Z ?_
   refine k2 ?_
   refine A5 (A2 (A4 Z Z) Z (A2 (A4 Z Z) Z (A2 (A4 Z Z) Z (A2 (A4 Z Z) Z (A6 ?_)))))
   refine k1 (k2 ?_)
   refine A5 (A2 (A3 Z Z) Z (A2 (A3 Z Z) Z (C0 (hc) Z Z Z ?_))); rintro _ rfl; refine A2 (A3 Z Z) Z (A2 (B1 Z Z) Z (A2 (B1 Z Z) Z (A2 (B1 Z Z) Z (A2 (A4 Z Z) Z (A2 (A4 Z Z) Z (A2 (A4 Z Z) Z (A6 ?_)))))))
   refine k1 (k2 (k2 ?_))
   refine A5 (A2 (A3 Z Z) Z (A2 (E5 Z) Z (A6 ?_)))
   refine k1 ?_
   refine B3 rfl (fun ht => ?_) (fun ht => ?_)
   ·cases ht
   refine k5 (k1 (k2 ?_))
   refine A5 (A2 (A4 Z Z) Z (A6 ?_))
   refine k1 (k2 (k2 ?_))
   refine A5 (A2 (A3 Z Z) Z (A2 (A3 Z Z) Z (A2 (D8 Z) Z (A2 (F0 Z Z) Z (A2 (A3 Z Z) Z (A8 Z Z Z Z (fun hg => by rw [hg]; exact A3 Z Z) ?_)))))); refine A8 Z Z Z Z (fun hg => by rw [hg]; exact A3 Z Z) ?_; refine A8 Z Z Z Z (fun hg => by have hq := hg; (try simp at hq); rw [hg]; exact E7 Z Z (by omega) (gD (by omega))) ?_; refine A8 Z Z Z Z (fun hg => by rw [hg]; exact G6 Z Z) ?_; refine A2 (B2 Z (fun h => by first | rfl | (rw [h]; rfl)) (fun h => by first | rfl | (rw [h]; rfl))) Z ?_; refine A6 ?_
   simp only [H2, Int.toNat_natCast]
   rw [hcm2]
   refine k1 ?_
   refine B3 rfl (fun ht => ?_) (fun ht => ?_)
   ·refine k2 ?_
    refine A5 (A2 (A3 Z Z) Z (A2 (A3 Z Z) Z (A2 (C3 Z Z (by omega)) Z (C0 (hc2) Z Z Z ?_)))); rintro _ rfl; refine A2 (A3 Z Z) Z (A2 (B1 Z Z) Z (A2 (B1 Z Z) Z (A2 (B1 Z Z) Z (A2 (A4 Z Z) Z (A2 (A4 Z Z) Z (A2 (A4 Z Z) Z (A6 ?_)))))))
    refine k1 (k2 ?_)
    refine A5 (A2 (A3 Z Z) Z (A2 (E5 Z) Z (A6 ?_)))
    refine k1 ?_
    refine B3 rfl (fun ht => ?_) (fun ht => ?_)
    ·refine k2 ?_
     refine A5 (A2 (A4 Z Z) Z (A2 (A4 Z Z) Z (A2 (A4 Z Z) Z (A2 (A4 Z Z) Z (A6 ?_)))))
     refine k1 (k10 (k11 ?_))
     refine B5 (rs := [D2 0, D2 0, D2 0, D5 false]) (ret4 Z Z Z Z Z Z Z Z Z) ?_
     unfold rngR Q3
     rw [h1]; dsimp only
     rw [hget, if_pos hcm, hdd, h2]
    ·cases ht
   ·exact absurd hcm (A1 ht)
  ·obtain ⟨st, hst⟩ : ∃ st : Int, st = if 0 < c then (a : Int) - 1 else a := ⟨_, rfl⟩
   have hstb : -1 ≤ st ∧ st ≤ 2147483647 := by rw [hst]; split <;> omega
   have hrc := srange_ok st c (by omega) (by omega)
   refine FnOk.intro Tryz.func189 (by decide) Z Z Z Z ?_
   refine k2 ?_
   refine A5 (A2 (A4 Z Z) Z (A2 (A4 Z Z) Z (A2 (A4 Z Z) Z (A2 (A4 Z Z) Z (A6 ?_)))))
   refine k1 (k2 ?_)
   refine A5 (A2 (A3 Z Z) Z (A2 (A3 Z Z) Z (C0 (hc) Z Z Z ?_))); rintro _ rfl; refine A2 (A3 Z Z) Z (A2 (B1 Z Z) Z (A2 (B1 Z Z) Z (A2 (B1 Z Z) Z (A2 (A4 Z Z) Z (A2 (A4 Z Z) Z (A2 (A4 Z Z) Z (A6 ?_)))))))
   refine k1 (k2 (k2 ?_))
   refine A5 (A2 (A3 Z Z) Z (A2 (E5 Z) Z (A6 ?_)))
   refine k1 ?_
   refine B3 rfl (fun ht => ?_) (fun ht => ?_)
   ·cases ht
   refine k5 (k1 (k2 ?_))
   refine A5 (A2 (A4 Z Z) Z (A6 ?_))
   refine J6 ?_
   refine V9 [(0, N3 s), (1, C6 i), (8, C6 a), (9, C6 ((i + e : Nat) : Int)), (11, C6 c)] [] ?_ ?_
   ·refine k2 ?_
    refine A5 (A2 (A3 Z Z) Z (A2 (A3 Z Z) Z (A2 (D8 Z) Z (A2 (F0 Z Z) Z (A2 (A3 Z Z) Z (A8 Z Z Z Z (fun hg => by rw [hg]; exact A3 Z Z) ?_)))))); refine A8 Z Z Z Z (fun hg => by rw [hg]; exact A3 Z Z) ?_; refine A8 Z Z Z Z (fun hg => by have hq := hg; (try simp at hq); rw [hg]; exact E7 Z Z (by omega) (gD (by omega))) ?_; refine A8 Z Z Z Z (fun hg => by rw [hg]; exact G6 Z Z) ?_; refine A2 (B2 Z (fun h => by first | rfl | (rw [h]; rfl)) (fun h => by first | rfl | (rw [h]; rfl))) Z ?_; refine A6 ?_
    simp only [H2, Int.toNat_natCast]
    rw [hcm2]
    refine k1 ?_
    refine B3 rfl (fun ht => ?_) (fun ht => ?_)
    ·have hcm := A0 ht
     have hlt := (List.getElem?_eq_some_iff.1 hcm).1
     rcases hce with ⟨kb, _, h2, he⟩ | ⟨hn, _⟩
     ·have hc2 := sNumber_ok s (i + k + 1) (by omega) hs
      rw [numR_some h2, show ((i + k + 1 : Nat) : Int) = ((i + k : Nat) : Int) + 1 by omega, show i + k + 1 + kb = i + e by omega] at hc2
      refine k2 ?_
      refine A5 (A2 (A3 Z Z) Z (A2 (A3 Z Z) Z (A2 (C3 Z Z (by omega)) Z (C0 (hc2) Z Z Z ?_)))); rintro _ rfl; refine A2 (A3 Z Z) Z (A2 (B1 Z Z) Z (A2 (B1 Z Z) Z (A2 (B1 Z Z) Z (A2 (A4 Z Z) Z (A2 (A4 Z Z) Z (A2 (A4 Z Z) Z (A6 ?_)))))))
      refine k1 (k2 ?_)
      refine A5 (A2 (A3 Z Z) Z (A2 (E5 Z) Z (A6 ?_)))
      refine k1 ?_
      refine B3 rfl (fun ht => ?_) (fun ht => ?_)
      ·cases ht
      refine k5 (k1 ?_)
      exact Sees.of ⟨le1 rfl, le1 rfl, le1 rfl, le1 rfl, le1 rfl, trivial⟩ trivial
     ·exact absurd hcm hn
    ·have hcm := A1 ht
     rcases hce with ⟨kb, h3, _⟩ | ⟨_, h2, h3⟩
     ·exact absurd h3 hcm
     ·subst h2; subst h3
      refine k5 (k1 ?_)
      exact Sees.of ⟨le1 rfl, le1 rfl, le1 rfl, le1 rfl, le1 rfl, trivial⟩ trivial
   refine V9 [(0, N3 s), (1, C6 i), (8, C6 st), (9, C6 ((i + e : Nat) : Int)), (11, C6 c)] [] ?_ ?_
   ·refine k2 ?_
    refine A5 (A2 (A3 Z Z) Z (A2 (L9 Z Z) Z (A6 ?_)))
    refine k1 ?_
    refine B3 rfl (fun ht => ?_) (fun ht => ?_)
    ·have h3 : (0 : Int) < (c : Int) := A0 ht
     rw [if_pos (by omega)] at hst
     skip
     refine A5 (A2 (A3 Z Z) Z (A2 (L8 Z Z (by omega)) Z (A2 (A4 Z Z) Z (A6 ?_))))
     rw [← hst]
     refine k1 ?_
     exact Sees.of ⟨le1 rfl, le1 rfl, le1 rfl, le1 rfl, le1 rfl, trivial⟩ trivial
    ·have h3 : ¬ (0 : Int) < (c : Int) := A1 ht
     rw [if_neg (by omega)] at hst
     rw [hst]
     refine k5 (k1 ?_)
     exact Sees.of ⟨le1 rfl, le1 rfl, le1 rfl, le1 rfl, le1 rfl, trivial⟩ trivial
   unfold s7 at hfin
   rw [← hst] at hfin
   refine k2 (k2 ?_)
   refine C2 (by kernel_rfl) (by kernel_rfl) (A9 (A3 Z Z) Z Z (A9 (A3 Z Z) Z Z (A9 (F9 (hrc) Z Z) Z Z (A9 (A3 Z Z) Z Z (A9 (A3 Z Z) Z Z (A9 (A3 Z Z) Z Z (A9 (Q0 Z Z Z (by omega) (by omega) (by omega)) Z Z (A9 (V2 Z Z) Z Z (H3 ?_)))))))))
   rw [show ((i : Int)).toNat = i by omega, show (((i + e : Nat) : Int)).toNat - i = e by omega]
   refine k1 ?_
   refine B3 rfl (fun ht => ?_) (fun ht => ?_)
   ·have h3 : ¬ G5 st c = (s.drop i).take e := A0 ht
    refine k2 ?_
    refine A5 (A2 (A4 Z Z) Z (A2 (A4 Z Z) Z (A2 (A4 Z Z) Z (A2 (A4 Z Z) Z (A6 ?_)))))
    refine k1 (k10 (k11 ?_))
    refine B5 (rs := [D2 0, D2 0, D2 0, D5 false]) (ret4 Z Z Z Z Z Z Z Z Z) ?_
    rw [if_neg h3] at hfin
    unfold rngR; rw [hfin]
   ·have h3 : G5 st c = (s.drop i).take e := Decidable.not_not.1 (A1 ht)
    refine k5 (k1 (k2 ?_))
    refine A5 (A2 (A3 Z Z) Z (A2 (A3 Z Z) Z (A2 (A3 Z Z) Z (A2 (A4 Z Z) Z (A2 (A4 Z Z) Z (A2 (A4 Z Z) Z (A2 (A4 Z Z) Z (A6 ?_))))))))
    refine k1 (k10 ?_)
    refine B5 (rs := [D2 st, D2 c, D2 ((i + e : Nat) : Int), D5 true]) (ret4 Z Z Z Z Z Z Z Z Z) ?_
    rw [if_pos h3] at hfin
    unfold rngR; rw [hfin]
theorem rRange_ok (s : Str) (i : Nat) (hi : i ≤ s.length) (hs : s.length ≤ 1073741824) : FnOk Tryz.prog 137 [F6 s, D2 i] (fun rs => rs = rngR s i) := by
 have hc := rNumber_ok s i hi hs
 cases h1 : R7 (s.drop i) with
 | none =>
  rw [numR_none h1] at hc
  refine FnOk.intro Tryz.func137 (by decide) Z Z Z Z ?_
  refine k2 ?_
  refine A5 (A2 (A4 Z Z) Z (A2 (A4 Z Z) Z (A2 (A4 Z Z) Z (A2 (A4 Z Z) Z (A6 ?_)))))
  refine k1 (k2 ?_)
  refine A5 (A2 (A3 Z Z) Z (A2 (A3 Z Z) Z (C0 (hc) Z Z Z ?_))); rintro _ rfl; refine A2 (A3 Z Z) Z (A2 (B1 Z Z) Z (A2 (B1 Z Z) Z (A2 (B1 Z Z) Z (A2 (A4 Z Z) Z (A2 (A4 Z Z) Z (A2 (A4 Z Z) Z (A6 ?_)))))))
  refine k1 (k2 (k2 ?_))
  refine A5 (A2 (A3 Z Z) Z (A2 (E5 Z) Z (A6 ?_)))
  refine k1 ?_
  refine B3 rfl (fun ht => ?_) (fun ht => ?_)
  ·refine k2 ?_
   refine A5 (A2 (A4 Z Z) Z (A2 (A4 Z Z) Z (A2 (A4 Z Z) Z (A2 (A4 Z Z) Z (A6 ?_)))))
   refine k1 (k10 (k11 ?_))
   exact B5 (ret4 rfl rfl rfl rfl rfl rfl rfl rfl rfl) (by unfold rngR Q3; rw [h1])
  ·cases ht
 | some p =>
  obtain ⟨a, k⟩ := p
  rw [numR_some h1] at hc
  obtain ⟨_, _, hk0, hk1, ha⟩ := m6 h1
  rw [List.length_drop] at hk1
  have hget : (s.drop i)[k]? = s[i + k]? := by rw [List.getElem?_drop]
  have hdd : (s.drop i).drop (k + 1) = s.drop (i + k + 1) := by rw [List.drop_drop]; rfl
  have hcm2 : decide (((i + k : Nat) : Int) < (s.length : Int) ∧ ((s.getD (i + k) 0).toNat : Int) = 44) = decide (s[i + k]? = some 44) := by
   have : (44 : UInt8).toNat = 44 := rfl
   congr 1
   by_cases hlt : i + k < s.length
   ·rw [gD hlt, Option.some.injEq, ← UInt8.toNat_inj]
    apply propext; constructor <;> intro h <;> omega
   ·rw [List.getElem?_eq_none (by omega)]
    apply propext; constructor <;> intro h
    ·omega
    ·cases h
  have hcase : (s[i + k]? = some 44 ∧ R7 (s.drop (i + k + 1)) = none) ∨ (∃ c e, ((∃ kb, s[i + k]? = some 44 ∧ R7 (s.drop (i + k + 1)) = some (c, kb) ∧ e = k + 1 + kb) ∨ (s[i + k]? ≠ some 44 ∧ c = 1 ∧ e = k)) ∧ i + e ≤ s.length ∧ c ≤ 2147483647 ∧ Q3 (s.drop i) = s7 (s.drop i) a c e) := by
   by_cases hcm : s[i + k]? = some 44
   ·have hlt := (List.getElem?_eq_some_iff.1 hcm).1
    cases h2 : R7 (s.drop (i + k + 1)) with
    | none => exact .inl ⟨hcm, rfl⟩
    | some q =>
     obtain ⟨c, kb⟩ := q
     obtain ⟨_, _, hk2, hk3, hc2⟩ := m6 h2
     rw [List.length_drop] at hk3
     refine .inr ⟨c, k + 1 + kb, .inl ⟨kb, hcm, rfl, rfl⟩, by omega, hc2, ?_⟩
     unfold Q3
     rw [h1]; dsimp only
     rw [hget, if_pos hcm, hdd, h2]
   ·refine .inr ⟨1, k, .inr ⟨hcm, rfl, rfl⟩, by omega, by omega, ?_⟩
    unfold Q3
    rw [h1]; dsimp only
    rw [hget, if_neg hcm]
  rcases hcase with ⟨hcm, h2⟩ | ⟨c, e, hce, hel, hcb, hfin⟩
  ·have hlt := (List.getElem?_eq_some_iff.1 hcm).1
   have hc2 := rNumber_ok s (i + k + 1) (by omega) hs
   rw [numR_none h2, show ((i + k + 1 : Nat) : Int) = ((i + k : Nat) : Int) + 1 by omega] at hc2
   refine FnOk.intro Tryz.func137 (by decide) Z Z Z Z ?_
   refine k2 ?_
   refine A5 (A2 (A4 Z Z) Z (A2 (A4 Z Z) Z (A2 (A4 Z Z) Z (A2 (A4 Z Z) Z (A6 ?_)))))
   refine k1 (k2 ?_)
   refine A5 (A2 (A3 Z Z) Z (A2 (A3 Z Z) Z (C0 (hc) Z Z Z ?_))); rintro _ rfl; refine A2 (A3 Z Z) Z (A2 (B1 Z Z) Z (A2 (B1 Z Z) Z (A2 (B1 Z Z) Z (A2 (A4 Z Z) Z (A2 (A4 Z Z) Z (A2 (A4 Z Z) Z (A6 ?_)))))))
   refine k1 (k2 (k2 ?_))
   refine A5 (A2 (A3 Z Z) Z (A2 (E5 Z) Z (A6 ?_)))
   refine k1 ?_
   refine B3 rfl (fun ht => ?_) (fun ht => ?_)
   ·cases ht
   refine k5 (k1 (k2 ?_))
   refine A5 (A2 (A4 Z Z) Z (A6 ?_))
   refine k1 (k2 (k2 ?_))
   refine A5 (A2 (A3 Z Z) Z (A2 (A3 Z Z) Z (A2 (D8 Z) Z (A2 (F0 Z Z) Z (A2 (A3 Z Z) Z (A8 Z Z Z Z (fun hg => by rw [hg]; exact A3 Z Z) ?_)))))); refine A8 Z Z Z Z (fun hg => by rw [hg]; exact A3 Z Z) ?_; refine A8 Z Z Z Z (fun hg => by have hq := hg; (try simp at hq); rw [hg]; exact E7 Z Z (by omega) (gD (by omega))) ?_; refine A8 Z Z Z Z (fun hg => by rw [hg]; exact G6 Z Z) ?_; refine A2 (B2 Z (fun h => by first | rfl | (rw [h]; rfl)) (fun h => by first | rfl | (rw [h]; rfl))) Z ?_; refine A6 ?_
   simp only [H2, Int.toNat_natCast]
   rw [hcm2]
   refine k1 ?_
   refine B3 rfl (fun ht => ?_) (fun ht => ?_)
   ·refine k2 ?_
    refine A5 (A2 (A3 Z Z) Z (A2 (A3 Z Z) Z (A2 (C3 Z Z (by omega)) Z (C0 (hc2) Z Z Z ?_)))); rintro _ rfl; refine A2 (A3 Z Z) Z (A2 (B1 Z Z) Z (A2 (B1 Z Z) Z (A2 (B1 Z Z) Z (A2 (A4 Z Z) Z (A2 (A4 Z Z) Z (A2 (A4 Z Z) Z (A6 ?_)))))))
    refine k1 (k2 ?_)
    refine A5 (A2 (A3 Z Z) Z (A2 (E5 Z) Z (A6 ?_)))
    refine k1 ?_
    refine B3 rfl (fun ht => ?_) (fun ht => ?_)
    ·refine k2 ?_
     refine A5 (A2 (A4 Z Z) Z (A2 (A4 Z Z) Z (A2 (A4 Z Z) Z (A2 (A4 Z Z) Z (A6 ?_)))))
     refine k1 (k10 (k11 ?_))
     refine B5 (rs := [D2 0, D2 0, D2 0, D5 false]) (ret4 Z Z Z Z Z Z Z Z Z) ?_
     unfold rngR Q3
     rw [h1]; dsimp only
     rw [hget, if_pos hcm, hdd, h2]
    ·cases ht
   ·exact absurd hcm (A1 ht)
  ·obtain ⟨st, hst⟩ : ∃ st : Int, st = if 0 < c then (a : Int) - 1 else a := ⟨_, rfl⟩
   have hstb : -1 ≤ st ∧ st ≤ 2147483647 := by rw [hst]; split <;> omega
   have hrc := rrange_ok st c (by omega) (by omega)
   refine FnOk.intro Tryz.func137 (by decide) Z Z Z Z ?_
   refine k2 ?_
   refine A5 (A2 (A4 Z Z) Z (A2 (A4 Z Z) Z (A2 (A4 Z Z) Z (A2 (A4 Z Z) Z (A6 ?_)))))
   refine k1 (k2 ?_)
   refine A5 (A2 (A3 Z Z) Z (A2 (A3 Z Z) Z (C0 (hc) Z Z Z ?_))); rintro _ rfl; refine A2 (A3 Z Z) Z (A2 (B1 Z Z) Z (A2 (B1 Z Z) Z (A2 (B1 Z Z) Z (A2 (A4 Z Z) Z (A2 (A4 Z Z) Z (A2 (A4 Z Z) Z (A6 ?_)))))))
   refine k1 (k2 (k2 ?_))
   refine A5 (A2 (A3 Z Z) Z (A2 (E5 Z) Z (A6 ?_)))
   refine k1 ?_
   refine B3 rfl (fun ht => ?_) (fun ht => ?_)
   ·cases ht
   refine k5 (k1 (k2 ?_))
   refine A5 (A2 (A4 Z Z) Z (A6 ?_))
   refine J6 ?_
   refine V9 [(0, N3 s), (1, C6 i), (8, C6 a), (9, C6 ((i + e : Nat) : Int)), (11, C6 c)] [] ?_ ?_
   ·refine k2 ?_
    refine A5 (A2 (A3 Z Z) Z (A2 (A3 Z Z) Z (A2 (D8 Z) Z (A2 (F0 Z Z) Z (A2 (A3 Z Z) Z (A8 Z Z Z Z (fun hg => by rw [hg]; exact A3 Z Z) ?_)))))); refine A8 Z Z Z Z (fun hg => by rw [hg]; exact A3 Z Z) ?_; refine A8 Z Z Z Z (fun hg => by have hq := hg; (try simp at hq); rw [hg]; exact E7 Z Z (by omega) (gD (by omega))) ?_; refine A8 Z Z Z Z (fun hg => by rw [hg]; exact G6 Z Z) ?_; refine A2 (B2 Z (fun h => by first | rfl | (rw [h]; rfl)) (fun h => by first | rfl | (rw [h]; rfl))) Z ?_; refine A6 ?_
    simp only [H2, Int.toNat_natCast]
    rw [hcm2]
    refine k1 ?_
    refine B3 rfl (fun ht => ?_) (fun ht => ?_)
    ·have hcm := A0 ht
     have hlt := (List.getElem?_eq_some_iff.1 hcm).1
     rcases hce with ⟨kb, _, h2, he⟩ | ⟨hn, _⟩
     ·have hc2 := rNumber_ok s (i + k + 1) (by omega) hs
      rw [numR_some h2, show ((i + k + 1 : Nat) : Int) = ((i + k : Nat) : Int) + 1 by omega, show i + k + 1 + kb = i + e by omega] at hc2
      refine k2 ?_
      refine A5 (A2 (A3 Z Z) Z (A2 (A3 Z Z) Z (A2 (C3 Z Z (by omega)) Z (C0 (hc2) Z Z Z ?_)))); rintro _ rfl; refine A2 (A3 Z Z) Z (A2 (B1 Z Z) Z (A2 (B1 Z Z) Z (A2 (B1 Z Z) Z (A2 (A4 Z Z) Z (A2 (A4 Z Z) Z (A2 (A4 Z Z) Z (A6 ?_)))))))
      refine k1 (k2 ?_)
      refine A5 (A2 (A3 Z Z) Z (A2 (E5 Z) Z (A6 ?_)))
      refine k1 ?_
      refine B3 rfl (fun ht => ?_) (fun ht => ?_)
      ·cases ht
      refine k5 (k1 ?_)
      exact Sees.of ⟨le1 rfl, le1 rfl, le1 rfl, le1 rfl, le1 rfl, trivial⟩ trivial
     ·exact absurd hcm hn
    ·have hcm := A1 ht
     rcases hce with ⟨kb, h3, _⟩ | ⟨_, h2, h3⟩
     ·exact absurd h3 hcm
     ·subst h2; subst h3
      refine k5 (k1 ?_)
      exact Sees.of ⟨le1 rfl, le1 rfl, le1 rfl, le1 rfl, le1 rfl, trivial⟩ trivial
   refine V9 [(0, N3 s), (1, C6 i), (8, C6 st), (9, C6 ((i + e : Nat) : Int)), (11, C6 c)] [] ?_ ?_
   ·refine k2 ?_
    refine A5 (A2 (A3 Z Z) Z (A2 (L9 Z Z) Z (A6 ?_)))
    refine k1 ?_
    refine B3 rfl (fun ht => ?_) (fun ht => ?_)
    ·have h3 : (0 : Int) < (c : Int) := A0 ht
     rw [if_pos (by omega)] at hst
     skip
     refine A5 (A2 (A3 Z Z) Z (A2 (L8 Z Z (by omega)) Z (A2 (A4 Z Z) Z (A6 ?_))))
     rw [← hst]
     refine k1 ?_
     exact Sees.of ⟨le1 rfl, le1 rfl, le1 rfl, le1 rfl, le1 rfl, trivial⟩ trivial
    ·have h3 : ¬ (0 : Int) < (c : Int) := A1 ht
     rw [if_neg (by omega)] at hst
     rw [hst]
     refine k5 (k1 ?_)
     exact Sees.of ⟨le1 rfl, le1 rfl, le1 rfl, le1 rfl, le1 rfl, trivial⟩ trivial
   unfold s7 at hfin
   rw [← hst] at hfin
   refine k2 (k2 ?_)
   refine C2 (by kernel_rfl) (by kernel_rfl) (A9 (A3 Z Z) Z Z (A9 (A3 Z Z) Z Z (A9 (F9 (hrc) Z Z) Z Z (A9 (A3 Z Z) Z Z (A9 (A3 Z Z) Z Z (A9 (A3 Z Z) Z Z (A9 (Q0 Z Z Z (by omega) (by omega) (by omega)) Z Z (A9 (V2 Z Z) Z Z (H3 ?_)))))))))
   rw [show ((i : Int)).toNat = i by omega, show (((i + e : Nat) : Int)).toNat - i = e by omega]
   refine k1 ?_
   refine B3 rfl (fun ht => ?_) (fun ht => ?_)
   ·have h3 : ¬ G5 st c = (s.drop i).take e := A0 ht
    refine k2 ?_
    refine A5 (A2 (A4 Z Z) Z (A2 (A4 Z Z) Z (A2 (A4 Z Z) Z (A2 (A4 Z Z) Z (A6 ?_)))))
    refine k1 (k10 (k11 ?_))
    refine B5 (rs := [D2 0, D2 0, D2 0, D5 false]) (ret4 Z Z Z Z Z Z Z Z Z) ?_
    rw [if_neg h3] at hfin
    unfold rngR; rw [hfin]
   ·have h3 : G5 st c = (s.drop i).take e := Decidable.not_not.1 (A1 ht)
    refine k5 (k1 (k2 ?_))
    refine A5 (A2 (A3 Z Z) Z (A2 (A3 Z Z) Z (A2 (A3 Z Z) Z (A2 (A4 Z Z) Z (A2 (A4 Z Z) Z (A2 (A4 Z Z) Z (A2 (A4 Z Z) Z (A6 ?_))))))))
    refine k1 (k10 ?_)
    refine B5 (rs := [D2 st, D2 c, D2 ((i + e : Nat) : Int), D5 true]) (ret4 Z Z Z Z Z Z Z Z Z) ?_
    rw [if_pos h3] at hfin
    unfold rngR; rw [hfin]
end Go.Proofs.YtjjidificdmnmaaGreatDoor
