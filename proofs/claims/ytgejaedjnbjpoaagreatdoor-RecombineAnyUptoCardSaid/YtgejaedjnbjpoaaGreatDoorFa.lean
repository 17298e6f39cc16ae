/- Walks of the program's functions. -/
import Derived.Test.YtgejaedjnbjpoaaGreatDoorTy
import Derived.Test.YtgejaedjnbjpoaaGreatDoorFs
import Derived.Test.YtgejaedjnbjpoaaGreatDoorSh
namespace Go.Proofs.YtgejaedjnbjpoaaGreatDoor
open Go Go.AL
set_option maxRecDepth 100000
theorem u64_nonneg (p : Int) : 0 ≤ IntKind.u64.wrap p := by simp [IntKind.wrap, IntKind.signed, IntKind.bits]; omega
theorem ended_ok (s : Str) (hs : s.length ≤ 1099511627776) : FnOk Tryz.prog 127 [E6 s] (fun rs => rs = [C4 (ended s)]) := by
 refine FnOk.intro Tryz.func127 (by decide) Z Z Z Z ?_
 refine k2 ?_
 refine A3 (A2 (A5 Z Z) Z (A6 ?_))
 refine k1 (k2 ?_)
 have hl : s ≠ [] → s[((s.length : Int) - 1).toNat]? = some (s.getLastD 0) := by
  intro h
  have h1 : 0 < s.length := List.length_pos_iff.2 h
  have h2 : ((s.length : Int) - 1).toNat = s.length - 1 := by omega
  rw [h2, ← List.getLast?_eq_getElem?, List.getLast?_eq_some_getLast h, List.getLastD_eq_getLast?, List.getLast?_eq_some_getLast h]
  rfl
 refine A3 (A2 (A4 Z Z) Z (A2 (V6 Z Z) Z (A2 (A4 Z Z) Z (A8 Z Z Z Z (fun hg => by rw [hg]; exact A4 Z Z) ?_)))); refine A8 Z Z Z Z (fun hg => by rw [hg]; exact A4 Z Z) ?_; refine A8 Z Z Z Z (fun hg => by rw [hg]; exact C6 Z) ?_; refine A8 Z Z Z Z (fun hg => by have hq := hg; (try simp at hq); rw [hg]; exact W5 Z Z (by omega)) ?_; refine A8 Z Z Z Z (fun hg => by have hq := hg; (try simp at hq); have h1 := List.length_pos_iff.2 hq; rw [hg]; exact D6 Z Z (by omega) (hl hq)) ?_; refine A8 Z Z Z Z (fun hg => by rw [hg]; exact E8 Z Z) ?_; refine A2 (B3 Z (fun h => by first | rfl | (rw [h]; rfl)) (fun h => by first | rfl | (rw [h]; rfl))) Z ?_; refine A2 (A5 Z Z) Z (A6 ?_)
 refine k1 (k10 ?_)
 refine B5 (F3 Z Z Z) ?_
 rw [ended_eq]
theorem list_ok (l : List Str) (hl : ∀ s ∈ l, s.length ≤ 1099511627776) : FnOk Tryz.prog 63 [i7 l] (fun rs => rs = [C4 (U8 l)]) := by
 refine FnOk.intro Tryz.func63 (by decide) Z Z Z Z ?_
 refine c_bound (t := 0) rfl (.pure _ _ _ _) fun hlen => ?_
 refine k2 ?_
 refine A3 (A2 (A5 Z Z) Z (A6 ?_))
 refine k1 (k2 (k2 ?_))
 refine A3 (A2 (A5 Z Z) Z (A6 ?_))
 refine k1 (k3 ?_)
 refine E0 (X := Nat) (fun i => ([(0, F4 Str 1 K9 l), (3, C3 i)], [])) (fun i => i ≤ l.length ∧ U8 l = U8 (l.drop i)) (fun i => l.length - i) 0 (by simp) (Sees.of ⟨le1 rfl, le1 rfl, trivial⟩ trivial) ?_
 rintro i ⟨hi, hp⟩
 dsimp only at hi hp ⊢
 refine k2 (k2 ?_)
 refine A3 (A2 (A4 Z Z) Z (A2 (A4 Z Z) Z (A2 (I2 Z (.pure _ _ _ _)) Z (A2 (D5 Z Z) Z (A6 ?_)))))
 refine k1 ?_
 refine B2 rfl (fun ht => ?_) (fun ht => ?_)
 ·have hlt : i < l.length := by simpa using ht
  have hv : l[i]? = some l[i] := by simp [hlt]
  have hs := hl l[i] (List.getElem_mem hlt)
  rw [List.drop_eq_getElem_cons hlt] at hp
  refine k5 (k1 (k2 (k3 (k2 (k2 ?_)))))
  refine A3 (A2 (A5 Z Z) Z (A6 ?_))
  refine k1 (k3 ?_)
  refine E0 (X := Nat) (fun k => ([(0, F4 Str 1 K9 l), (3, C3 i), (4, C3 k)], [])) (fun k => k ≤ l[i].length ∧ G9 l[i] = ((l[i].dropLast.drop k).all (· ≠ 10) && l[i] != [])) (fun k => l[i].length - k) 0 (by simp [G9]) (Sees.of ⟨le1 rfl, le1 rfl, le1 rfl, trivial⟩ trivial) ?_
  intro k hk
  dsimp only at hk ⊢
  refine k2 (k2 ?_)
  refine A3 (A2 (A4 Z Z) Z (A2 (B9 Z Z (by omega)) Z (A2 (A4 Z Z) Z (A2 (A4 Z Z) Z (A2 (B8 Z (.pure _ _ _ _) Z (by omega) hv) Z (A2 (C2 Z Z) Z (A2 (C6 Z) Z (A2 (D5 Z Z) Z (A6 ?_)))))))))
  refine k1 ?_
  refine B2 rfl (fun ht => ?_) (fun ht => ?_)
  ·have hk2 : k + 1 < l[i].length := by have := A0 ht; omega
   have hvk : l[i][k]? = some (l[i][k]'(by omega)) := List.getElem?_eq_getElem (by omega)
   have hd : l[i].dropLast.drop k = l[i][k]'(by omega) :: l[i].dropLast.drop (k + 1) := by
    rw [List.drop_eq_getElem_cons (by simp; omega)]; simp
   rw [hd, List.all_cons] at hk
   refine k5 (k1 (k2 (k3 (k2 ?_))))
   refine A3 (A2 (A4 Z Z) Z (A2 (A4 Z Z) Z (A2 (B8 Z (.pure _ _ _ _) Z (by omega) hv) Z (A2 (C2 Z Z) Z (A2 (A4 Z Z) Z (A2 (D6 Z Z (by omega) hvk) Z (A2 (E8 Z Z) Z (A6 ?_))))))))
   refine k1 ?_
   refine B2 rfl (fun ht => ?_) (fun ht => ?_)
   ·have h10 := (u8_lf _).1 (A0 ht)
    refine k2 ?_
    refine A3 (A2 (A5 Z Z) Z (A6 ?_))
    refine k1 (k10 (k12 (k11 (k11 (k12 (k11 (k12 (k11 (k11 (k12 (k11 ?_)))))))))))
    exact B5 (F3 rfl rfl rfl) (by rw [hp, U8, hk.2]; simp [h10])
   ·have h10 : l[i][k]'(by omega) ≠ 10 := fun h => A1 ht ((u8_lf _).2 h)
    refine k5 (k4 (k1 ?_))
    refine A3 (A2 (A4 Z Z) Z (A2 (B9 Z Z (by omega)) Z (A2 (A5 Z Z) Z (A6 ?_))))
    refine k1 ?_
    exact ⟨k + 1, ⟨by omega, by rw [hk.2]; simp [h10]⟩, by omega, Sees.of ⟨le1 rfl, le1 rfl, le1 rfl, trivial⟩ trivial⟩
  ·have hk2 : l[i].length ≤ k + 1 := by have := A1 ht; omega
   have hlo : G9 l[i] = (l[i] != []) := by rw [hk.2, List.drop_eq_nil_of_le (by simp; omega)]; rfl
   refine k6 (k2 ?_)
   refine A3 (A2 (A4 Z Z) Z (A2 (A4 Z Z) Z (A2 (B8 Z (.pure _ _ _ _) Z (by omega) hv) Z (A2 (C2 Z Z) Z (A2 (R3 Z Z) Z (A2 (A4 Z Z) Z (A8 Z Z Z Z (fun hg => by rw [hg]; exact A4 Z Z) ?_))))))); refine A8 Z Z Z Z (fun hg => by have hq := hg; (try simp at hq); rw [hg]; exact B9 Z Z (by omega)) ?_; refine A8 Z Z Z Z (fun hg => by rw [hg]; exact A4 Z Z) ?_; refine A8 Z Z Z Z (fun hg => by rw [hg]; exact I2 Z (.pure _ _ _ _)) ?_; refine A8 Z Z Z Z (fun hg => by rw [hg]; exact D5 Z Z) ?_; refine A8 Z Z Z Z (fun hg => by rw [hg]; exact A4 Z Z) ?_; refine I0 Z Z Z (.gd (.val _)) Z (fun hg => by obtain ⟨hg1, hg2⟩ := N2 hg; (try rw [hg1]); (try rw [hg2]); exact A4 Z Z) ?_; refine I0 Z Z Z (.gd (.val _)) Z (fun hg => by obtain ⟨hg1, hg2⟩ := N2 hg; (try rw [hg1]); (try rw [hg2]); exact A4 Z Z) ?_; refine I0 Z Z Z (.gd (.val _)) Z (fun hg => by have hq := hg; (try simp at hq); obtain ⟨hg1, hg2⟩ := N2 hg; (try rw [hg1]); (try rw [hg2]); exact B8 Z (.pure _ _ _ _) Z (by omega) hv) ?_; refine I0 Z Z Z (.gd (.val _)) Z (fun hg => by obtain ⟨hg1, hg2⟩ := N2 hg; (try rw [hg1]); (try rw [hg2]); exact C2 Z Z) ?_; refine I0 Z Z Z (.gd (.val _)) Z (fun hg => by have hq := hg; (try simp at hq); obtain ⟨hg1, hg2⟩ := N2 hg; (try rw [hg1]); (try rw [hg2]); exact G4 (ended_ok l[i] hs) Z Z) ?_; refine I0 Z Z Z (.gd (.val _)) Z (fun hg => by obtain ⟨hg1, hg2⟩ := N2 hg; (try rw [hg1]); (try rw [hg2]); exact D3 Z) ?_; refine A8 Z Z Z Z (fun hg => by rw [hg]; exact B3 Z (fun h => by first | rfl | (rw [h]; rfl)) (fun h => by first | rfl | (rw [h]; rfl))) ?_; refine A2 (B3 Z (fun h => by first | rfl | (rw [h]; rfl)) (fun h => by first | rfl | (rw [h]; rfl))) Z ?_; refine A6 ?_
   refine k1 ?_
   have he : (l.drop (i + 1)).isEmpty = decide (l.length ≤ i + 1) := by
    rw [Bool.eq_iff_iff]; simp
   rw [U8, hlo, he] at hp
   refine B2 rfl (fun ht => ?_) (fun ht => ?_)
   ·refine k2 ?_
    refine A3 (A2 (A5 Z Z) Z (A6 ?_))
    refine k1 (k10 (k12 (k11 (k11 (k12 (k11 ?_))))))
    refine B5 (F3 Z Z Z) ?_
    have : U8 l = false := by
     rw [hp]
     by_cases h : l[i] = []
     ·simp [h]
     ·rw [if_neg (by simpa using h)] at ht
      by_cases h2 : (i : Int) + 1 < l.length
      ·rw [if_pos (by simpa using h2)] at ht
       have h3 : ¬ (l.length ≤ i + 1) := by omega
       simp only [Bool.not_eq_true'] at ht
       simp [ht, h3]
      ·rw [if_neg (by simpa using h2)] at ht; cases ht
    rw [this]
   ·refine k5 (k4 (k1 ?_))
    refine A3 (A2 (A4 Z Z) Z (A2 (B9 Z Z (by omega)) Z (A2 (A5 Z Z) Z (A6 ?_))))
    refine k1 ?_
    refine ⟨i + 1, ⟨by omega, ?_⟩, by omega, Sees.of ⟨le1 rfl, le1 rfl, trivial⟩ trivial⟩
    rw [hp]
    by_cases h : l[i] = []
    ·rw [if_pos (by simpa using h)] at ht; cases ht
    ·rw [if_neg (by simpa using h)] at ht
     by_cases h2 : (i : Int) + 1 < l.length
     ·rw [if_pos (by simpa using h2)] at ht
      simp only [Bool.not_eq_false'] at ht
      simp [ht, h]
     ·have h3 : l.length ≤ i + 1 := by omega
      simp [h, h3]
 ·have : i = l.length := by have := A1 ht; omega
  subst this
  refine k6 (k2 ?_)
  refine A3 (A2 (A5 Z Z) Z (A6 ?_))
  refine k1 (k10 ?_)
  exact B5 (F3 rfl rfl rfl) (by rw [hp]; simp [U8])
theorem all_ok (l : List Str) (hl : l.flatten.length ≤ 536870912) : FnOk Tryz.prog 128 [i7 l] (fun rs => rs = [E6 l.flatten]) := by
 refine FnOk.intro Tryz.func128 (by decide) Z Z Z Z ?_
 refine c_bound (t := 0) rfl (.pure _ _ _ _) fun hlen => ?_
 refine k2 ?_
 refine A3 (A2 (A5 Z Z) Z (A6 ?_))
 refine k1 (k2 ?_)
 refine A3 (C0 (f_adopt 3 _ u8C Z) Z (A6 ?_))
 refine k1 (k2 (k2 ?_))
 refine A3 (A2 (A5 Z Z) Z (A6 ?_))
 refine k1 (k3 ?_)
 refine E0 (X := Nat) (fun i => ([(0, F4 Str 1 K9 l), (3, .s (.one (.buf 3 UInt8 1 u8C (l.take i).flatten))), (4, C3 i)], [(3, .spare (l.take i).flatten.length 1 5)])) (fun i => i ≤ l.length) (fun i => l.length - i) 0 (by simp) (Sees.of ⟨le1 rfl, le1 rfl, le1 rfl, trivial⟩ ⟨rfl, trivial⟩) ?_
 intro i hi
 dsimp only at hi ⊢
 refine k2 (k2 ?_)
 refine A3 (A2 (A4 Z Z) Z (A2 (A4 Z Z) Z (A2 (I2 Z (.pure _ _ _ _)) Z (A2 (D5 Z Z) Z (A6 ?_)))))
 refine k1 ?_
 refine B2 rfl (fun ht => ?_) (fun ht => ?_)
 ·have hlt : i < l.length := by simpa using ht
  have hv : l[i]? = some l[i] := by simp [hlt]
  have hf := flatten_take_succ l i hlt
  have hle := flatten_take_le l (i + 1)
  rw [hf, List.length_append] at hle
  refine k5 (k1 (k2 (k3 ?_)))
  refine A3 (A2 (A4 Z Z) Z (A2 (A4 Z Z) Z (A2 (A4 Z Z) Z (A2 (B8 Z (.pure _ _ _ _) Z (by omega) hv) Z (A2 (C2 Z Z) Z (C0 (w8 TyStr.out Z Z Z (by omega) Z) Z (A2 (A5 Z Z) Z (A6 ?_))))))))
  refine k4 (k1 ?_)
  refine A3 (A2 (A4 Z Z) Z (A2 (B9 Z Z (by omega)) Z (A2 (A5 Z Z) Z (A6 ?_))))
  refine k1 ?_
  refine ⟨i + 1, by omega, by omega, ?_⟩
  dsimp only
  rw [hf]
  exact Sees.of ⟨le1 rfl, le1 rfl, le1 rfl, trivial⟩ ⟨rfl, trivial⟩
 ·have : i = l.length := by simp at ht; omega
  subst this
  refine k6 (k2 ?_)
  refine A3 (A2 (A4 Z Z) Z (A2 (L7 TyStr.out Z (.buf _ _ _ _ _)) Z (A2 (A5 Z Z) Z (A6 ?_))))
  refine k1 (k10 ?_)
  exact B5 (F3 rfl rfl rfl) (by simp)
theorem line_ok (s : Str) (hs : s.length ≤ 1099511627776) : FnOk Tryz.prog 153 [E6 s] (fun rs => rs = [C4 (G9 s)]) := by
 refine FnOk.intro Tryz.func153 (by decide) Z Z Z Z ?_
 refine k2 ?_
 refine A3 (A2 (A5 Z Z) Z (A6 ?_))
 refine k1 (k2 (k2 ?_))
 refine A3 (A2 (A5 Z Z) Z (A6 ?_))
 refine k1 (k3 ?_)
 refine E0 (X := Nat) (fun k => ([(0, F9 s), (3, C3 k)], [])) (fun k => k ≤ s.length ∧ G9 s = ((s.dropLast.drop k).all (· ≠ 10) && s != [])) (fun k => s.length - k) 0 (by simp [G9]) (Sees.of ⟨le1 rfl, le1 rfl, trivial⟩ trivial) ?_
 intro k hk
 dsimp only at hk ⊢
 refine k2 (k2 ?_)
 refine A3 (A2 (A4 Z Z) Z (A2 (B9 Z Z (by omega)) Z (A2 (A4 Z Z) Z (A2 (C6 Z) Z (A2 (D5 Z Z) Z (A6 ?_))))))
 refine k1 ?_
 refine B2 rfl (fun ht => ?_) (fun ht => ?_)
 ·have hk2 : k + 1 < s.length := by have := A0 ht; omega
  have hvk : s[k]? = some (s[k]'(by omega)) := List.getElem?_eq_getElem (by omega)
  have hd : s.dropLast.drop k = s[k]'(by omega) :: s.dropLast.drop (k + 1) := by
   rw [List.drop_eq_getElem_cons (by simp; omega)]; simp
  rw [hd, List.all_cons] at hk
  refine k5 (k1 (k2 (k3 (k2 ?_))))
  refine A3 (A2 (A4 Z Z) Z (A2 (A4 Z Z) Z (A2 (D6 Z Z (by omega) hvk) Z (A2 (E8 Z Z) Z (A6 ?_)))))
  refine k1 ?_
  refine B2 rfl (fun ht => ?_) (fun ht => ?_)
  ·have h10 := (u8_lf _).1 (A0 ht)
   refine k2 ?_
   refine A3 (A2 (A5 Z Z) Z (A6 ?_))
   refine k1 (k10 (k12 (k11 (k11 (k12 (k11 ?_))))))
   exact B5 (F3 rfl rfl rfl) (by rw [hk.2]; simp [h10])
  ·have h10 : s[k]'(by omega) ≠ 10 := fun h => A1 ht ((u8_lf _).2 h)
   refine k5 (k4 (k1 ?_))
   refine A3 (A2 (A4 Z Z) Z (A2 (B9 Z Z (by omega)) Z (A2 (A5 Z Z) Z (A6 ?_))))
   refine k1 ?_
   exact ⟨k + 1, ⟨by omega, by rw [hk.2]; simp [h10]⟩, by omega, Sees.of ⟨le1 rfl, le1 rfl, trivial⟩ trivial⟩
 ·have hk2 : s.length ≤ k + 1 := by have := A1 ht; omega
  have hlo : G9 s = (s != []) := by rw [hk.2, List.drop_eq_nil_of_le (by simp; omega)]; rfl
  refine k6 (k2 ?_)
  refine A3 (A2 (A4 Z Z) Z (A2 (V6 Z Z) Z (A2 (A5 Z Z) Z (A6 ?_))))
  refine k1 (k10 ?_)
  exact B5 (F3 rfl rfl rfl) (by rw [hlo]; by_cases h : s = [] <;> simp [h])
end Go.Proofs.YtgejaedjnbjpoaaGreatDoor
namespace Go.Proofs.YtgejaedjnbjpoaaGreatDoor
open Go Go.AL
set_option maxRecDepth 100000
theorem u64_in {n : Int} (h : 0 ≤ n ∧ n < 18446744073709551616) : IntKind.u64.wrap n = n := by simp [IntKind.wrap, IntKind.signed, IntKind.bits]; omega
def modOf (a n : Int) : Int := IntKind.u64.wrap a % n
theorem modOf_in (a : Int) {n : Int} (h : 1 ≤ n) : 0 ≤ modOf a n ∧ modOf a n < n := ⟨Int.emod_nonneg _ (by omega), Int.emod_lt_of_pos _ (by omega)⟩
theorem mod_ok (a n : Int) (hn : 1 ≤ n) (hn' : n ≤ 9223372036854775807) : FnOk Tryz.prog 15 [E2 a, E2 n] (fun rs => rs = [E2 (modOf a n)]) := by
 refine FnOk.intro Tryz.func15 (by decide) Z Z Z Z ?_
 refine k2 ?_
 refine A3 (A2 (A5 Z Z) Z (A6 ?_))
 refine k1 (k2 ?_)
 have h1 : IntKind.u64.wrap n = n := u64_in (by omega)
 refine A3 (A2 (A4 Z Z) Z (A2 (K8 Z) Z (A2 (A4 Z Z) Z (A2 (K8 Z) Z (A2 (n_rem Z Z (by (rw [h1]; omega))) Z ?_))))); refine A2 (K8 Z) Z (A2 (A5 Z Z) Z (A6 ?_))
 refine k1 (k10 ?_)
 refine B5 (F3 Z Z Z) ?_
 have h2 := u64_nonneg a
 have h3 : (IntKind.u64.wrap a).tmod n = IntKind.u64.wrap a % n := Int.tmod_eq_emod_of_nonneg h2
 have h4 := modOf_in a hn
 unfold modOf at *
 rw [h1, h3, i64_wrap_in ⟨by omega, by omega⟩]
def at0 (k : Int) : Int := IntKind.u64.wrap (IntKind.u64.wrap (k + 1) * 11400714819323198485)
theorem visible16_ok (r : Row) (c : Int) (hr : 0 ≤ r.Marks ∧ r.Marks < 4294967296) : FnOk Tryz.prog 189 [pRow r, E2 c] (fun rs => rs = [C4 (P6 r c)]) := by
 refine FnOk.intro Tryz.func189 (by decide) Z Z Z Z ?_
 refine k2 ?_
 refine A3 (C0 (R0 2 Z Z Z) Z (A2 (A5 Z Z) Z (A6 ?_)))
 refine k1 (k2 (k3 (k2 ?_)))
 refine A3 (A2 (A4 Z Z) Z (A2 (E8 Z Z) Z (A2 (A5 Z Z) Z (A6 ?_))))
 refine k1 ?_
 refine B2 rfl (fun ht => ?_) (fun ht => ?_)
 ·have h := A0 ht
  refine k2 ?_
  refine A3 (A2 (A7 Z) Z (A2 (B0 Z Z Z) Z (A2 (D3 Z) Z (A2 (A5 Z Z) Z (A6 ?_)))))
  refine k1 (k10 (k12 (k11 ?_)))
  exact B5 (F3 rfl rfl rfl) (by rw [P6, if_pos h])
 ·have h := A1 ht
  refine k2 ?_
  refine A3 (A2 (A4 Z Z) Z (A2 (D5 Z Z) Z (A2 (A4 Z Z) Z (A8 Z Z Z Z (fun hg => by rw [hg]; exact A4 Z Z) ?_)))); refine A8 Z Z Z Z (fun hg => by rw [hg]; exact W6 Z Z) ?_; refine A2 (B3 Z (fun h => by first | rfl | (rw [h]; rfl)) (fun h => by first | rfl | (rw [h]; rfl))) Z ?_; refine A2 (A5 Z Z) Z (A6 ?_)
  refine k1 ?_
  refine B2 rfl (fun ht => ?_) (fun ht => ?_)
  ·have h2 := A0 (or_pick.symm.trans ht)
   refine k2 ?_
   refine A3 (A2 (A5 Z Z) Z (A6 ?_))
   refine k1 (k10 (k12 (k11 ?_)))
   exact B5 (F3 rfl rfl rfl) (by rw [P6, if_neg h, if_pos h2])
  ·have h2 := A1 (or_pick.symm.trans ht)
   have hc : 0 ≤ c ∧ c < 32 := by omega
   refine k5 (k2 ?_)
   refine A3 (A2 (A7 Z) Z (A2 (B0 Z Z Z) Z (A2 (A4 Z Z) Z (A2 (K8 Z) Z (A2 (n_shr Z Z (by (rw [y6 (by omega)]; omega))) Z ?_))))); refine A2 (X1 Z Z Z (fun _ => rfl)) Z (A2 (E8 Z Z) Z (A2 (A7 Z) Z (A2 (B0 Z Z Z) Z (A2 (n_eql_b Z Z TyBool.out) Z (A2 (A5 Z Z) Z (A6 ?_))))))
   refine k1 (k10 ?_)
   refine B5 (F3 Z Z Z) ?_
   have h3 : 0 ≤ r.Marks / 2 ^ c.toNat := Int.ediv_nonneg hr.1 (Int.pow_nonneg (by decide))
   have h4 : r.Marks / 2 ^ c.toNat ≤ r.Marks := Int.ediv_le_self _ hr.1
   rw [P6, if_neg h, if_neg h2, y6 (by omega), shr32 r.Marks c (by omega), and1_u32 _ (by omega)]
   rfl
theorem column16_ok (rows : List Row) (c : Int) (hr : L0 rows) (hl : rows.length ≤ 536870911) : FnOk Tryz.prog 116 [pRows rows, E2 c] (fun rs => rs = [i7 (L4 rows c)]) := by
 refine FnOk.intro Tryz.func116 (by decide) Z Z Z Z ?_
 refine k2 ?_
 refine A3 (A2 (A5 Z Z) Z (A6 ?_))
 refine k1 (k2 ?_)
 refine A3 (C0 (f_adopt 5 _ K9 Z) Z (A6 ?_))
 refine k1 (k2 (k2 ?_))
 refine A3 (A2 (A5 Z Z) Z (A6 ?_))
 refine k1 (k3 ?_)
 refine E0 (X := Nat) (fun i => ([(0, F4 Row 3 rowC rows), (1, C3 c), (5, .s (.one (.buf 5 Str 1 K9 (L4 (rows.take i) c)))), (6, C3 i)], [(5, .spare (L4 (rows.take i) c).length 1 9)])) (fun i => i ≤ rows.length) (fun i => rows.length - i) 0 (Nat.zero_le _) (Sees.of ⟨le1 rfl, le1 rfl, le1 rfl, le1 rfl, trivial⟩ ⟨rfl, trivial⟩) ?_
 intro i hi
 dsimp only at hi ⊢
 have hcl := colOf_len (rows.take i) c
 rw [List.length_take] at hcl
 refine k2 (k2 ?_)
 refine A3 (A2 (A4 Z Z) Z (A2 (A4 Z Z) Z (A2 (I2 Z (.pure _ _ _ _)) Z (A2 (D5 Z Z) Z (A6 ?_)))))
 refine k1 ?_
 refine B2 rfl (fun ht => ?_) (fun ht => ?_)
 ·have hlt : i < rows.length := by have := A0 ht; omega
  have hv : rows[i]? = some rows[i] := by simp [hlt]
  have hst : L4 (rows.take (i + 1)) c = L4 (rows.take i) c ++ (if P6 rows[i] c = true then [rows[i].Text] else []) := by
   unfold L4
   rw [List.take_add_one, hv, Option.toList_some, List.filter_append, List.map_append]
   congr 1
   by_cases h : P6 rows[i] c = true <;> simp [h]
  refine k5 (k1 (k2 (k3 (k2 ?_))))
  refine A3 (A2 (A4 Z Z) Z (A2 (A4 Z Z) Z (A2 (B8 Z (.pure _ _ _ _) Z (by omega) hv) Z (A2 (H2 Z Z) Z (A2 (A4 Z Z) Z (B7 (visible16_ok rows[i] c (hr _ (List.getElem_mem hlt))) Z Z Z ?_)))))); rintro _ rfl; refine A6 ?_
  refine k1 ?_
  refine B2 rfl (fun ht => ?_) (fun ht => ?_)
  ·rw [ht, if_pos rfl] at hst
   skip
   refine A3 (A2 (A4 Z Z) Z (A2 (A4 Z Z) Z (A2 (A4 Z Z) Z (A2 (B8 Z (.pure _ _ _ _) Z (by omega) hv) Z (A2 (J9 Z) Z (A2 (C2 Z Z) Z (A2 (D9 (c := K9) (ys := [_]) (F8 Z Z Z Z H5) Z Z Z) Z (C0 (J0 Z Z Z (.pure _ _ _ _) (by (simp only [List.length_cons, List.length_nil]; omega)) Z) Z (A2 (A5 Z Z) Z (A6 ?_))))))))))
   refine k4 (k1 ?_)
   refine A3 (A2 (A4 Z Z) Z (A2 (B9 Z Z (by omega)) Z (A2 (A5 Z Z) Z (A6 ?_))))
   refine k1 ?_
   refine ⟨i + 1, by omega, by omega, ?_⟩
   rw [hst]
   exact Sees.of ⟨le1 rfl, le1 rfl, le1 rfl, le1 rfl, trivial⟩ ⟨rfl, trivial⟩
  ·rw [ht, if_neg (by decide), List.append_nil] at hst
   refine k5 (k4 (k1 ?_))
   refine A3 (A2 (A4 Z Z) Z (A2 (B9 Z Z (by omega)) Z (A2 (A5 Z Z) Z (A6 ?_))))
   refine k1 ?_
   refine ⟨i + 1, by omega, by omega, ?_⟩
   rw [hst]
   exact Sees.of ⟨le1 rfl, le1 rfl, le1 rfl, le1 rfl, trivial⟩ ⟨rfl, trivial⟩
 ·have hi' : i = rows.length := by have := A1 ht; omega
  refine k6 (k2 ?_)
  refine A3 (A2 (A4 Z Z) Z (A2 (A5 Z Z) Z (A6 ?_)))
  refine k1 (k10 ?_)
  exact B5 (F3 rfl rfl rfl) (by rw [hi', List.take_length])
theorem marks16_ok (rows : List Row) (n : Int) (hn : 0 ≤ n ∧ n ≤ 32) (hr : L0 rows) : FnOk Tryz.prog 182 [pRows rows, E2 n] (fun rs => rs = [C4 (N3 rows n.toNat)]) := by
 refine FnOk.intro Tryz.func182 (by decide) Z Z Z Z ?_
 refine c_bound (t := 0) rfl (.pure _ _ _ _) fun hlen => ?_
 refine k2 ?_
 refine A3 (A2 (A5 Z Z) Z (A6 ?_))
 refine k1 (k2 (k2 ?_))
 refine A3 (A2 (A5 Z Z) Z (A6 ?_))
 refine k1 (k3 ?_)
 refine E0 (X := Nat) (fun i => ([(0, F4 Row 3 rowC rows), (1, C3 n), (5, C3 i)], [])) (fun i => i ≤ rows.length ∧ N3 rows n.toNat = N3 (rows.drop i) n.toNat) (fun i => rows.length - i) 0 (by simp) (Sees.of ⟨le1 rfl, le1 rfl, le1 rfl, trivial⟩ trivial) ?_
 rintro i ⟨hi, hp⟩
 dsimp only at hi hp ⊢
 refine k2 (k2 ?_)
 refine A3 (A2 (A4 Z Z) Z (A2 (A4 Z Z) Z (A2 (I2 Z (.pure _ _ _ _)) Z (A2 (D5 Z Z) Z (A6 ?_)))))
 refine k1 ?_
 refine B2 rfl (fun ht => ?_) (fun ht => ?_)
 ·have hlt : i < rows.length := by have := A0 ht; omega
  have hv : rows[i]? = some rows[i] := by simp [hlt]
  have hm := hr _ (List.getElem_mem hlt)
  rw [List.drop_eq_getElem_cons hlt, marksOk_cons] at hp
  have hmk : Q0 n.toNat rows[i] = !(if decide ((IntKind.u64.wrap rows[i].Marks).fdiv (2 ^ min (IntKind.u64.wrap n).toNat IntKind.u64.bits) ≠ 0) = true then true else if rows[i].Lost = true then decide (rows[i].Marks = 0) else false) := by
   rw [y6 (by omega), y6 (n := n) (by omega), shr64' _ _ (by omega), Q0]
   by_cases h1 : rows[i].Marks / 2 ^ n.toNat = 0
   ·cases h2 : rows[i].Lost <;> simp [h1]
    by_cases h3 : rows[i].Marks = 0 <;> simp [h3]
   ·simp [h1]
  refine k5 (k1 (k2 (k3 (k2 ?_))))
  refine A3 (A2 (A4 Z Z) Z (A2 (A4 Z Z) Z (A2 (B8 Z (.pure _ _ _ _) Z (by omega) hv) Z (A2 (J9 Z) Z (A2 (C2 Z Z) Z (A2 (K8 Z) Z (A2 (A4 Z Z) Z (A2 (K8 Z) Z (A2 (n_shr Z Z (by (rw [y6 (by omega)]; omega))) Z ?_))))))))); refine A2 (O7 Z Z) Z (A2 (A4 Z Z) Z (A8 Z Z Z Z (fun hg => by rw [hg]; exact A4 Z Z) ?_)); refine A8 Z Z Z Z (fun hg => by rw [hg]; exact A4 Z Z) ?_; refine A8 Z Z Z Z (fun hg => by have hq := hg; (try simp at hq); rw [hg]; exact B8 Z (.pure _ _ _ _) Z (by omega) hv) ?_; refine A8 Z Z Z Z (fun hg => by rw [hg]; exact J9 Z) ?_; refine A8 Z Z Z Z (fun hg => by rw [hg]; exact C2 Z Z) ?_; refine A8 Z Z Z Z (fun hg => by rw [hg]; exact A4 Z Z) ?_; refine I0 Z Z Z (.gd (.val _)) Z (fun hg => by obtain ⟨hg1, hg2⟩ := N2 hg; (try rw [hg1]); (try rw [hg2]); exact A4 Z Z) ?_; refine I0 Z Z Z (.gd (.val _)) Z (fun hg => by obtain ⟨hg1, hg2⟩ := N2 hg; (try rw [hg1]); (try rw [hg2]); exact A4 Z Z) ?_; refine I0 Z Z Z (.gd (.val _)) Z (fun hg => by have hq := hg; (try simp at hq); obtain ⟨hg1, hg2⟩ := N2 hg; (try rw [hg1]); (try rw [hg2]); exact B8 Z (.pure _ _ _ _) Z (by omega) hv) ?_; refine I0 Z Z Z (.gd (.val _)) Z (fun hg => by obtain ⟨hg1, hg2⟩ := N2 hg; (try rw [hg1]); (try rw [hg2]); exact J9 Z) ?_; refine I0 Z Z Z (.gd (.val _)) Z (fun hg => by obtain ⟨hg1, hg2⟩ := N2 hg; (try rw [hg1]); (try rw [hg2]); exact C2 Z Z) ?_; refine I0 Z Z Z (.gd (.val _)) Z (fun hg => by obtain ⟨hg1, hg2⟩ := N2 hg; (try rw [hg1]); (try rw [hg2]); exact E8 Z Z) ?_; refine A8 Z Z Z Z (fun hg => by rw [hg]; exact B3 Z (fun h => by first | rfl | (rw [h]; rfl)) (fun h => by first | rfl | (rw [h]; rfl))) ?_; refine A2 (B3 Z (fun h => by first | rfl | (rw [h]; rfl)) (fun h => by first | rfl | (rw [h]; rfl))) Z ?_; refine A6 ?_
  refine k1 ?_
  refine B2 rfl (fun ht => ?_) (fun ht => ?_)
  ·rw [hmk, ht] at hp
   refine k2 ?_
   refine A3 (A2 (A5 Z Z) Z (A6 ?_))
   refine k1 (k10 (k12 (k11 (k11 (k12 (k11 ?_))))))
   exact B5 (F3 rfl rfl rfl) (by rw [hp]; rfl)
  ·rw [hmk, ht] at hp
   refine k5 (k4 (k1 ?_))
   refine A3 (A2 (A4 Z Z) Z (A2 (B9 Z Z (by omega)) Z (A2 (A5 Z Z) Z (A6 ?_))))
   refine k1 ?_
   exact ⟨i + 1, ⟨by omega, by rw [hp]; rfl⟩, by omega, Sees.of ⟨le1 rfl, le1 rfl, le1 rfl, trivial⟩ trivial⟩
 ·have hi' : i = rows.length := by have := A1 ht; omega
  subst hi'
  refine k6 (k2 ?_)
  refine A3 (A2 (A5 Z Z) Z (A6 ?_))
  refine k1 (k10 ?_)
  exact B5 (F3 rfl rfl rfl) (by rw [hp]; simp [N3])
theorem texts16_ok (rows : List Row) (n : Int) (hn : 0 ≤ n ∧ n ≤ 32) (hr : L0 rows) (hl : rows.length ≤ 536870911) (hx : m8 rows ≤ 536870912) : FnOk Tryz.prog 183 [pRows rows, E2 n] (fun rs => rs = [C4 (o9 rows n.toNat)]) := by
 obtain ⟨n, rfl⟩ : ∃ m : Nat, n = m := ⟨n.toNat, by omega⟩
 rw [Int.toNat_natCast]
 refine FnOk.intro Tryz.func183 (by decide) Z Z Z Z ?_
 refine k2 ?_
 refine A3 (A2 (A5 Z Z) Z (A6 ?_))
 refine k1 (k2 (k2 ?_))
 refine A3 (A2 (A5 Z Z) Z (A6 ?_))
 refine k1 (k3 ?_)
 refine E0 (X := Nat) (fun i => ([(0, F4 Row 3 rowC rows), (1, C3 n), (5, C3 i)], [])) (fun i => i ≤ rows.length ∧ rows.all (fun r => G9 r.Text) = (rows.drop i).all (fun r => G9 r.Text)) (fun i => rows.length - i) 0 (by simp) (Sees.of ⟨le1 rfl, le1 rfl, le1 rfl, trivial⟩ trivial) ?_
 rintro i ⟨hi, hp⟩
 dsimp only at hi hp ⊢
 refine k2 (k2 ?_)
 refine A3 (A2 (A4 Z Z) Z (A2 (A4 Z Z) Z (A2 (I2 Z (.pure _ _ _ _)) Z (A2 (D5 Z Z) Z (A6 ?_)))))
 refine k1 ?_
 refine B2 rfl (fun ht => ?_) (fun ht => ?_)
 ·have hlt : i < rows.length := by have := A0 ht; omega
  have hv : rows[i]? = some rows[i] := by simp [hlt]
  have htl := text_len rows _ (List.getElem_mem hlt)
  rw [List.drop_eq_getElem_cons hlt, List.all_cons] at hp
  refine k5 (k1 (k2 (k3 (k2 ?_))))
  refine A3 (A2 (A4 Z Z) Z (A2 (A4 Z Z) Z (A2 (B8 Z (.pure _ _ _ _) Z (by omega) hv) Z (A2 (J9 Z) Z (A2 (C2 Z Z) Z (B7 (line_ok rows[i].Text (by omega)) Z Z Z ?_)))))); rintro _ rfl; refine A2 (D3 Z) Z (A6 ?_)
  refine k1 ?_
  refine B2 rfl (fun ht => ?_) (fun ht => ?_)
  ·have h : G9 rows[i].Text = false := by simpa using ht
   rw [h] at hp
   refine k2 ?_
   refine A3 (A2 (A5 Z Z) Z (A6 ?_))
   refine k1 (k10 (k12 (k11 (k11 (k12 (k11 ?_))))))
   exact B5 (F3 rfl rfl rfl) (by rw [o9, hp]; rfl)
  ·have h : G9 rows[i].Text = true := by simpa using ht
   rw [h] at hp
   refine k5 (k4 (k1 ?_))
   refine A3 (A2 (A4 Z Z) Z (A2 (B9 Z Z (by omega)) Z (A2 (A5 Z Z) Z (A6 ?_))))
   refine k1 ?_
   exact ⟨i + 1, ⟨by omega, by rw [hp]; rfl⟩, by omega, Sees.of ⟨le1 rfl, le1 rfl, le1 rfl, trivial⟩ trivial⟩
 ·have hi' : i = rows.length := by have := A1 ht; omega
  rw [hi', List.drop_eq_nil_of_le (Nat.le_refl _), List.all_nil] at hp
  refine k6 (k2 (k2 ?_))
  refine A3 (A2 (A5 Z Z) Z (A6 ?_))
  refine k1 (k3 ?_)
  refine E0 (X := Nat) (fun k => ([(0, F4 Row 3 rowC rows), (1, C3 n), (6, C3 ((k : Int) - 1))], [])) (fun k => k ≤ n + 1 ∧ (List.range (n + 1)).all (fun k => U8 (L4 rows ((k : Int) - 1))) = ((List.range (n + 1)).drop k).all (fun k => U8 (L4 rows ((k : Int) - 1)))) (fun k => n + 1 - k) 0 (by simp) (Sees.of ⟨le1 rfl, le1 rfl, le1 rfl, trivial⟩ trivial) ?_
  rintro k ⟨hk, hq⟩
  dsimp only at hk hq ⊢
  refine k2 (k2 ?_)
  refine A3 (A2 (A4 Z Z) Z (A2 (A4 Z Z) Z (A2 (D5 Z Z) Z (A6 ?_))))
  refine k1 ?_
  refine B2 rfl (fun ht => ?_) (fun ht => ?_)
  ·have hlt : k < n + 1 := by have := A0 ht; omega
   have hfl := colOf_flat rows ((k : Int) - 1)
   rw [List.drop_eq_getElem_cons (by simpa using hlt), List.all_cons, List.getElem_range] at hq
   refine k5 (k1 (k2 (k3 (k2 ?_))))
   refine A3 (A2 (A4 Z Z) Z (A2 (A4 Z Z) Z (B7 (column16_ok rows _ hr hl) Z Z Z ?_))); rintro _ rfl; refine B7 (list_ok _ (fun s hs => by obtain ⟨r, hr1, rfl⟩ := colOf_mem rows _ s hs; have := text_len rows r hr1; omega)) Z Z Z ?_; rintro _ rfl; refine A2 (D3 Z) Z (A6 ?_)
   refine k1 ?_
   refine B2 rfl (fun ht => ?_) (fun ht => ?_)
   ·have h : U8 (L4 rows ((k : Int) - 1)) = false := by simpa using ht
    rw [h] at hq
    refine k2 ?_
    refine A3 (A2 (A5 Z Z) Z (A6 ?_))
    refine k1 (k10 (k12 (k11 (k11 (k12 (k11 ?_))))))
    exact B5 (F3 rfl rfl rfl) (by rw [o9, hp, hq]; rfl)
   ·have h : U8 (L4 rows ((k : Int) - 1)) = true := by simpa using ht
    rw [h] at hq
    refine k5 (k4 (k1 ?_))
    refine A3 (A2 (A4 Z Z) Z (A2 (B9 Z Z (by omega)) Z (A2 (A5 Z Z) Z (A6 ?_))))
    refine k1 ?_
    exact ⟨k + 1, ⟨by omega, by rw [hq]; rfl⟩, by omega, Sees.of ⟨le1 rfl, le1 rfl, leE rfl (by first | (simp; done) | (simp; omega)), trivial⟩ trivial⟩
  ·have hk' : k = n + 1 := by have := A1 ht; omega
   rw [hk', List.drop_eq_nil_of_le (by simp), List.all_nil] at hq
   refine k6 (k2 ?_)
   refine A3 (A2 (A5 Z Z) Z (A6 ?_))
   refine k1 (k10 ?_)
   exact B5 (F3 rfl rfl rfl) (by rw [o9, hp, hq]; rfl)
theorem str_size' (s : Str) : (ByteArray.mk s.toArray).size = s.length := by simp [ByteArray.size]
theorem hasSuffix_ok (s p : Str) (hs : s.length ≤ 1099511627776) : FnOk Tryz.prog 209 [E6 s, E6 p] (fun rs => rs = [C4 (Lib.hasSuffix s p)]) :=
 FnOk.ofPlain (xs := [.string ⟨s.toArray⟩, .string ⟨p.toArray⟩]) ⟨_, rfl, rfl, rfl⟩ rfl fun w => by simpa using Tryz.strings_HasSuffix ⟨s.toArray⟩ ⟨p.toArray⟩ w (by rw [str_size']; omega)
theorem trimSuffix_ok (s p : Str) (hs : s.length ≤ 1099511627776) : FnOk Tryz.prog 224 [E6 s, E6 p] (fun rs => rs = [E6 (Lib.trimSuffix s p)]) :=
 FnOk.ofPlain (xs := [.string ⟨s.toArray⟩, .string ⟨p.toArray⟩]) ⟨_, rfl, rfl, rfl⟩ rfl fun w => by simpa using Tryz.strings_TrimSuffix ⟨s.toArray⟩ ⟨p.toArray⟩ w (by rw [str_size']; omega)
theorem contains1_ok (s : Str) (c : UInt8) : FnOk Tryz.prog 231 [E6 s, E6 [c]] (fun rs => rs = [C4 (decide (0 ≤ Lib.indexByte s c))]) :=
 FnOk.ofPlain (xs := [.string ⟨s.toArray⟩, .string ⟨#[c]⟩]) ⟨_, rfl, rfl, rfl⟩ rfl fun w => by simpa using Tryz.strings_Contains_one ⟨s.toArray⟩ c w
theorem tended_ok (s : Str) (hs : s.length ≤ 1099511627776) : FnOk Tryz.prog 142 [E6 s] (fun rs => rs = [C4 (ended s)]) := by
 refine FnOk.intro Tryz.func142 (by decide) Z Z Z Z ?_
 refine k2 ?_
 refine A3 (A2 (A5 Z Z) Z (A6 ?_))
 refine k1 (k2 ?_)
 refine A3 (A2 (A4 Z Z) Z (B7 (hasSuffix_ok s [10] hs) Z Z Z ?_)); rintro _ rfl; refine A2 (A5 Z Z) Z (A6 ?_)
 rw [hasSuffix_lf]
 refine k1 (k10 ?_)
 exact B5 (F3 rfl rfl rfl) rfl
theorem tbare_ok (s : Str) (hs : s.length ≤ 1099511627776) : FnOk Tryz.prog 232 [E6 s] (fun rs => rs = [E6 (y7 s)]) := by
 refine FnOk.intro Tryz.func232 (by decide) Z Z Z Z ?_
 refine k2 ?_
 refine A3 (A2 (A5 Z Z) Z (A6 ?_))
 refine k1 (k2 ?_)
 refine A3 (A2 (A4 Z Z) Z (B7 (trimSuffix_ok s [10] hs) Z Z Z ?_)); rintro _ rfl; refine A2 (A5 Z Z) Z (A6 ?_)
 rw [trimSuffix_lf]
 refine k1 (k10 ?_)
 exact B5 (F3 rfl rfl rfl) rfl
theorem wvisible_ok (r : Row) (c : Int) (hr : 0 ≤ r.Marks ∧ r.Marks < 4294967296) : FnOk Tryz.prog 188 [pRow r, E2 c] (fun rs => rs = [C4 (P6 r c)]) := by
 refine FnOk.intro Tryz.func188 (by decide) Z Z Z Z ?_
 refine k2 ?_
 refine A3 (C0 (R0 2 Z Z Z) Z (A2 (A5 Z Z) Z (A6 ?_)))
 refine k1 (k2 (k2 ?_))
 refine A3 (A2 (A4 Z Z) Z (A2 (D5 Z Z) Z (A2 (A4 Z Z) Z (A8 Z Z Z Z (fun hg => by rw [hg]; exact A4 Z Z) ?_)))); refine A8 Z Z Z Z (fun hg => by rw [hg]; exact W6 Z Z) ?_; refine A2 (B3 Z (fun h => by first | rfl | (rw [h]; rfl)) (fun h => by first | rfl | (rw [h]; rfl))) Z ?_; refine A6 ?_
 refine k1 ?_
 refine B2 rfl (fun ht => ?_) (fun ht => ?_)
 ·have h := A0 (or_pick.symm.trans ht)
  refine k2 ?_
  refine A3 (A2 (A5 Z Z) Z (A6 ?_))
  refine k1 (k10 (k11 ?_))
  exact B5 (F3 rfl rfl rfl) (by rw [P6, if_neg (by omega), if_pos (by omega)])
 ·have h := A1 (or_pick.symm.trans ht)
  refine k5 (k1 (k2 (k2 ?_)))
  refine A3 (A2 (A4 Z Z) Z (A2 (D5 Z Z) Z (A6 ?_)))
  refine k1 ?_
  refine B2 rfl (fun ht => ?_) (fun ht => ?_)
  ·have h2 := A0 ht
   refine k2 ?_
   refine A3 (A2 (A7 Z) Z (A2 (B0 Z Z Z) Z (A2 (D3 Z) Z (A2 (A5 Z Z) Z (A6 ?_)))))
   refine k1 (k10 (k11 ?_))
   exact B5 (F3 rfl rfl rfl) (by rw [P6, if_pos (by omega)])
  ·have h2 := A1 ht
   refine k5 (k1 (k2 ?_))
   refine D1 (by kernel_rfl) (by kernel_rfl) (B1 (A7 Z) Z Z (B1 (B0 Z Z Z) Z Z (B1 (A7 Z) Z Z (B1 (B0 Z Z Z) Z Z (B1 (A4 Z Z) Z Z (B1 (n_shr Z Z (by omega)) Z Z (B1 (X1 Z Z Z (fun _ => rfl)) Z Z (B1 (E8 Z Z) Z Z (B1 (n_eql_b Z Z TyBool.out) Z Z (B1 (A5 Z Z) Z Z (J4 ?_)))))))))))
   refine k1 (k10 ?_)
   refine B5 (F3 Z Z Z) ?_
   have h3 : 0 ≤ r.Marks / 2 ^ c.toNat := Int.ediv_nonneg hr.1 (Int.pow_nonneg (by decide))
   have h4 : r.Marks / 2 ^ c.toNat ≤ r.Marks := Int.ediv_le_self _ hr.1
   rw [P6, if_neg (by omega), if_neg (by omega), shr32 r.Marks c (by omega), and1_u32 _ (by omega), Bool.beq_comm]
   rfl
theorem wmarked_ok (r : Row) (n : Int) (hn : 1 ≤ n ∧ n ≤ 32) (hr : 0 ≤ r.Marks ∧ r.Marks < 4294967296) : FnOk Tryz.prog 169 [pRow r, E2 n] (fun rs => rs = [C4 (Q0 n.toNat r)]) := by
 refine FnOk.intro Tryz.func169 (by decide) Z Z Z Z ?_
 refine k2 ?_
 refine A3 (C0 (R0 2 Z Z Z) Z (A2 (A5 Z Z) Z (A6 ?_)))
 refine k1 (k2 ?_)
 refine A3 (A2 (A7 Z) Z (A2 (B0 Z Z Z) Z (A2 (n_shr Z Z (by omega)) Z (A2 (A4 Z Z) Z (A2 (W5 Z Z (by omega)) Z (A2 (n_shr Z Z (by omega)) Z (A2 (E8 Z Z) Z (A2 (A4 Z Z) Z (A8 Z Z Z Z (fun hg => by rw [hg]; exact A7 Z) ?_))))))))); refine A8 Z Z Z Z (fun hg => by rw [hg]; exact B0 Z Z Z) ?_; refine A8 Z Z Z Z (fun hg => by rw [hg]; exact D3 Z) ?_; refine A8 Z Z Z Z (fun hg => by rw [hg]; exact A4 Z Z) ?_; refine I0 Z Z Z (.gd (.val _)) Z (fun hg => by obtain ⟨hg1, hg2⟩ := N2 hg; (try rw [hg1]); (try rw [hg2]); exact A7 Z) ?_; refine I0 Z Z Z (.gd (.val _)) Z (fun hg => by obtain ⟨hg1, hg2⟩ := N2 hg; (try rw [hg1]); (try rw [hg2]); exact B0 Z Z Z) ?_; refine I0 Z Z Z (.gd (.val _)) Z (fun hg => by obtain ⟨hg1, hg2⟩ := N2 hg; (try rw [hg1]); (try rw [hg2]); exact O7 Z Z) ?_; refine A8 Z Z Z Z (fun hg => by rw [hg]; exact B3 Z (fun h => by first | rfl | (rw [h]; rfl)) (fun h => by first | rfl | (rw [h]; rfl))) ?_; refine A2 (B3 Z (fun h => by first | rfl | (rw [h]; rfl)) (fun h => by first | rfl | (rw [h]; rfl))) Z ?_; refine A2 (A5 Z Z) Z (A6 ?_)
 refine k1 (k10 ?_)
 refine B5 (F3 Z Z Z) ?_
 have h0 : 0 ≤ r.Marks / 2 ^ n.toNat := Int.ediv_nonneg hr.1 (Int.pow_nonneg (by decide))
 have e1 : r.Marks.fdiv (2 ^ (min (1 : Int).toNat IntKind.u32.bits)) = r.Marks / 2 := by
  rw [shr32 r.Marks 1 (by omega)]; rfl
 have e2 : (r.Marks / 2).fdiv (2 ^ (min (n - 1).toNat IntKind.u32.bits)) = r.Marks / 2 ^ n.toNat := by
  rw [shr32 (r.Marks / 2) (n - 1) (by omega), Int.ediv_ediv_of_nonneg (by decide)]
  have : n.toNat = (n - 1).toNat + 1 := by omega
  rw [this, Int.pow_succ, Int.mul_comm]
 have e3 : (if decide ((r.Marks.fdiv (2 ^ (min (1 : Int).toNat IntKind.u32.bits))).fdiv (2 ^ (min (n - 1).toNat IntKind.u32.bits)) = 0) = true then (if (!r.Lost) = true then true else decide (r.Marks ≠ 0)) else false) = Q0 n.toNat r := by
  rw [e1, e2, Q0]
  cases r.Lost <;> by_cases hz : r.Marks / 2 ^ n.toNat = 0 <;> by_cases hy : r.Marks = 0 <;> simp [hz, hy]
 rw [← e3]
theorem wsingle_ok (r : Row) (hs : r.Text.length ≤ 1099511627776) : FnOk Tryz.prog 171 [pRow r] (fun rs => rs = [C4 (G9 r.Text)]) := by
 refine FnOk.intro Tryz.func171 (by decide) Z Z Z Z ?_
 refine k2 ?_
 refine A3 (C0 (R0 1 Z Z Z) Z (A2 (A5 Z Z) Z (A6 ?_)))
 refine k1 (k2 ?_)
 refine A3 (A2 (A7 Z) Z (A2 (B0 Z Z Z) Z (A2 (V6 Z Z) Z (A2 (A4 Z Z) Z (A8 Z Z Z Z (fun hg => by rw [hg]; exact A7 Z) ?_))))); refine A8 Z Z Z Z (fun hg => by rw [hg]; exact B0 Z Z Z) ?_; refine A8 Z Z Z Z (fun hg => by have hq := hg; (try simp at hq); rw [hg]; exact G4 (tbare_ok r.Text hs) Z Z) ?_; refine A8 Z Z Z Z (fun hg => by have hq := hg; (try simp at hq); rw [hg]; exact G4 (contains1_ok (y7 r.Text) 10) Z Z) ?_; refine A8 Z Z Z Z (fun hg => by rw [hg]; exact D3 Z) ?_; refine A2 (B3 Z (fun h => by first | rfl | (rw [h]; rfl)) (fun h => by first | rfl | (rw [h]; rfl))) Z ?_; refine A2 (A5 Z Z) Z (A6 ?_)
 refine k1 (k10 ?_)
 refine B5 (F3 Z Z Z) ?_
 rw [← single_eq]
theorem wadd_ok (r : Row) (res : Bool) (par : Int) (hs : r.Text.length ≤ 1099511627776) :
  FnIo Tryz.prog 172 [pRow r] [.v (.bool res), .v (.int .u32 par)] (fun rs cs => rs = [C4 (addOk res par r)] ∧ cs = [.v (.bool (addRes res r)), .v (.int .u32 (addPar par r))]) := by
 refine FnIo.intro Tryz.func172 (by decide) Z Z Z Z ?_
 refine k2 ?_
 refine A3 (C0 (R0 3 Z Z Z) Z (A2 (A5 Z Z) Z (A6 ?_)))
 refine k1 (k2 ?_)
 refine A3 (A2 (A7 Z) Z (A2 (B0 Z Z Z) Z (A2 (A5 Z Z) Z (A6 ?_))))
 refine H8 ?_
 refine U7 [(3, .s (.one (.ref 3 0))), (0, .s (.one (.ref self 0))), (5, H1 (.int .u32 (inOf r)))] [(3, .box (pRow r).s1.cells), (self, .box [.p (.v (.bool res)), .p (.v (.int .u32 par))])] ?_ ?_
 ·refine k2 ?_
  refine A3 (A2 (A7 Z) Z (A2 (B0 Z Z Z) Z (A2 (D3 Z) Z (A6 ?_))))
  refine k1 ?_
  refine B2 rfl (fun ht => ?_) (fun ht => ?_)
  ·have h : r.Lost = false := by simpa using ht
   skip
   refine A3 (A2 (A4 Z Z) Z (A2 (n_compl Z Z (fun _ => rfl)) Z (A2 (A5 Z Z) Z (A6 ?_))))
   refine k1 ?_
   rw [inOf, if_neg (by rw [h]; simp)]
   exact Sees.of ⟨le1 rfl, le1 rfl, le1 rfl, trivial⟩ ⟨rfl, rfl, trivial⟩
  ·have h : r.Lost = true := by simpa using ht
   refine k5 (k1 ?_)
   rw [inOf, if_pos h]
   exact Sees.of ⟨le1 rfl, le1 rfl, le1 rfl, trivial⟩ ⟨rfl, rfl, trivial⟩
 refine k2 ?_
 refine A3 (A2 (A4 Z Z) Z (A2 (B4 Z) Z (A2 (A7 Z) Z (A2 (B0 Z Z Z) Z (A2 (A4 Z Z) Z (A2 (X1 Z Z Z (fun _ => rfl)) Z (A2 (E8 Z Z) Z (A2 (A4 Z Z) Z (A8 Z Z Z Z (fun hg => by rw [hg]; exact A7 Z) ?_))))))))); refine A8 Z Z Z Z (fun hg => by rw [hg]; exact B0 Z Z Z) ?_; refine A8 Z Z Z Z (fun hg => by rw [hg]; exact A4 Z Z) ?_; refine I0 Z Z Z (.gd (.val _)) Z (fun hg => by obtain ⟨hg1, hg2⟩ := N2 hg; (try rw [hg1]); (try rw [hg2]); exact A4 Z Z) ?_; refine I0 Z Z Z (.gd (.val _)) Z (fun hg => by obtain ⟨hg1, hg2⟩ := N2 hg; (try rw [hg1]); (try rw [hg2]); exact B4 Z) ?_; refine I0 Z Z Z (.gd (.val _)) Z (fun hg => by obtain ⟨hg1, hg2⟩ := N2 hg; (try rw [hg1]); (try rw [hg2]); exact A7 Z) ?_; refine I0 Z Z Z (.gd (.val _)) Z (fun hg => by obtain ⟨hg1, hg2⟩ := N2 hg; (try rw [hg1]); (try rw [hg2]); exact B0 Z Z Z) ?_; refine I0 Z Z Z (.gd (.val _)) Z (fun hg => by obtain ⟨hg1, hg2⟩ := N2 hg; (try rw [hg1]); (try rw [hg2]); exact D3 Z) ?_; refine A8 Z Z Z Z (fun hg => by rw [hg]; exact B3 Z (fun h => by first | rfl | (rw [h]; rfl)) (fun h => by first | rfl | (rw [h]; rfl))) ?_; refine A2 (B3 Z (fun h => by first | rfl | (rw [h]; rfl)) (fun h => by first | rfl | (rw [h]; rfl))) Z ?_; refine A2 (A5 Z Z) Z (A6 ?_)
 refine k1 (k2 (k2 ?_))
 refine A3 (A2 (A7 Z) Z (A2 (B0 Z Z Z) Z (B7 (tended_ok r.Text hs) Z Z Z ?_))); rintro _ rfl; refine A2 (D3 Z) Z (A6 ?_)
 have hok : (if decide (and32 par (inOf r) = 0) = true then (if r.Lost = true then true else !res) else false) = addOk res par r := by
  rw [addOk]
  cases r.Lost <;> cases res <;> by_cases h : and32 par (inOf r) = 0 <;> simp [h]
 refine k1 ?_
 refine B2 rfl (fun ht => ?_) (fun ht => ?_)
 ·have h : ended r.Text = false := by simpa using ht
  refine k2 ?_
  refine A3 (A2 (A4 Z Z) Z (A2 (B4 Z) Z (A2 (A7 Z) Z (A2 (B0 Z Z Z) Z (A2 (A4 Z Z) Z (A2 (X1 Z Z Z (fun _ => rfl)) Z (A2 (B4 Z) Z (A2 (A7 Z) Z (D7 (B6 TySz.out Z Z Z Z Z Z) (A6 ?_))))))))))
  refine k1 ?_
  refine A3 (A2 (A4 Z Z) Z (A2 (A4 Z Z) Z (A2 (B4 Z) Z (A2 (A7 Z) Z (A2 (B0 Z Z Z) Z (A2 (A4 Z Z) Z (A8 Z Z Z Z (fun hg => by rw [hg]; exact A7 Z) ?_))))))); refine A8 Z Z Z Z (fun hg => by rw [hg]; exact B0 Z Z Z) ?_; refine A8 Z Z Z Z (fun hg => by rw [hg]; exact D3 Z) ?_; refine A2 (B3 Z (fun h => by first | rfl | (rw [h]; rfl)) (fun h => by first | rfl | (rw [h]; rfl))) Z ?_; refine A2 (B4 Z) Z (A2 (A7 Z) Z (D7 (B6 TySz.out Z Z Z Z Z Z) (A6 ?_)))
  refine k1 (k2 ?_)
  refine A3 (A2 (A4 Z Z) Z (A2 (A5 Z Z) Z (A6 ?_)))
  refine k1 (k10 ?_)
  refine io_ret (F3 rfl rfl rfl) rfl rfl ⟨by rw [← hok]; rfl, ?_⟩
  have ea : addRes res r = (res || !r.Lost) := by rw [addRes, h]; rfl
  have ep : addPar par r = orBit par (inOf r) := by rw [addPar, h]; rfl
  rw [ea, ep]
  cases res <;> rfl
 ·have h : ended r.Text = true := by simpa using ht
  refine k5 (k1 (k2 ?_))
  refine A3 (A2 (A4 Z Z) Z (A2 (A5 Z Z) Z (A6 ?_)))
  refine k1 (k10 ?_)
  exact io_ret (F3 rfl rfl rfl) rfl rfl ⟨by rw [← hok]; rfl, by rw [addRes, addPar, if_pos h, if_pos h]⟩
def isBld (ob : Obs) (xs : Str) : Prop := (∃ a, (a = .p (.v (.pointer none)) ∨ a = .ref 700 0) ∧ D2 ob 700 = some (.tbx 144 [a, .buf 701 UInt8 1 u8C xs])) ∧ D2 ob 701 = some (.spare xs.length 1 5)
abbrev bldObs (ob : Obs) (ys xs : Str) : Obs := (700, .tbx 144 [.ref 700 0, .buf 701 UInt8 1 u8C xs]) :: (701, .spare xs.length 1 5) :: Obs.forget 701 ((700, .tbx 144 [.ref 700 0, .buf 701 UInt8 1 u8C ys]) :: ob)
def ccRen : Go.Shelf.Ren := ⟨fun | 240 => 165 | 276 => 227 | n => n, fun | 72 => 144 | 70 => 142 | 164 => 278 | 37 => 133 | n => n, fun n => n⟩
theorem ccLays : Go.Proofs.Lays.n240 Tryz.prog ccRen := {
 mixed := by kernel_rfl
 f240 := Tryz.func165.trans (congrArg some (by kernel_rfl))
 f276 := Tryz.func227.trans (congrArg some (by kernel_rfl))
 t0 := Tryz.underlying0
 a0 := Tryz.isAgg0
 z0 := Tryz.sizeOf0
 v0 := Tryz.zeroValue0
 t4 := Tryz.underlying4
 a4 := Tryz.isAgg4
 z4 := Tryz.sizeOf4
 v4 := Tryz.zeroValue4
 t9 := Tryz.underlying9
 a9 := Tryz.isAgg9
 z9 := Tryz.sizeOf9
 v9 := Tryz.zeroValue9
 t20 := Tryz.underlying20
 a20 := Tryz.isAgg20
 z20 := Tryz.sizeOf20
 v20 := Tryz.zeroValue20
 t70 := Tryz.underlying142
 a70 := Tryz.isAgg142
 z70 := Tryz.sizeOf142
 v70 := Tryz.zeroValue142
 t72 := Tryz.underlying144
 a72 := Tryz.isAgg144
 z72 := Tryz.sizeOf144
 v72 := Tryz.zeroValue144
 t164 := Tryz.underlying278
 a164 := Tryz.isAgg278
 z164 := Tryz.sizeOf278
 v164 := Tryz.zeroValue278 }
theorem ccX : Builder.X72 Tryz.prog ccRen := {
 sizeBuilder := by kernel_rfl
 liesBuilder := by kernel_rfl }
theorem copyCheck_met {gf : Fr} {ob : Obs} {a t : TC} (hk : D2 ob 700 = some (.tbx 144 [a, t])) (ha : a = .p (.v (.pointer none)) ∨ a = .ref 700 0) :
  AL.Met Tryz.prog 165 [.one (.ref 700 0)] gf ob [] (fun rs ob' => rs = [] ∧ ob' = (700, .tbx 144 [.ref 700 0, t]) :: ob) :=
 AL.Met.copyCheck ⟨_, rfl, rfl, rfl⟩ (fun b w h1 h2 h3 => Any.Builder_copyCheck_fresh (ρ := ccRen) ccLays ccX b w h1 h2 h3) (fun b w h => Any.Builder_copyCheck_used (ρ := ccRen) ccLays ccX b w h) hk ha
theorem M6 {gf : Fr} {ob : Obs} {xs s : Str} (hb : isBld ob xs) (hlen : xs.length + s.length ≤ 1073741824) :
  AL.Met Tryz.prog 88 [.one (.ref 700 0), .one (.p (.v (.string ⟨s.toArray⟩)))] gf ob [701] (fun rs ob' => rs = [.one (.p (.v (.int .i64 s.length))), .one (.p (.v .nilIface))] ∧ ob' = bldObs ob xs (xs ++ s)) := by
 obtain ⟨⟨a, ha, hk⟩, hk1⟩ := hb
 refine AL.Met.intro Tryz.func88 (by decide) Z Z Z ?_
 refine k2 ?_
 refine A3 (A2 (A5 Z Z) Z (A2 (A5 Z Z) Z (A6 ?_)))
 refine k1 (k2 ?_)
 refine A3 (A2 (A4 Z Z) Z (R7 (copyCheck_met hk ha) Z Z Z ?_)); rintro _ _ ⟨rfl, rfl⟩; refine A6 ?_
 refine k1 (k2 ?_)
 refine A3 (A2 (A4 Z Z) Z (A2 (A4 Z Z) Z (A2 (B4 Z) Z (A2 (A7 Z) Z (A2 (n_load_tref Z Z Z) Z (A2 (A4 Z Z) Z (C0 (w8 TyStr.out Z hk1 Z (by first | omega | (simp; omega)) Z) Z (A2 (B4 Z) Z (A2 (A7 Z) Z (D7 (e_store_tref TySz.out Z Z Z Z Z Z) (A6 ?_)))))))))))
 refine k1 (k2 ?_)
 refine A3 (A2 (A4 Z Z) Z (A2 (C6 Z) Z (A2 (A5 Z Z) Z (A2 (A5 Z Z) Z (A6 ?_)))))
 refine k1 (k10 ?_)
 exact F7 (u2 rfl rfl rfl) (by repeat (first | exact C7 | refine tail_cons rfl ?_ | refine C8 _ ?_)) (fun _ _ h => h) ⟨rfl, rfl⟩
theorem writeByte_met {gf : Fr} {ob : Obs} {xs : Str} {c : UInt8} (hb : isBld ob xs) (hlen : xs.length + 1 ≤ 1073741824) :
  AL.Met Tryz.prog 144 [.one (.ref 700 0), .one (.p (.v (.int .u8 c.toNat)))] gf ob [701] (fun rs ob' => rs = [.one (.p (.v .nilIface))] ∧ ob' = bldObs ob xs (xs ++ [c])) := by
 obtain ⟨⟨a, ha, hk⟩, hk1⟩ := hb
 refine AL.Met.intro Tryz.func144 (by decide) Z Z Z ?_
 refine k2 ?_
 refine A3 (A2 (A5 Z Z) Z (A6 ?_))
 refine k1 (k2 ?_)
 refine A3 (A2 (A4 Z Z) Z (R7 (copyCheck_met hk ha) Z Z Z ?_)); rintro _ _ ⟨rfl, rfl⟩; refine A6 ?_
 refine k1 (k2 ?_)
 refine A3 (A2 (A4 Z Z) Z (A2 (A4 Z Z) Z (A2 (B4 Z) Z (A2 (A7 Z) Z (A2 (n_load_tref Z Z Z) Z (A2 (A4 Z Z) Z (A2 (D9 (c := u8C) (ys := [c]) (F8 Z Z Z Z H5) Z Z Z) Z (C0 (J0 Z hk1 Z (.pure _ _ _ _) (by (simp; omega)) Z) Z (A2 (B4 Z) Z (A2 (A7 Z) Z (D7 (e_store_tref TySz.out Z Z Z Z Z Z) (A6 ?_))))))))))))
 refine k1 (k2 ?_)
 refine A3 (A2 (A5 Z Z) Z (A6 ?_))
 refine k1 (k10 ?_)
 exact F7 (V3 rfl rfl) (by repeat (first | exact C7 | refine tail_cons rfl ?_ | refine C8 _ ?_)) (fun _ _ h => h) ⟨rfl, rfl⟩
end Go.Proofs.YtgejaedjnbjpoaaGreatDoor
