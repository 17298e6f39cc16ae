/- Walks of the program's functions. -/
import Derived.Test.YtgejaedjnbjpoaaGreatDoorFb
import Derived.Test.YtgejaedjnbjpoaaGreatDoorFs
namespace Go.Proofs.YtgejaedjnbjpoaaGreatDoor
open Go Go.AL
set_option maxRecDepth 100000
theorem stname_ok (l pre : Str) (hl : l.length ≤ 16777216) : FnOk Tryz.prog 147 [G6 l, G6 pre]
  (fun rs => ∃ (w : Str) (b : Bool), rs = [G6 w, F9 b] ∧ match S8 l pre with
   | some w' => b = true ∧ w = w'
   | none => b = false) := by
 have hc := cutPrefix_ok l pre
 unfold cutP at hc
 by_cases h : l.take pre.length = pre
 ·rw [if_pos h] at hc
  obtain ⟨r, hr⟩ : ∃ r, r = l.drop pre.length := ⟨_, rfl⟩
  have hrl : r.length ≤ l.length := by rw [hr, List.length_drop]; omega
  have hu := sUnquote_ok r 0 (Nat.zero_le _) (by omega)
  rw [← hr] at hc
  cases hw : n9 r with
  | none =>
   rw [wordR_none (by rw [List.drop_zero]; exact hw)] at hu
   have hN : S8 l pre = none := by unfold S8; rw [if_pos h, ← hr, hw]
   refine FnOk.intro Tryz.func147 (by decide) Z Z Z Z ?_
   refine k2 ?_
   refine A4 (A2 (A5 Z Z) Z (A2 (A5 Z Z) Z (A6 ?_)))
   refine k1 (k2 ?_)
   refine A4 (A2 (A3 Z Z) Z (A2 (A3 Z Z) Z (C3 (hc) Z Z Z ?_))); rintro _ rfl; refine A2 (A3 Z Z) Z (A2 (B3 Z Z) Z (A2 (B3 Z Z) Z (A2 (A5 Z Z) Z (A2 (A5 Z Z) Z (A6 ?_)))))
   refine k1 (k2 (k2 ?_))
   refine A4 (A2 (A3 Z Z) Z (A2 (F4 Z) Z (A6 ?_)))
   refine k1 ?_
   refine B2 rfl (fun ht => ?_) (fun ht => ?_)
   ·cases ht
   refine k5 (k1 (k2 ?_))
   refine A4 (A2 (A3 Z Z) Z (C3 (hu) Z Z Z ?_)); rintro _ rfl; refine A2 (A3 Z Z) Z (A2 (B3 Z Z) Z (A2 (B3 Z Z) Z (A2 (B3 Z Z) Z (A2 (A5 Z Z) Z (A2 (A5 Z Z) Z (A2 (A5 Z Z) Z (A6 ?_)))))))
   refine k1 (k2 ?_)
   refine A4 (A2 (A3 Z Z) Z (A2 (A3 Z Z) Z (A2 (A3 Z Z) Z (B0 Z Z Z Z (fun hg => by rw [hg]; exact A3 Z Z) ?_)))); refine B0 Z Z Z Z (fun hg => by rw [hg]; exact A3 Z Z) ?_; refine B0 Z Z Z Z (fun hg => by rw [hg]; exact F5 Z) ?_; refine B0 Z Z Z Z (fun hg => by rw [hg]; exact I8 Z Z) ?_; refine A2 (B1 Z (fun h => by first | rfl | (rw [h]; rfl)) (fun h => by first | rfl | (rw [h]; rfl))) Z ?_; refine A2 (A5 Z Z) Z (A2 (A5 Z Z) Z (A6 ?_))
   refine k1 (k10 ?_)
   refine B6 (U5 rfl rfl rfl rfl rfl) ⟨[], _, rfl, ?_⟩
   rw [hN]; rfl
  | some q =>
   obtain ⟨w, k⟩ := q
   rw [wordR_some (k := k) (by rw [List.drop_zero]; exact hw), Nat.zero_add] at hu
   have hN : S8 l pre = if k = r.length then some w else none := by unfold S8; rw [if_pos h, ← hr, hw]
   refine FnOk.intro Tryz.func147 (by decide) Z Z Z Z ?_
   refine k2 ?_
   refine A4 (A2 (A5 Z Z) Z (A2 (A5 Z Z) Z (A6 ?_)))
   refine k1 (k2 ?_)
   refine A4 (A2 (A3 Z Z) Z (A2 (A3 Z Z) Z (C3 (hc) Z Z Z ?_))); rintro _ rfl; refine A2 (A3 Z Z) Z (A2 (B3 Z Z) Z (A2 (B3 Z Z) Z (A2 (A5 Z Z) Z (A2 (A5 Z Z) Z (A6 ?_)))))
   refine k1 (k2 (k2 ?_))
   refine A4 (A2 (A3 Z Z) Z (A2 (F4 Z) Z (A6 ?_)))
   refine k1 ?_
   refine B2 rfl (fun ht => ?_) (fun ht => ?_)
   ·cases ht
   refine k5 (k1 (k2 ?_))
   refine A4 (A2 (A3 Z Z) Z (C3 (hu) Z Z Z ?_)); rintro _ rfl; refine A2 (A3 Z Z) Z (A2 (B3 Z Z) Z (A2 (B3 Z Z) Z (A2 (B3 Z Z) Z (A2 (A5 Z Z) Z (A2 (A5 Z Z) Z (A2 (A5 Z Z) Z (A6 ?_)))))))
   refine k1 (k2 ?_)
   refine A4 (A2 (A3 Z Z) Z (A2 (A3 Z Z) Z (A2 (A3 Z Z) Z (B0 Z Z Z Z (fun hg => by rw [hg]; exact A3 Z Z) ?_)))); refine B0 Z Z Z Z (fun hg => by rw [hg]; exact A3 Z Z) ?_; refine B0 Z Z Z Z (fun hg => by rw [hg]; exact F5 Z) ?_; refine B0 Z Z Z Z (fun hg => by rw [hg]; exact I8 Z Z) ?_; refine A2 (B1 Z (fun h => by first | rfl | (rw [h]; rfl)) (fun h => by first | rfl | (rw [h]; rfl))) Z ?_; refine A2 (A5 Z Z) Z (A2 (A5 Z Z) Z (A6 ?_))
   refine k1 (k10 ?_)
   refine B6 (U5 rfl rfl rfl rfl rfl) ⟨w, _, rfl, ?_⟩
   rw [hN]
   by_cases hk : k = r.length
   ·rw [if_pos hk]; exact ⟨by rw [hk]; simp, rfl⟩
   ·rw [if_neg hk]; simp; omega
 ·rw [if_neg h] at hc
  have hN : S8 l pre = none := by unfold S8; rw [if_neg h]
  refine FnOk.intro Tryz.func147 (by decide) Z Z Z Z ?_
  refine k2 ?_
  refine A4 (A2 (A5 Z Z) Z (A2 (A5 Z Z) Z (A6 ?_)))
  refine k1 (k2 ?_)
  refine A4 (A2 (A3 Z Z) Z (A2 (A3 Z Z) Z (C3 (hc) Z Z Z ?_))); rintro _ rfl; refine A2 (A3 Z Z) Z (A2 (B3 Z Z) Z (A2 (B3 Z Z) Z (A2 (A5 Z Z) Z (A2 (A5 Z Z) Z (A6 ?_)))))
  refine k1 (k2 (k2 ?_))
  refine A4 (A2 (A3 Z Z) Z (A2 (F4 Z) Z (A6 ?_)))
  refine k1 ?_
  refine B2 rfl (fun ht => ?_) (fun ht => ?_)
  ·refine k2 ?_
   refine A4 (A2 (A5 Z Z) Z (A2 (A5 Z Z) Z (A6 ?_)))
   refine k1 (k10 (k11 ?_))
   refine B6 (rs := [G6 [], F9 false]) (U5 rfl rfl rfl rfl rfl) ⟨[], false, rfl, ?_⟩
   rw [hN]
  ·cases ht
def spanR (l : Str) (i : Nat) (pre : Str) : List PV := match Y6 l i pre with
 | none => [F0 0, F0 0, F9 false]
 | some (a, _, e) => [F0 a, F0 (e : Int), F9 true]
theorem take_len {l pre : Str} {i : Nat} (hi : i ≤ l.length) (h : (l.drop i).take pre.length = pre) : i + pre.length ≤ l.length := by
 have := congrArg List.length h
 rw [List.length_take, List.length_drop] at this; omega
theorem rngFin_le {s : Str} {a c e : Nat} {r : Int × Int × Nat} (h : rngFin s a c e = some r) : r.2.2 = e := by
 unfold rngFin at h
 obtain ⟨st, hst⟩ : ∃ st : Int, st = if 0 < c then (a : Int) - 1 else a := ⟨_, rfl⟩
 rw [← hst] at h
 by_cases hc : I0 st c = s.take e
 ·rw [if_pos hc] at h; cases h; rfl
 ·rw [if_neg hc] at h; cases h
theorem rngAt_le {s : Str} {a n : Int} {e : Nat} (h : rngAt s = some (a, n, e)) : e ≤ s.length := by
 unfold rngAt at h
 cases h1 : o7 s with
 | none => rw [h1] at h; cases h
 | some p =>
  obtain ⟨v, k⟩ := p
  rw [h1] at h
  dsimp only at h
  obtain ⟨_, _, _, hk, _⟩ := num_facts h1
  split at h
  ·rename_i h44
   have hlt := (List.getElem?_eq_some_iff.1 h44).1
   cases h2 : o7 (s.drop (k + 1)) with
   | none => rw [h2] at h; cases h
   | some q =>
    obtain ⟨c, k'⟩ := q
    rw [h2] at h
    dsimp only at h
    obtain ⟨_, _, _, hk', _⟩ := num_facts h2
    rw [List.length_drop] at hk'
    have := rngFin_le h
    dsimp only at this; omega
  ·have := rngFin_le h
   dsimp only at this; omega
theorem spanAt_le {l pre : Str} {i : Nat} {a n : Int} {e : Nat} (hi : i ≤ l.length) (h : Y6 l i pre = some (a, n, e)) : e ≤ l.length := by
 unfold Y6 at h
 split at h
 ·rename_i h1
  have h2 := take_len hi h1
  cases h3 : rngAt (l.drop (i + pre.length)) with
  | none => rw [h3] at h; cases h
  | some q =>
   obtain ⟨x, y, z⟩ := q
   rw [h3] at h
   have h4 := rngAt_le h3
   rw [List.length_drop] at h4
   simp at h; omega
 ·cases h
theorem stspan_ok (l : Str) (i : Nat) (pre : Str) (hi : i ≤ l.length) (hl : l.length ≤ 16777216) : FnOk Tryz.prog 254 [G6 l, F0 i, G6 pre] (fun rs => rs = spanR l i pre) := by
 by_cases h : (l.drop i).take pre.length = pre
 ·have hp := take_len hi h
  have hr := sRange_ok l (i + pre.length) hp (by omega)
  cases hg : rngAt (l.drop (i + pre.length)) with
  | none =>
   have hr : FnOk Tryz.prog 258 [G6 l, F0 ((i + pre.length : Nat) : Int)] (fun rs => rs = [F0 0, F0 0, F0 0, F9 false]) := by unfold rngR at hr; rw [hg] at hr; exact hr
   rw [show ((i + pre.length : Nat) : Int) = (i : Int) + (pre.length : Int) by omega] at hr
   have hS : Y6 l i pre = none := by unfold Y6; rw [if_pos h, hg]
   refine FnOk.intro Tryz.func254 (by decide) Z Z Z Z ?_
   refine k2 ?_
   refine A4 (A2 (A5 Z Z) Z (A2 (A5 Z Z) Z (A2 (A5 Z Z) Z (A6 ?_))))
   refine k1 (k2 (k2 ?_))
   refine A4 (A2 (A3 Z Z) Z (A2 (A3 Z Z) Z (A2 (x6 Z Z (by omega) (by omega)) Z (A2 (A3 Z Z) Z (C3 (hasPrefix_ok (l.drop i) pre) Z Z Z ?_))))); rintro _ rfl; refine A2 (F4 Z) Z (A6 ?_)
   refine k1 ?_
   refine B2 rfl (fun ht => ?_) (fun ht => ?_)
   ·rw [decide_eq_true h] at ht; cases ht
   refine k5 (k1 (k2 ?_))
   refine A4 (A2 (A3 Z Z) Z (A2 (A3 Z Z) Z (A2 (A3 Z Z) Z (A2 (F5 Z) Z (A2 (C0 Z Z (by omega)) Z (C3 (hr) Z Z Z ?_)))))); rintro _ rfl; refine A2 (A3 Z Z) Z (A2 (B3 Z Z) Z (A2 (B3 Z Z) Z (A2 (B3 Z Z) Z (A2 (B3 Z Z) Z (A2 (A5 Z Z) Z (A2 (A5 Z Z) Z (A2 (A5 Z Z) Z (A2 (A5 Z Z) Z (A6 ?_)))))))))
   refine k1 (k2 ?_)
   refine A4 (A2 (A3 Z Z) Z (A2 (A3 Z Z) Z (A2 (A3 Z Z) Z (A2 (A5 Z Z) Z (A2 (A5 Z Z) Z (A2 (A5 Z Z) Z (A6 ?_)))))))
   refine k1 (k10 ?_)
   refine B6 (rs := [F0 0, F0 0, F9 false]) (ret3 Z Z Z Z Z Z Z) ?_
   unfold spanR; rw [hS]
  | some q =>
   obtain ⟨a, n, e⟩ := q
   have hr : FnOk Tryz.prog 258 [G6 l, F0 ((i + pre.length : Nat) : Int)] (fun rs => rs = [F0 a, F0 n, F0 ((i + pre.length + e : Nat) : Int), F9 true]) := by unfold rngR at hr; rw [hg] at hr; exact hr
   rw [show ((i + pre.length : Nat) : Int) = (i : Int) + (pre.length : Int) by omega] at hr
   have hS : Y6 l i pre = some (a, n, i + pre.length + e) := by unfold Y6; rw [if_pos h, hg]
   refine FnOk.intro Tryz.func254 (by decide) Z Z Z Z ?_
   refine k2 ?_
   refine A4 (A2 (A5 Z Z) Z (A2 (A5 Z Z) Z (A2 (A5 Z Z) Z (A6 ?_))))
   refine k1 (k2 (k2 ?_))
   refine A4 (A2 (A3 Z Z) Z (A2 (A3 Z Z) Z (A2 (x6 Z Z (by omega) (by omega)) Z (A2 (A3 Z Z) Z (C3 (hasPrefix_ok (l.drop i) pre) Z Z Z ?_))))); rintro _ rfl; refine A2 (F4 Z) Z (A6 ?_)
   refine k1 ?_
   refine B2 rfl (fun ht => ?_) (fun ht => ?_)
   ·rw [decide_eq_true h] at ht; cases ht
   refine k5 (k1 (k2 ?_))
   refine A4 (A2 (A3 Z Z) Z (A2 (A3 Z Z) Z (A2 (A3 Z Z) Z (A2 (F5 Z) Z (A2 (C0 Z Z (by omega)) Z (C3 (hr) Z Z Z ?_)))))); rintro _ rfl; refine A2 (A3 Z Z) Z (A2 (B3 Z Z) Z (A2 (B3 Z Z) Z (A2 (B3 Z Z) Z (A2 (B3 Z Z) Z (A2 (A5 Z Z) Z (A2 (A5 Z Z) Z (A2 (A5 Z Z) Z (A2 (A5 Z Z) Z (A6 ?_)))))))))
   refine k1 (k2 ?_)
   refine A4 (A2 (A3 Z Z) Z (A2 (A3 Z Z) Z (A2 (A3 Z Z) Z (A2 (A5 Z Z) Z (A2 (A5 Z Z) Z (A2 (A5 Z Z) Z (A6 ?_)))))))
   refine k1 (k10 ?_)
   refine B6 (rs := [F0 a, F0 ((i + pre.length + e : Nat) : Int), F9 true]) (ret3 Z Z Z Z Z Z Z) ?_
   unfold spanR; rw [hS]
 ·have hS : Y6 l i pre = none := by unfold Y6; rw [if_neg h]
  refine FnOk.intro Tryz.func254 (by decide) Z Z Z Z ?_
  refine k2 ?_
  refine A4 (A2 (A5 Z Z) Z (A2 (A5 Z Z) Z (A2 (A5 Z Z) Z (A6 ?_))))
  refine k1 (k2 (k2 ?_))
  refine A4 (A2 (A3 Z Z) Z (A2 (A3 Z Z) Z (A2 (x6 Z Z (by omega) (by omega)) Z (A2 (A3 Z Z) Z (C3 (hasPrefix_ok (l.drop i) pre) Z Z Z ?_))))); rintro _ rfl; refine A2 (F4 Z) Z (A6 ?_)
  refine k1 ?_
  refine B2 rfl (fun ht => ?_) (fun ht => ?_)
  ·refine k2 ?_
   refine A4 (A2 (A5 Z Z) Z (A2 (A5 Z Z) Z (A2 (A5 Z Z) Z (A6 ?_))))
   refine k1 (k10 (k11 ?_))
   refine B6 (rs := [F0 0, F0 0, F9 false]) (ret3 Z Z Z Z Z Z Z) ?_
   unfold spanR; rw [hS]
  ·rw [decide_eq_false h] at ht; cases ht
def methC : UInt8 × Nat → Nat → Cell
 | (c, _), 0 => .v (.int .u8 c.toNat)
 | (_, f), _ => .v (.func (.func f) #[] #[])
def meths : List (UInt8 × Nat) := [(64, 215), (32, 216), (45, 216), (43, 216), (92, 217)]
def chooseF (c : UInt8) : Value := match meths.find? fun m => decide (m.1 = c) with
 | some m => .func (.func m.2) #[] #[]
 | none => .nilFunc
theorem find_none {c : UInt8} : ∀ (l : List (UInt8 × Nat)) (k : Nat), (∀ j m, j < k → l[j]? = some m → m.1 ≠ c) → l.find? (fun m => decide (m.1 = c)) = (l.drop k).find? fun m => decide (m.1 = c)
 | [], k, _ => by simp
 | x :: r, 0, _ => rfl
 | x :: r, k + 1, h => by
  have h0 : x.1 ≠ c := h 0 x (by omega) rfl
  rw [List.find?_cons_of_neg (by simpa using h0), List.drop_succ_cons]
  exact find_none r k fun j m hj hm => h (j + 1) m (by omega) (by simpa using hm)
theorem choose_ok (c : UInt8) : FnOk Tryz.prog 148 [pByte c] (fun rs => rs = [.one (.v (chooseF c))]) := by
 have hm5 : meths.length = 5 := rfl
 refine FnOk.intro Tryz.func148 (by decide) Z Z Z Z ?_
 refine k2 ?_
 refine A4 (A2 (A5 Z Z) Z (A6 ?_))
 refine k1 (k2 (k2 ?_))
 refine A4 (A2 (F6 Z) Z (A2 (F6 Z) Z (A2 (F6 Z) Z (A2 (F6 Z) Z (A2 (F6 Z) Z (A2 (E0 (c := methC) (ys := meths) (E6 Z Z Z Z (E6 Z Z Z Z (E6 Z Z Z Z (E6 Z Z Z Z (E6 Z Z Z Z I6))))) Z Z Z) Z (A2 (E1 Z (.pure _ _ _ _)) Z (A2 (A3 Z Z) Z (A6 ?_)))))))))
 refine k1 (k3 ?_)
 refine E2 (X := Nat) (fun k => ([(0, .s (pByte c).s1), (10, D3 (UInt8 × Nat) 2 methC meths), (11, C2 5), (12, C2 k)], [])) (fun k => k ≤ 5 ∧ ∀ j m, j < k → meths[j]? = some m → m.1 ≠ c) (fun k => 5 - k) 0 ⟨by omega, by omega⟩ (Sees.of ⟨le1 rfl, le1 rfl, le1 rfl, le1 rfl, trivial⟩ trivial) ?_
 rintro k ⟨hk, hne⟩
 dsimp only at hk hne ⊢
 refine k2 ?_
 refine A4 (A2 (E3 Z Z) Z (A6 ?_))
 refine k1 (k2 ?_)
 refine B2 rfl (fun ht => ?_) (fun ht => ?_)
 ·have hlt : k < 5 := by have := A0 ht; omega
  obtain ⟨m, hm⟩ : ∃ m, meths[k]? = some m := ⟨meths[k]'(by omega), List.getElem?_eq_getElem _⟩
  obtain ⟨m1, m2⟩ := m
  refine k5 (k1 (k2 (k3 (k2 ?_))))
  refine A4 (A2 (B5 Z (.pure _ _ _ _) Z (by omega) hm) Z (A2 (E5 Z Z) Z (C9 (G3 4 Z) Z (E9 (B7 TySz.out Z Z Z Z Z Z) (A6 ?_)))))
  refine k1 (k2 ?_)
  refine A4 (A2 (A7 Z) Z (A2 (A9 Z Z Z) Z (A2 (A3 Z Z) Z (A2 (I8 Z Z) Z (A6 ?_)))))
  refine k1 ?_
  refine B2 rfl (fun ht => ?_) (fun ht => ?_)
  ·have he : (m1.toNat : Int) = (c.toNat : Int) := A0 ht
   have he : m1 = c := UInt8.toNat_inj.1 (by omega)
   refine k2 ?_
   refine A4 (A2 (A7 Z) Z (A2 (A9 Z Z Z) Z (A2 (A5 Z Z) Z (A6 ?_))))
   refine k1 (k10 (k12 (k11 (k11 (k12 (k11 ?_))))))
   refine B6 (H1 Z Z Z) ?_
   unfold chooseF
   rw [find_none meths k hne, List.drop_eq_getElem_cons (by omega), List.find?_cons_of_pos]
   ·have : meths[k]'(by omega) = (m1, m2) := (List.getElem?_eq_some_iff.1 hm).2
    rw [this]; rfl
   ·have : meths[k]'(by omega) = (m1, m2) := (List.getElem?_eq_some_iff.1 hm).2
    rw [this]; simpa using he
  ·have he : ¬ (m1.toNat : Int) = (c.toNat : Int) := A1 ht
   refine k5 (k4 (k1 ?_))
   refine A4 (A2 (C0 Z Z (by omega)) Z (A2 (A3 Z Z) Z (A6 ?_)))
   refine k1 ?_
   refine ⟨k + 1, ⟨by omega, fun j x hj hx => ?_⟩, by omega, Sees.of ⟨le1 rfl, le1 rfl, le1 rfl, le1 rfl, trivial⟩ trivial⟩
   by_cases hjk : j = k
   ·subst hjk
    rw [hm] at hx; cases hx
    intro e; exact he (by rw [show m1 = c from e])
   ·exact hne j x (by omega) hx
 ·have hk5 : k = 5 := by have := A1 ht; omega
  subst hk5
  refine k6 (k2 ?_)
  refine A4 (A2 (A5 Z Z) Z (A6 ?_))
  refine k1 (k10 ?_)
  refine B6 (H1 Z Z Z) ?_
  unfold chooseF
  rw [find_none meths 5 hne]; rfl
def phunkN : PatchHunk → Nat → Cell
 | h, 0 => .v (.int .i64 h.Old)
 | h, 1 => .v (.int .i64 h.New)
 | h, _ => match h.Lines with
  | [] => .v (.slice none 0 0)
  | _ :: _ => .list PatchLine 2 plineC h.Lines
abbrev zBox : Ob := .box [.p (.v (.string ⟨#[]⟩)), .p (.v (.string ⟨#[]⟩)), .p (.v (.slice none 0 0))]
abbrev psBox (o n : Str) : Ob := .box [.p (.v (.string ⟨o.toArray⟩)), .p (.v (.string ⟨n.toArray⟩)), .mut 731]
abbrev X9 (o n : Str) (hs : List PatchHunk) : Obs := [(730, psBox o n), (731, .grow 29 PatchHunk 3 phunkN hs), (2, zBox)]
abbrev U0 (o n : Str) (hs : List PatchHunk) (a b : Int) (ls : List PatchLine) : Obs :=
 [(730, psBox o n), (731, .growA 29 PatchHunk 3 phunkN hs (hs.length - 1) [.p (.v (.int .i64 a)), .p (.v (.int .i64 b)), .mut 732]), (732, .grow 36 PatchLine 2 plineC ls), (2, zBox)]
theorem last_shut {gf : Fr} (o n : Str) : AL.Met Tryz.prog 255 [.one (.ref 730 0)] gf (X9 o n []) [] (fun rs ob' => rs = [.one (.p (.v (.pointer none)))] ∧ ob' = X9 o n []) := by
 refine AL.Met.intro Tryz.func255 (by decide) Z Z Z ?_
 refine k2 ?_
 refine A4 (A2 (A5 Z Z) Z (A6 ?_))
 refine k1 (k2 (k2 ?_))
 refine A4 (A2 (A3 Z Z) Z (A2 (B4 Z) Z (A2 (A7 Z) Z (A2 (A7 Z) Z (A2 (A9 Z Z Z) Z (A2 (n_len_g Z Z) Z (A2 (I8 Z Z) Z (A6 ?_))))))))
 refine k1 ?_
 refine B2 rfl (fun ht => ?_) (fun ht => ?_)
 rotate_left
 ·exact absurd rfl (A1 ht)
 refine k2 ?_
 refine A4 (A2 (A5 Z Z) Z (A6 ?_))
 refine k1 (k10 (k11 ?_))
 exact G1 (R4 rfl rfl) (by repeat (first | exact C6 | refine C5 rfl ?_ | refine D2 _ ?_)) (fun _ _ h => h) ⟨rfl, rfl⟩
theorem last_open {gf : Fr} (o n : Str) (hs : List PatchHunk) (a b : Int) (ls : List PatchLine) (h0 : 0 < hs.length) (hl : hs.length ≤ 1073741824) :
  AL.Met Tryz.prog 255 [.one (.ref 730 0)] gf (U0 o n hs a b ls) [] (fun rs ob' => rs = [.one (.mref 731 3 ((hs.length : Int) - 1).toNat 0)] ∧ ob' = U0 o n hs a b ls) := by
 refine AL.Met.intro Tryz.func255 (by decide) Z Z Z ?_
 refine k2 ?_
 refine A4 (A2 (A5 Z Z) Z (A6 ?_))
 refine k1 (k2 (k2 ?_))
 refine A4 (A2 (A3 Z Z) Z (A2 (B4 Z) Z (A2 (A7 Z) Z (A2 (A7 Z) Z (A2 (A9 Z Z Z) Z (A2 (n_len_gA Z Z) Z (A2 (I8 Z Z) Z (A6 ?_))))))))
 refine k1 ?_
 refine B2 rfl (fun ht => ?_) (fun ht => ?_)
 ·exact absurd (A0 ht) (by omega)
 refine k5 (k1 (k2 ?_))
 refine C7 (by kernel_rfl) (by kernel_rfl) (A8 (A3 Z Z) Z Z (A8 (B4 Z) Z Z (A8 (A7 Z) Z Z (A8 (A7 Z) Z Z (A8 (A9 Z Z Z) Z Z (A8 (A3 Z Z) Z Z (A8 (B4 Z) Z Z (A8 (A7 Z) Z Z (A8 (A7 Z) Z Z (A8 (A9 Z Z Z) Z Z (A8 (n_len_gA Z Z) Z Z (A8 (I1 Z Z (by omega)) Z Z (A8 (n_indexAddr_gA Z Z Z (by omega) (by omega)) Z Z (A8 (A5 Z Z) Z Z (H2 ?_)))))))))))))))
 refine k1 (k10 ?_)
 exact G1 (R4 rfl rfl) (by repeat (first | exact C6 | refine C5 rfl ?_ | refine D2 _ ?_)) (fun _ _ h => h) ⟨rfl, rfl⟩
theorem header_met {gf : Fr} (o n : Str) (hs : List PatchHunk) (l : Str) (hl : hs.length ≤ 16777216) (hll : l.length ≤ 16777216) :
  AL.Met Tryz.prog 215 [.one (.ref 730 0), .one (.p (.v (.string ⟨l.toArray⟩)))] gf (X9 o n hs) [731]
   (fun rs ob' => match r9 l with
    | none => rs = [tBo false] ∧ ob' = [(2, zBox)]
    | some (a, _, b, _) => rs = [tBo true] ∧ ob' = X9 o n (hs ++ [⟨a, b, []⟩])) := by
 have s1 := stspan_ok l 0 [64, 64, 32, 45] (Nat.zero_le _) hll
 cases hp1 : Y6 l 0 [64, 64, 32, 45] with
 | none =>
  have hH : r9 l = none := by unfold r9; rw [hp1]
  rw [hH]
  unfold spanR at s1
  rw [hp1] at s1
  refine AL.Met.intro Tryz.func215 (by decide) Z Z Z ?_
  refine k2 ?_
  refine A4 (A2 (A5 Z Z) Z (A6 ?_))
  refine k1 (k2 ?_)
  refine A4 (A2 (A3 Z Z) Z (C3 (s1) Z Z Z ?_)); rintro _ rfl; refine A2 (A3 Z Z) Z (A2 (B3 Z Z) Z (A2 (B3 Z Z) Z (A2 (B3 Z Z) Z (A2 (A5 Z Z) Z (A2 (A5 Z Z) Z (A2 (A5 Z Z) Z (A6 ?_)))))))
  refine k1 (k2 (k2 ?_))
  refine A4 (A2 (A3 Z Z) Z (A2 (F4 Z) Z (A6 ?_)))
  refine k1 ?_
  refine B2 rfl (fun ht => ?_) (fun ht => ?_)
  ·refine k2 ?_
   refine F8 (Sees.forget 731) ?_
   refine A4 (A2 (A5 Z Z) Z (A6 ?_))
   refine k1 (k10 (k11 ?_))
   exact G1 (R4 rfl rfl) (by repeat (first | exact C6 | refine C5 rfl ?_ | refine D2 _ ?_)) (ObIn.spec (ob' := [(2, zBox)]) ⟨rfl, trivial⟩) ⟨rfl, rfl⟩
  ·cases ht
 | some q =>
  obtain ⟨a, m, i⟩ := q
  unfold spanR at s1
  rw [hp1] at s1
  have hi := spanAt_le (Nat.zero_le _) hp1
  have s2 := stspan_ok l i [32, 43] hi hll
  cases hp2 : Y6 l i [32, 43] with
  | none =>
   have hH : r9 l = none := by unfold r9; rw [hp1]; dsimp only; rw [hp2]
   rw [hH]
   unfold spanR at s2
   rw [hp2] at s2
   refine AL.Met.intro Tryz.func215 (by decide) Z Z Z ?_
   refine k2 ?_
   refine A4 (A2 (A5 Z Z) Z (A6 ?_))
   refine k1 (k2 ?_)
   refine A4 (A2 (A3 Z Z) Z (C3 (s1) Z Z Z ?_)); rintro _ rfl; refine A2 (A3 Z Z) Z (A2 (B3 Z Z) Z (A2 (B3 Z Z) Z (A2 (B3 Z Z) Z (A2 (A5 Z Z) Z (A2 (A5 Z Z) Z (A2 (A5 Z Z) Z (A6 ?_)))))))
   refine k1 (k2 (k2 ?_))
   refine A4 (A2 (A3 Z Z) Z (A2 (F4 Z) Z (A6 ?_)))
   refine k1 ?_
   refine B2 rfl (fun ht => ?_) (fun ht => ?_)
   ·cases ht
   refine k5 (k1 (k2 ?_))
   refine A4 (A2 (A3 Z Z) Z (A2 (A3 Z Z) Z (C3 (s2) Z Z Z ?_))); rintro _ rfl; refine A2 (A3 Z Z) Z (A2 (B3 Z Z) Z (A2 (B3 Z Z) Z (A2 (B3 Z Z) Z (A2 (A5 Z Z) Z (A2 (A5 Z Z) Z (A2 (A5 Z Z) Z (A6 ?_)))))))
   refine k1 (k2 (k2 ?_))
   refine A4 (A2 (A3 Z Z) Z (A2 (F4 Z) Z (A2 (A3 Z Z) Z (I5 Z Z Z (by simp) Z (I5 Z Z Z (by simp) Z (I5 Z Z Z (by simp) Z (I5 Z Z Z (by simp) Z (A2 (n_pick_t Z (rfl) Z) Z (A6 ?_)))))))))
   refine k1 ?_
   refine B2 rfl (fun ht => ?_) (fun ht => ?_)
   ·refine k2 ?_
    refine F8 (Sees.forget 731) ?_
    refine A4 (A2 (A5 Z Z) Z (A6 ?_))
    refine k1 (k10 (k11 ?_))
    exact G1 (R4 rfl rfl) (by repeat (first | exact C6 | refine C5 rfl ?_ | refine D2 _ ?_)) (ObIn.spec (ob' := [(2, zBox)]) ⟨rfl, trivial⟩) ⟨rfl, rfl⟩
   ·cases ht
  | some q =>
   obtain ⟨b, k, j⟩ := q
   unfold spanR at s2
   rw [hp2] at s2
   have hj := spanAt_le hi hp2
   have hH : r9 l = if l.drop j = [32, 64, 64] then some (a, m, b, k) else none := by unfold r9; rw [hp1]; dsimp only; rw [hp2]
   rw [hH]
   refine AL.Met.intro Tryz.func215 (by decide) Z Z Z ?_
   refine k2 ?_
   refine A4 (A2 (A5 Z Z) Z (A6 ?_))
   refine k1 (k2 ?_)
   refine A4 (A2 (A3 Z Z) Z (C3 (s1) Z Z Z ?_)); rintro _ rfl; refine A2 (A3 Z Z) Z (A2 (B3 Z Z) Z (A2 (B3 Z Z) Z (A2 (B3 Z Z) Z (A2 (A5 Z Z) Z (A2 (A5 Z Z) Z (A2 (A5 Z Z) Z (A6 ?_)))))))
   refine k1 (k2 (k2 ?_))
   refine A4 (A2 (A3 Z Z) Z (A2 (F4 Z) Z (A6 ?_)))
   refine k1 ?_
   refine B2 rfl (fun ht => ?_) (fun ht => ?_)
   ·cases ht
   refine k5 (k1 (k2 ?_))
   refine A4 (A2 (A3 Z Z) Z (A2 (A3 Z Z) Z (C3 (s2) Z Z Z ?_))); rintro _ rfl; refine A2 (A3 Z Z) Z (A2 (B3 Z Z) Z (A2 (B3 Z Z) Z (A2 (B3 Z Z) Z (A2 (A5 Z Z) Z (A2 (A5 Z Z) Z (A2 (A5 Z Z) Z (A6 ?_)))))))
   refine k1 (k2 (k2 ?_))
   refine A4 (A2 (A3 Z Z) Z (A2 (F4 Z) Z (A2 (A3 Z Z) Z (B0 Z Z Z Z (fun hg => by rw [hg]; exact A3 Z Z) ?_)))); refine B0 Z Z Z Z (fun hg => by rw [hg]; exact A3 Z Z) ?_; refine B0 Z Z Z Z (fun hg => by have hq := hg; (try simp at hq); rw [hg]; exact x6 Z Z (by omega) (by omega)) ?_; refine B0 Z Z Z Z (fun hg => by rw [hg]; exact l9 Z Z) ?_; refine A2 (B1 Z (fun h => by first | rfl | (rw [h]; rfl)) (fun h => by first | rfl | (rw [h]; rfl))) Z ?_; refine A6 ?_
   refine k1 ?_
   refine B2 rfl (fun ht => ?_) (fun ht => ?_)
   ·have hd : ¬ l.drop j = [32, 64, 64] := by simpa using ht
    rw [if_neg hd]
    refine k2 ?_
    refine F8 (Sees.forget 731) ?_
    refine A4 (A2 (A5 Z Z) Z (A6 ?_))
    refine k1 (k10 (k11 ?_))
    exact G1 (R4 rfl rfl) (by repeat (first | exact C6 | refine C5 rfl ?_ | refine D2 _ ?_)) (ObIn.spec (ob' := [(2, zBox)]) ⟨rfl, trivial⟩) ⟨rfl, rfl⟩
   ·have hd : l.drop j = [32, 64, 64] := by simpa using ht
    rw [if_pos hd]
    refine k5 (k1 (k2 ?_))
    refine A4 (A2 (A3 Z Z) Z (A2 (A3 Z Z) Z (A2 (B4 Z) Z (A2 (A7 Z) Z (A2 (A7 Z) Z (A2 (A9 Z Z Z) Z (A2 (A3 Z Z) Z (A2 (A3 Z Z) Z (A2 (F6 Z) Z (A2 (E0 (c := phunkN) (ys := [⟨a, b, []⟩]) (E6 Z Z Z Z I6) Z Z Z) Z (C9 (y9 Z Z Z (.pure _ _ _ _) (by (simp; omega)) Z) Z (A2 (B4 Z) Z (A2 (A7 Z) Z (A2 (A7 Z) Z (E9 (B7 TySz.out Z Z Z Z Z Z) (A6 ?_))))))))))))))))
    refine k1 (k2 ?_)
    refine A4 (A2 (A5 Z Z) Z (A6 ?_))
    refine k1 (k10 ?_)
    exact G1 (R4 rfl rfl) (by repeat (first | exact C6 | refine C5 rfl ?_ | refine D2 _ ?_)) (ObIn.spec (ob' := X9 o n (hs ++ [⟨a, b, []⟩])) ⟨rfl, rfl, rfl, trivial⟩) ⟨rfl, rfl⟩
theorem content_shut {gf : Fr} (o n l : Str) : AL.Met Tryz.prog 216 [.one (.ref 730 0), .one (.p (.v (.string ⟨l.toArray⟩)))] gf (X9 o n []) [732] (fun rs ob' => rs = [tBo false] ∧ ob' = [(2, zBox)]) := by
 refine AL.Met.intro Tryz.func216 (by decide) Z Z Z ?_
 refine k2 ?_
 refine A4 (A2 (A5 Z Z) Z (A6 ?_))
 refine k1 (k2 ?_)
 refine A4 (A2 (A3 Z Z) Z (R5 (last_shut o n) Z Z Z ?_)); rintro _ _ ⟨rfl, rfl⟩; refine A2 (A5 Z Z) Z (A6 ?_)
 refine k1 (k2 (k2 ?_))
 refine A4 (A2 (A3 Z Z) Z (A2 (n_eql_ptr0 Z (by kernel_rfl)) Z (A6 ?_)))
 refine k1 ?_
 refine B2 rfl (fun ht => ?_) (fun ht => ?_)
 ·refine k2 ?_
  refine F8 (Sees.forget 732) ?_
  refine A4 (A2 (A5 Z Z) Z (A6 ?_))
  refine k1 (k10 (k11 ?_))
  exact G1 (R4 rfl rfl) (by repeat (first | exact C6 | refine C5 rfl ?_ | refine D2 _ ?_)) (ObIn.spec (ob' := [(2, zBox)]) ⟨rfl, trivial⟩) ⟨rfl, rfl⟩
 ·cases ht
abbrev gfP (F : Nat) (l : Str) (R : List Str) (k : Nat) : Fr := [(1000060, P4 false), (1000061, .s (.one (.clo F [] []))), (1000062, .s (.one (.ref 730 0))), (1000063, O7 l), (1000004, .s (.one (.ref 730 0))), (1000002, .s (.one (.ref 2 0))), (1000046, D3 Str 1 I2 R), (1000047, C2 R.length), (1000048, C2 k)]
theorem content_open (F : Nat) (R : List Str) (k : Nat) (o n : Str) (hs : List PatchHunk) (a b : Int) (ls : List PatchLine) (c : UInt8) (r : Str) (h0 : 0 < hs.length) (hl : hs.length ≤ 16777216) (hls : ls.length ≤ 16777216) (hr : r.length ≤ 16777216) :
  AL.Met Tryz.prog 216 [.one (.ref 730 0), .one (.p (.v (.string ⟨(c :: r).toArray⟩)))] (gfP F (c :: r) R k) (U0 o n hs a b ls) [732]
   (fun rs ob' => rs = [tBo true] ∧ ob' = U0 o n hs a b (ls ++ [⟨c, r ++ [10]⟩])) := by
 refine AL.Met.intro Tryz.func216 (by decide) Z Z Z ?_
 refine k2 ?_
 refine A4 (A2 (A5 Z Z) Z (A6 ?_))
 refine k1 (k2 ?_)
 refine A4 (A2 (A3 Z Z) Z (R5 (last_open o n hs a b ls h0 (by omega)) Z Z Z ?_)); rintro _ _ ⟨rfl, rfl⟩; refine A2 (A5 Z Z) Z (A6 ?_)
 refine k1 (k2 (k2 ?_))
 refine A4 (A2 (A3 Z Z) Z (A2 (n_eql_mref0 Z (by kernel_rfl)) Z (A6 ?_)))
 refine k1 ?_
 refine B2 rfl (fun ht => ?_) (fun ht => ?_)
 ·cases ht
 refine k5 (k1 (k2 ?_))
 refine n4 [15, 12] [[], [12], [15, 12]] [(12, ([732], [14])), (15, ([], []))] [(0, []), (1, []), (2, []), (3, []), (4, []), (5, []), (6, []), (7, []), (8, []), (9, []), (10, []), (11, []), (12, []), (13, [12]), (14, [12]), (15, [12])] [(0, [12])] (by kernel_rfl) (by kernel_rfl) (J8 Z Z Z Z Z (A3 Z Z) (J8 Z Z Z Z Z (A3 Z Z) (J8 Z Z Z Z Z (O2 Z) (J8 Z Z Z Z Z (H4 Z) (J8 Z Z Z Z Z (n_load_gA Z Z (by first | rfl | omega) Z) ?_))))); refine J8 Z Z Z Z Z (A3 Z Z) (J8 Z Z Z Z Z (K0 Z Z (by omega) (show (c :: r)[(0 : Int).toNat]? = some c from Z)) (J8 Z Z Z Z Z (A3 Z Z) (J8 Z Z Z Z Z (x6 Z Z (by (first | omega | (simp only [List.length_cons]; omega))) (by (first | omega | (simp only [List.length_cons]; omega)))) (J8 Z Z Z Z Z (H3 Z Z (by (simp; omega))) (J8 Z Z Z Z Z (F6 Z) (J8 Z Z Z Z Z (E0 (c := plineC) (ys := [⟨c, r ++ [10]⟩]) (E6 Z Z Z Z I6) Z Z Z) (w_eff Z Z Z Z Z (r_turn (fun frc hU => y9 (opvU hU Z) Z (opvU hU Z) (.pure _ _ _ _) (by (simp; omega)) Z)) Z (J8 Z Z Z Z Z (O2 Z) (J8 Z Z Z Z Z (H4 Z) (w_eff Z Z Z Z Z (r_eff (fun frc hU => e_store_gA TySz.out (opvU hU Z) Z (by first | rfl | omega) (opvU hU Z) Z Z Z)) Z ?_)))))))))); refine w_nil rfl rfl ?_ ?_
 ·refine R9 Z Z Z Z Z (A3 Z Z) ?_; exact x_nil
 refine k1 (k2 ?_)
 refine A4 (A2 (A5 Z Z) Z (A6 ?_))
 refine k1 (k10 ?_)
 exact G1 (R4 rfl rfl) (by repeat (first | exact C6 | refine C5 rfl ?_ | refine D2 _ ?_)) (ObIn.spec (ob' := U0 o n hs a b (ls ++ [⟨c, r ++ [10]⟩])) ⟨rfl, rfl, rfl, rfl, trivial⟩) ⟨rfl, rfl⟩
theorem unended_shut {gf : Fr} (o n l : Str) : AL.Met Tryz.prog 217 [.one (.ref 730 0), .one (.p (.v (.string ⟨l.toArray⟩)))] gf (X9 o n []) [] (fun rs ob' => rs = [tBo false] ∧ ob' = [(2, zBox)]) := by
 refine AL.Met.intro Tryz.func217 (by decide) Z Z Z ?_
 refine k2 ?_
 refine A4 (A2 (A5 Z Z) Z (A6 ?_))
 refine k1 (k2 ?_)
 refine A4 (A2 (A3 Z Z) Z (R5 (last_shut o n) Z Z Z ?_)); rintro _ _ ⟨rfl, rfl⟩; refine A2 (A5 Z Z) Z (A6 ?_)
 refine k1 (k2 (k2 ?_))
 refine A4 (A2 (A3 Z Z) Z (A2 (n_eql_ptr0 Z (by kernel_rfl)) Z (A2 (A3 Z Z) Z (I5 Z Z Z (by simp) Z (I5 Z Z Z (by simp) Z (I5 Z Z Z (by simp) Z (I5 Z Z Z (by simp) Z (I5 Z Z Z (by simp) Z (I5 Z Z Z (by simp) Z (A2 (n_pick_t Z (rfl) Z) Z (A2 (A3 Z Z) Z (I5 Z Z Z (by simp) Z (I5 Z Z Z (by simp) Z (A2 (n_pick_t Z (rfl) Z) Z (A6 ?_)))))))))))))))
 refine k1 ?_
 refine B2 rfl (fun ht => ?_) (fun ht => ?_)
 ·refine k2 ?_
  refine A4 (A2 (A5 Z Z) Z (A6 ?_))
  refine k1 (k10 (k11 ?_))
  exact G1 (R4 rfl rfl) (by repeat (first | exact C6 | refine C5 rfl ?_ | refine D2 _ ?_)) (ObIn.spec (ob' := [(2, zBox)]) ⟨rfl, trivial⟩) ⟨rfl, rfl⟩
 ·cases ht
theorem unended_open {gf : Fr} (o n : Str) (hs : List PatchHunk) (a b : Int) (ls : List PatchLine) (l : Str) (h0 : 0 < hs.length) (hl : hs.length ≤ 16777216) (hls : ls.length ≤ 16777216) (htx : ∀ x ∈ ls, x.Text.length ≤ 1073741824) :
  AL.Met Tryz.prog 217 [.one (.ref 730 0), .one (.p (.v (.string ⟨l.toArray⟩)))] gf (U0 o n hs a b ls) []
   (fun rs ob' => match ls.getLast? with
    | none => rs = [tBo false] ∧ ob' = [(2, zBox)]
    | some x => if l = noNl then rs = [tBo true] ∧ ob' = U0 o n hs a b (ls.dropLast ++ [⟨x.Kind, trimS x.Text⟩]) else rs = [tBo false] ∧ ob' = [(2, zBox)]) := by
 cases hx : ls.getLast? with
 | none =>
  have hn : ls = [] := List.getLast?_eq_none_iff.1 hx
  subst hn
  refine AL.Met.intro Tryz.func217 (by decide) Z Z Z ?_
  refine k2 ?_
  refine A4 (A2 (A5 Z Z) Z (A6 ?_))
  refine k1 (k2 ?_)
  refine A4 (A2 (A3 Z Z) Z (R5 (last_open o n hs a b [] h0 (by omega)) Z Z Z ?_)); rintro _ _ ⟨rfl, rfl⟩; refine A2 (A5 Z Z) Z (A6 ?_)
  refine k1 (k2 (k2 ?_))
  refine A4 (A2 (A3 Z Z) Z (A2 (n_eql_mref0 Z (by kernel_rfl)) Z (A2 (A3 Z Z) Z (E8 Z Z Z Z (A2 (A3 Z Z) Z (E8 Z Z Z Z (A2 (O2 Z) Z (E8 Z Z Z Z (A2 (H4 Z) Z (E8 Z Z Z Z (A2 (n_load_gA Z Z (by first | rfl | omega) Z) Z ?_))))))))))); refine E8 Z Z Z Z (A2 (n_len_g Z Z) Z (E8 Z Z Z Z (A2 (I8 Z Z) Z (A2 (T6 Z (rfl) Z) Z (A2 (A3 Z Z) Z (I5 Z Z Z (by simp) Z (I5 Z Z Z (by simp) Z (A2 (n_pick_t Z ((by simp)) Z) Z (A6 ?_)))))))))
  refine k1 ?_
  refine B2 rfl (fun ht => ?_) (fun ht => ?_)
  ·refine k2 ?_
   refine A4 (A2 (A5 Z Z) Z (A6 ?_))
   refine k1 (k10 (k11 ?_))
   exact G1 (R4 rfl rfl) (by repeat (first | exact C6 | refine C5 rfl ?_ | refine D2 _ ?_)) (ObIn.spec (ob' := [(2, zBox)]) ⟨rfl, trivial⟩) ⟨rfl, rfl⟩
  ·cases ht
 | some x =>
  have hne : ls ≠ [] := fun e => by rw [e] at hx; cases hx
  have hlen := List.length_pos_iff.2 hne
  have hv : ls[((ls.length : Int) - 1).toNat]? = some x := by rw [show ((ls.length : Int) - 1).toNat = ls.length - 1 by omega, ← List.getLast?_eq_getElem?]; exact hx
  have hset : ∀ y : PatchLine, ls.set (((ls.length : Int) - 1).toNat) y = ls.dropLast ++ [y] := by
   intro y
   rw [show ((ls.length : Int) - 1).toNat = ls.length - 1 by omega]
   have hd := List.dropLast_concat_getLast hne
   conv => lhs; rw [← hd]
   rw [List.set_append_right _ _ (by rw [List.length_dropLast, List.length_append, List.length_dropLast]; simp)]
   simp
  have hxt := htx x (List.mem_of_getElem? hv)
  have htr := trimSuffix_ok x.Text [10] (by omega)
  rw [trimSuffix_lf, show bareOf x.Text = trimS x.Text from rfl] at htr
  have hne0 : decide ((ls.length : Int) = 0) = false := decide_eq_false (by omega)
  refine AL.Met.intro Tryz.func217 (by decide) Z Z Z ?_
  refine k2 ?_
  refine A4 (A2 (A5 Z Z) Z (A6 ?_))
  refine k1 (k2 ?_)
  refine A4 (A2 (A3 Z Z) Z (R5 (last_open o n hs a b ls h0 (by omega)) Z Z Z ?_)); rintro _ _ ⟨rfl, rfl⟩; refine A2 (A5 Z Z) Z (A6 ?_)
  refine k1 (k2 (k2 ?_))
  refine A4 (A2 (A3 Z Z) Z (A2 (n_eql_mref0 Z (by kernel_rfl)) Z (A2 (A3 Z Z) Z (E8 Z Z Z Z (A2 (A3 Z Z) Z (E8 Z Z Z Z (A2 (O2 Z) Z (E8 Z Z Z Z (A2 (H4 Z) Z (E8 Z Z Z Z (A2 (n_load_gA Z Z (by first | rfl | omega) Z) Z ?_))))))))))); refine E8 Z Z Z Z (A2 (n_len_g Z Z) Z (E8 Z Z Z Z (A2 (I8 Z Z) Z (A2 (T6 Z (rfl) Z) Z (A2 (A3 Z Z) Z (E8 Z Z Z hne0 (A2 (A3 Z Z) Z (E8 Z Z Z hne0 (A2 (l9 Z Z) Z (A2 (T6 Z (hne0) Z) Z (A6 ?_)))))))))))
  refine k1 ?_
  refine B2 rfl (fun ht => ?_) (fun ht => ?_)
  ·have hl2 : l ≠ noNl := A0 ht
   refine k2 ?_
   refine A4 (A2 (A5 Z Z) Z (A6 ?_))
   refine k1 (k10 (k11 ?_))
   refine G1 (R4 rfl rfl) (by repeat (first | exact C6 | refine C5 rfl ?_ | refine D2 _ ?_)) (ObIn.spec (ob' := [(2, zBox)]) ⟨rfl, trivial⟩) ?_
   dsimp only
   rw [if_neg hl2]
   exact ⟨rfl, rfl⟩
  ·have hl2 : l = noNl := Decidable.not_not.1 (A1 ht)
   refine k5 (k1 (k2 ?_))
   refine C7 (by kernel_rfl) (by kernel_rfl) (A8 (A3 Z Z) Z Z (A8 (O2 Z) Z Z (A8 (H4 Z) Z Z (A8 (n_load_gA Z Z (by first | rfl | omega) Z) Z Z ?_)))); refine A8 (A3 Z Z) Z Z (A8 (O2 Z) Z Z (A8 (H4 Z) Z Z (A8 (n_load_gA Z Z (by first | rfl | omega) Z) Z Z ?_))); refine A8 (n_len_g Z Z) Z Z (A8 (I1 Z Z (by omega)) Z Z (A8 (K9 Z Z Z (by omega) (by omega)) Z Z (A8 (A5 Z Z) Z Z (H2 ?_))))
   refine k1 (k2 ?_)
   refine A4 (A2 (A3 Z Z) Z (A2 (A3 Z Z) Z (A2 (O2 Z) Z (A2 (H4 Z) Z (A2 (n_load_g Z Z hv Z) Z (C3 (htr) Z Z Z ?_)))))); rintro _ rfl; refine A2 (O2 Z) Z (A2 (H4 Z) Z (E9 (y6 (⟨x.Kind, trimS x.Text⟩) TySz.out Z Z hv Z Z Z Z (fun _ _ _ h => all2_unp h) (by intro j h1 h2; rcases j with _ | _ | _ | _ | _ | _ | _ | j <;> first | rfl | omega)) ?_)); refine A6 ?_
   rw [hset]
   refine k1 (k2 ?_)
   refine A4 (A2 (A5 Z Z) Z (A6 ?_))
   refine k1 (k10 ?_)
   refine G1 (R4 rfl rfl) (by repeat (first | exact C6 | refine C5 rfl ?_ | refine D2 _ ?_)) (ObIn.spec (ob' := U0 o n hs a b (ls.dropLast ++ [⟨x.Kind, trimS x.Text⟩])) ⟨rfl, rfl, rfl, rfl, trivial⟩) ?_
   dsimp only
   rw [if_pos hl2]
   exact ⟨rfl, rfl⟩
theorem in8_ok (n : Int) : FnOk Tryz.prog 242 [F0 n] (fun rs => rs = [F9 (decide (G7 n))]) := by
 refine FnOk.intro Tryz.func242 (by decide) Z Z Z Z ?_
 refine k2 ?_
 refine A4 (A2 (A5 Z Z) Z (A6 ?_))
 refine k1 (k2 ?_)
 refine A4 (A2 (A3 Z Z) Z (A2 (l8 Z Z) Z (A2 (A3 Z Z) Z (B0 Z Z Z Z (fun hg => by rw [hg]; exact A3 Z Z) ?_)))); refine B0 Z Z Z Z (fun hg => by rw [hg]; exact x4 Z Z) ?_; refine A2 (B1 Z (fun h => by first | rfl | (rw [h]; rfl)) (fun h => by first | rfl | (rw [h]; rfl))) Z ?_; refine A2 (A5 Z Z) Z (A6 ?_)
 refine k1 (k10 ?_)
 refine B6 (H1 Z Z Z) ?_
 simp only [G2]
 rfl
theorem check8_walk (l : List Change) (m n : Int) (hl : l.length ≤ 1073741824) : FnOk Tryz.prog 193 [pChanges l, F0 m, F0 n] (fun rs => rs = [F0 (Q4 l m n)]) := by
 refine FnOk.intro Tryz.func193 (by decide) Z Z Z Z ?_
 refine k2 ?_
 refine A4 (A2 (A5 Z Z) Z (A6 ?_))
 refine k1 (k2 (k2 ?_))
 refine A4 (A2 (A3 Z Z) Z (C3 (in8_ok m) Z Z Z ?_)); rintro _ rfl; refine A2 (F4 Z) Z (A2 (A3 Z Z) Z (B0 Z Z Z Z (fun hg => by rw [hg]; exact A3 Z Z) ?_)); refine B0 Z Z Z Z (fun hg => by have hq := hg; (try simp at hq); rw [hg]; exact G9 (in8_ok n) Z Z) ?_; refine B0 Z Z Z Z (fun hg => by rw [hg]; exact F4 Z) ?_; refine A2 (B1 Z (fun h => by first | rfl | (rw [h]; rfl)) (fun h => by first | rfl | (rw [h]; rfl))) Z ?_; refine A6 ?_
 refine k1 ?_
 refine B2 rfl (fun ht => ?_) (fun ht => ?_)
 ·simp only [← decide_not, or_pick] at ht
  have h : ¬ G7 m ∨ ¬ G7 n := A0 ht
  refine k2 ?_
  refine A4 (A2 (A5 Z Z) Z (A6 ?_))
  refine k1 (k10 (k11 ?_))
  exact B6 (H1 rfl rfl rfl) (by rw [Q4, if_pos h])
 simp only [← decide_not, or_pick] at ht
 have h : ¬ (¬ G7 m ∨ ¬ G7 n) := A1 ht
 have hm : 0 ≤ m ∧ m ≤ 4096 := by by_cases hm : G7 m; exact hm; exact absurd (.inl hm) h
 have hn : 0 ≤ n ∧ n ≤ 4096 := by by_cases hn : G7 n; exact hn; exact absurd (.inr hn) h
 refine k5 (k1 (k2 ?_))
 refine A4 (A2 (A5 Z Z) Z (A2 (A5 Z Z) Z (A6 ?_)))
 refine k1 (k2 (k2 ?_))
 refine A4 (A2 (A5 Z Z) Z (A6 ?_))
 refine k1 (k3 ?_)
 refine E2 (X := Nat × Int × Int) (fun x => ([(0, D3 Change 4 changeC l), (1, C2 m), (2, C2 n), (7, C2 x.2.1), (8, C2 x.2.2), (9, C2 x.1)], [])) (fun x => x.1 ≤ l.length ∧ J3 0 0 0 l m n = J3 x.1 x.2.1 x.2.2 (l.drop x.1) m n ∧ 0 ≤ x.2.1 ∧ x.2.1 ≤ 8192 ∧ 0 ≤ x.2.2 ∧ x.2.2 ≤ 8192) (fun x => l.length - x.1) (0, 0, 0) ⟨Nat.zero_le _, rfl, by decide, by decide, by decide, by decide⟩ (Sees.of ⟨le1 rfl, le1 rfl, le1 rfl, le1 rfl, le1 rfl, le1 rfl, trivial⟩ trivial) ?_
 rintro ⟨k, i, j⟩ ⟨hk, hp, hi, hi2, hj, hj2⟩
 dsimp only at hk hp hi hi2 hj hj2 ⊢
 refine k2 (k2 ?_)
 refine A4 (A2 (A3 Z Z) Z (A2 (A3 Z Z) Z (A2 (E1 Z (.pure _ _ _ _)) Z (A2 (E3 Z Z) Z (A6 ?_)))))
 refine k1 ?_
 refine B2 rfl (fun ht => ?_) (fun ht => ?_)
 ·have hlt : k < l.length := by have := A0 ht; omega
  have hv : l[k]? = some l[k] := by simp [hlt]
  obtain ⟨c, hc⟩ : ∃ c, c = l[k] := ⟨_, rfl⟩
  rw [List.drop_eq_getElem_cons hlt, J3] at hp
  rw [← hc] at hv hp
  refine k5 (k1 (k2 (k3 (k2 ?_))))
  refine A4 (A2 (A3 Z Z) Z (A2 (A3 Z Z) Z (A2 (B5 Z (.pure _ _ _ _) Z (by omega) hv) Z (A2 (E5 Z Z) Z (C9 (G3 10 Z) Z (E9 (B7 TySz.out Z Z Z Z Z Z) (A6 ?_)))))))
  refine k1 (k2 (k2 ?_))
  refine A4 (A2 (A7 Z) Z (A2 (A9 Z Z Z) Z (C3 (in8_ok c.Old) Z Z Z ?_))); rintro _ rfl; refine A2 (F4 Z) Z (A2 (A3 Z Z) Z (B0 Z Z Z Z (fun hg => by rw [hg]; exact A7 Z) ?_)); refine B0 Z Z Z Z (fun hg => by rw [hg]; exact A9 Z Z Z) ?_; refine B0 Z Z Z Z (fun hg => by have hq := hg; (try simp at hq); rw [hg]; exact G9 (in8_ok c.OldLen) Z Z) ?_; refine B0 Z Z Z Z (fun hg => by rw [hg]; exact F4 Z) ?_; refine A2 (B1 Z (fun h => by first | rfl | (rw [h]; rfl)) (fun h => by first | rfl | (rw [h]; rfl))) Z ?_; refine A2 (A3 Z Z) Z (B0 Z Z Z Z (fun hg => by rw [hg]; exact A7 Z) ?_); refine B0 Z Z Z Z (fun hg => by rw [hg]; exact A9 Z Z Z) ?_; refine B0 Z Z Z Z (fun hg => by have hq := hg; (try simp at hq); rw [hg]; exact G9 (in8_ok c.New) Z Z) ?_; refine B0 Z Z Z Z (fun hg => by rw [hg]; exact F4 Z) ?_; refine A2 (B1 Z (fun h => by first | rfl | (rw [h]; rfl)) (fun h => by first | rfl | (rw [h]; rfl))) Z ?_; refine A2 (A3 Z Z) Z (B0 Z Z Z Z (fun hg => by rw [hg]; exact A7 Z) ?_); refine B0 Z Z Z Z (fun hg => by rw [hg]; exact A9 Z Z Z) ?_; refine B0 Z Z Z Z (fun hg => by have hq := hg; (try simp at hq); rw [hg]; exact G9 (in8_ok c.NewLen) Z Z) ?_; refine B0 Z Z Z Z (fun hg => by rw [hg]; exact F4 Z) ?_; refine A2 (B1 Z (fun h => by first | rfl | (rw [h]; rfl)) (fun h => by first | rfl | (rw [h]; rfl))) Z ?_; refine A2 (A3 Z Z) Z (B0 Z Z Z Z (fun hg => by rw [hg]; exact A7 Z) ?_); refine B0 Z Z Z Z (fun hg => by rw [hg]; exact A9 Z Z Z) ?_; refine B0 Z Z Z Z (fun hg => by rw [hg]; exact A7 Z) ?_; refine B0 Z Z Z Z (fun hg => by rw [hg]; exact A9 Z Z Z) ?_; refine B0 Z Z Z Z (fun hg => by have hq := hg; (try simp at hq); simp [G7] at hq; rw [hg]; exact C0 Z Z (by omega)) ?_; refine B0 Z Z Z Z (fun hg => by rw [hg]; exact I8 Z Z) ?_; refine A2 (B1 Z (fun h => by first | rfl | (rw [h]; rfl)) (fun h => by first | rfl | (rw [h]; rfl))) Z ?_; refine A2 (A3 Z Z) Z (B0 Z Z Z Z (fun hg => by rw [hg]; exact A7 Z) ?_); refine B0 Z Z Z Z (fun hg => by rw [hg]; exact A9 Z Z Z) ?_; refine B0 Z Z Z Z (fun hg => by rw [hg]; exact A3 Z Z) ?_; refine B0 Z Z Z Z (fun hg => by have hq := hg; (try simp at hq); simp [G7] at hq; rw [hg]; exact I1 Z Z (by omega)) ?_; refine B0 Z Z Z Z (fun hg => by rw [hg]; exact A7 Z) ?_
  refine B0 Z Z Z Z (fun hg => by rw [hg]; exact A9 Z Z Z) ?_; refine B0 Z Z Z Z (fun hg => by rw [hg]; exact A3 Z Z) ?_; refine B0 Z Z Z Z (fun hg => by have hq := hg; (try simp at hq); simp [G7] at hq; rw [hg]; exact I1 Z Z (by omega)) ?_; refine B0 Z Z Z Z (fun hg => by rw [hg]; exact K7 Z Z) ?_; refine A2 (B1 Z (fun h => by first | rfl | (rw [h]; rfl)) (fun h => by first | rfl | (rw [h]; rfl))) Z ?_; refine A2 (A3 Z Z) Z (B0 Z Z Z Z (fun hg => by rw [hg]; exact A7 Z) ?_); refine B0 Z Z Z Z (fun hg => by rw [hg]; exact A9 Z Z Z) ?_; refine B0 Z Z Z Z (fun hg => by rw [hg]; exact A3 Z Z) ?_; refine B0 Z Z Z Z (fun hg => by rw [hg]; exact E3 Z Z) ?_; refine A2 (B1 Z (fun h => by first | rfl | (rw [h]; rfl)) (fun h => by first | rfl | (rw [h]; rfl))) Z ?_; refine A2 (A3 Z Z) Z (B0 Z Z Z Z (fun hg => by rw [hg]; exact A3 Z Z) ?_); refine B0 Z Z Z Z (fun hg => by rw [hg]; exact N4 Z Z) ?_; refine B0 Z Z Z Z (fun hg => by rw [hg]; exact A3 Z Z) ?_; refine L6 Z Z Z (.gd (.val _)) Z (fun hg => by obtain ⟨hg1, hg2⟩ := W7 hg; (try rw [hg1]); (try rw [hg2]); exact A7 Z) ?_; refine L6 Z Z Z (.gd (.val _)) Z (fun hg => by obtain ⟨hg1, hg2⟩ := W7 hg; (try rw [hg1]); (try rw [hg2]); exact A9 Z Z Z) ?_; refine L6 Z Z Z (.gd (.val _)) Z (fun hg => by obtain ⟨hg1, hg2⟩ := W7 hg; (try rw [hg1]); (try rw [hg2]); exact A3 Z Z) ?_; refine L6 Z Z Z (.gd (.val _)) Z (fun hg => by obtain ⟨hg1, hg2⟩ := W7 hg; (try rw [hg1]); (try rw [hg2]); exact I8 Z Z) ?_; refine B0 Z Z Z Z (fun hg => by rw [hg]; exact B1 Z (fun h => by first | rfl | (rw [h]; rfl)) (fun h => by first | rfl | (rw [h]; rfl))) ?_; refine A2 (B1 Z (fun h => by first | rfl | (rw [h]; rfl)) (fun h => by first | rfl | (rw [h]; rfl))) Z ?_; refine A6 ?_
  refine k1 ?_
  refine B2 rfl (fun ht => ?_) (fun ht => ?_)
  ·simp only [← decide_not, or_pick, G2] at ht
   have h : badC k i j c := A0 ht
   refine k2 ?_
   refine A4 (A2 (A5 Z Z) Z (A6 ?_))
   refine k1 (k10 (k11 (k12 (k11 (k11 (k12 (k11 ?_)))))))
   exact B6 (H1 rfl rfl rfl) (by rw [Q4, if_neg ‹¬ (¬ G7 m ∨ ¬ G7 n)›, hp, decide_eq_false (fun hh => hh h)]; rfl)
  ·simp only [← decide_not, or_pick, G2] at ht
   have h : ¬ badC k i j c := A1 ht
   have hr : (0 ≤ c.Old ∧ c.Old ≤ 4096) ∧ (0 ≤ c.OldLen ∧ c.OldLen ≤ 4096) ∧ (0 ≤ c.New ∧ c.New ≤ 4096) ∧ (0 ≤ c.NewLen ∧ c.NewLen ≤ 4096) := by
    unfold badC at h
    by_cases a1 : G7 c.Old <;> by_cases a2 : G7 c.OldLen <;> by_cases a3 : G7 c.New <;> by_cases a4 : G7 c.NewLen <;> simp [a1, a2, a3, a4] at h
    exact ⟨a1, a2, a3, a4⟩
   rw [decide_eq_true h, Bool.true_and] at hp
   refine k5 (k1 ?_)
   refine C7 (by kernel_rfl) (by kernel_rfl) (A8 (A7 Z) Z Z (A8 (A9 Z Z Z) Z Z (A8 (A7 Z) Z Z (A8 (A9 Z Z Z) Z Z (A8 (C0 Z Z (by omega)) Z Z (A8 (A7 Z) Z Z (A8 (A9 Z Z Z) Z Z (A8 (A7 Z) Z Z (A8 (A9 Z Z Z) Z Z (A8 (C0 Z Z (by omega)) Z Z (A8 (A5 Z Z) Z Z (A8 (A5 Z Z) Z Z (H2 ?_)))))))))))))
   refine k4 (k1 ?_)
   refine A4 (A2 (A3 Z Z) Z (A2 (C0 Z Z (by omega)) Z (A2 (A5 Z Z) Z (A6 ?_))))
   refine k1 ?_
   exact ⟨(k + 1, c.Old + c.OldLen, c.New + c.NewLen), ⟨by dsimp only; omega, hp, by dsimp only; omega, by dsimp only; omega, by dsimp only; omega, by dsimp only; omega⟩, by dsimp only; omega, Sees.of ⟨le1 rfl, le1 rfl, le1 rfl, le1 rfl, le1 rfl, le1 rfl, trivial⟩ trivial⟩
 ·have hk' : k = l.length := by have := A1 ht; omega
  rw [hk', List.drop_eq_nil_of_le (Nat.le_refl _), J3] at hp
  refine k6 (k2 (k2 ?_))
  refine A4 (A2 (A3 Z Z) Z (A2 (A3 Z Z) Z (A2 (I1 Z Z (by omega)) Z (A2 (A3 Z Z) Z (A2 (A3 Z Z) Z (A2 (I1 Z Z (by omega)) Z (A2 (K7 Z Z) Z (A2 (A3 Z Z) Z (B0 Z Z Z Z (fun hg => by rw [hg]; exact A3 Z Z) ?_))))))))); refine B0 Z Z Z Z (fun hg => by rw [hg]; exact A3 Z Z) ?_; refine B0 Z Z Z Z (fun hg => by rw [hg]; exact E3 Z Z) ?_; refine A2 (B1 Z (fun h => by first | rfl | (rw [h]; rfl)) (fun h => by first | rfl | (rw [h]; rfl))) Z ?_; refine A6 ?_
  refine k1 ?_
  refine B2 rfl (fun ht => ?_) (fun ht => ?_)
  ·have h2 := A0 (or_pick.symm.trans ht)
   refine k2 ?_
   refine A4 (A2 (A5 Z Z) Z (A6 ?_))
   refine k1 (k10 (k11 ?_))
   exact B6 (H1 rfl rfl rfl) (by rw [Q4, if_neg h, hp, decide_eq_false (fun hh => hh h2)]; rfl)
  ·have h2 := A1 (or_pick.symm.trans ht)
   refine k5 (k1 (k2 ?_))
   refine A4 (A2 (A5 Z Z) Z (A6 ?_))
   refine k1 (k10 ?_)
   exact B6 (H1 rfl rfl rfl) (by rw [Q4, if_neg h, hp, decide_eq_true h2]; rfl)
theorem group_walk (l : List Change) (m n ctx : Int) (hl : l.length ≤ 1073741824) : FnOk Tryz.prog 121 [pChanges l, F0 m, F0 n, F0 ctx] (fun rs => rs = [pHunks (M3 l m n ctx).1, F0 (M3 l m n ctx).2]) := by
 refine FnOk.intro Tryz.func121 (by decide) Z Z Z Z ?_
 refine k2 ?_
 refine A4 (A2 (A5 Z Z) Z (A2 (A5 Z Z) Z (A6 ?_)))
 refine k1 (k2 (k2 ?_))
 refine A4 (A2 (A3 Z Z) Z (A2 (E3 Z Z) Z (A2 (A3 Z Z) Z (B0 Z Z Z Z (fun hg => by rw [hg]; exact A3 Z Z) ?_)))); refine B0 Z Z Z Z (fun hg => by rw [hg]; exact N4 Z Z) ?_; refine A2 (B1 Z (fun h => by first | rfl | (rw [h]; rfl)) (fun h => by first | rfl | (rw [h]; rfl))) Z ?_; refine A6 ?_
 refine k1 ?_
 refine B2 rfl (fun ht => ?_) (fun ht => ?_)
 ·have h := A0 (or_pick.symm.trans ht)
  refine k2 ?_
  refine A4 (A2 (Q6 _ 6 hunkC) Z (A2 (A5 Z Z) Z (A6 ?_)))
  refine k1 (k10 (k11 ?_))
  exact B6 (U5 rfl rfl rfl rfl rfl) (by rw [M3, if_pos (by omega)])
 have h := A1 (or_pick.symm.trans ht)
 refine k5 (k1 (k2 (k2 ?_)))
 refine A4 (A2 (A3 Z Z) Z (A2 (A3 Z Z) Z (A2 (A3 Z Z) Z (C3 (check8_walk l m n hl) Z Z Z ?_)))); rintro _ rfl; refine A2 (A5 Z Z) Z (A6 ?_)
 refine k1 (k2 ?_)
 refine A4 (A2 (A3 Z Z) Z (A2 (K7 Z Z) Z (A6 ?_)))
 refine k1 ?_
 refine B2 rfl (fun ht => ?_) (fun ht => ?_)
 ·have h1 : Q4 l m n ≠ 0 := A0 ht
  refine k2 ?_
  refine A4 (A2 (A3 Z Z) Z (A2 (Q6 _ 6 hunkC) Z (A2 (A5 Z Z) Z (A6 ?_))))
  refine k1 (k10 (k11 ?_))
  exact B6 (U5 rfl rfl rfl rfl rfl) (by rw [M3, if_neg (by omega), if_pos h1])
 have h1 : Q4 l m n = 0 := by simpa using ht
 obtain ⟨hm, hn, hs⟩ := check8_ok h1
 unfold G7 at hm hn
 refine k5 (k1 (k2 ?_))
 refine T5 [(0, D3 Change 4 changeC l), (1, C2 m), (2, C2 n), (3, C2 ctx)] [] (Sees.of ⟨le1 rfl, le1 rfl, le1 rfl, le1 rfl, trivial⟩ trivial) ?_
 refine A4 (C9 (f_adoptG 11 _ hunkC Z) Z (A6 ?_))
 refine k1 (k2 (k2 ?_))
 refine A4 (A2 (A5 Z Z) Z (A6 ?_))
 refine k1 (k3 ?_)
 refine E2 (X := Nat) (fun k => ([(0, D3 Change 4 changeC l), (1, C2 m), (3, C2 ctx), (11, .s (.one (.mut 11))), (12, C2 k)], [(11, .grow 125 Hunk 6 hunkC (H0 l m ctx k))])) (fun k => k ≤ l.length) (fun k => l.length - k) 0 (Nat.zero_le _) (Sees.of ⟨le1 rfl, le1 rfl, le1 rfl, le1 rfl, le1 rfl, trivial⟩ ⟨rfl, trivial⟩) ?_
 intro k hk
 dsimp only at hk ⊢
 have hgl := V2 l m ctx k
 refine k2 (k2 ?_)
 refine A4 (A2 (A3 Z Z) Z (A2 (A3 Z Z) Z (A2 (E1 Z (.pure _ _ _ _)) Z (A2 (E3 Z Z) Z (A6 ?_)))))
 refine k1 ?_
 refine B2 rfl (fun ht => ?_) (fun ht => ?_)
 ·have hlt : k < l.length := by have := A0 ht; omega
  have hv : l[k]? = some (cAt l k) := i6 hlt
  obtain ⟨⟨g1, g2⟩, ⟨g3, g4⟩, ⟨g5, g6⟩, ⟨g7, g8⟩, g9, g10⟩ := hs.get k hlt
  refine c_skip ?_
  refine H9 ?_
  refine c_seq ?_
  refine c_block ?_
  refine W6 [(0, D3 Change 4 changeC l), (1, C2 m), (3, C2 ctx), (11, .s (.one (.mut 11))), (12, C2 k)] [(11, .grow 125 Hunk 6 hunkC (P7 l ctx k (H0 l m ctx k)))] ?_ ?_
  ·refine k2 ?_
   have hp1 : k ≠ 0 → l[((k : Int) - 1).toNat]? = some (cAt l (k - 1)) ∧ (0 ≤ (cAt l (k - 1)).Old ∧ (cAt l (k - 1)).Old ≤ 4096) ∧ 0 ≤ (cAt l (k - 1)).OldLen ∧ (cAt l (k - 1)).OldLen ≤ 4096 := fun hk0 => by
    have := hs.get (k - 1) (by omega)
    refine ⟨?_, this.1, this.2.1⟩
    rw [show ((k : Int) - 1).toNat = k - 1 by omega]; exact i6 (by omega)
   refine C7 (by kernel_rfl) (by kernel_rfl) (A8 (A3 Z Z) Z Z (A8 (I8 Z Z) Z Z (A8 (A3 Z Z) Z Z (B8 Z Z (fun hg => by rw [hg]; exact A3 Z Z) Z Z ?_)))); refine B8 Z Z (fun hg => by rw [hg]; exact A3 Z Z) Z Z ?_; refine B8 Z Z (fun hg => by have hq := hg; (try simp at hq); rw [hg]; exact B5 Z (.pure _ _ _ _) Z (by omega) hv) Z Z ?_; refine B8 Z Z (fun hg => by rw [hg]; exact D7 Z) Z Z ?_; refine B8 Z Z (fun hg => by rw [hg]; exact B9 Z Z) Z Z ?_; refine B8 Z Z (fun hg => by rw [hg]; exact A3 Z Z) Z Z ?_; refine B8 Z Z (fun hg => by rw [hg]; exact A3 Z Z) Z Z ?_; refine B8 Z Z (fun hg => by have hq := hg; (try simp at hq); rw [hg]; exact I1 Z Z (by omega)) Z Z ?_; refine B8 Z Z (fun hg => by have hq := hg; (try simp at hq); rw [hg]; exact B5 Z (.pure _ _ _ _) Z (by omega) (hp1 (by simpa using hq)).1) Z Z ?_; refine B8 Z Z (fun hg => by rw [hg]; exact D7 Z) Z Z ?_; refine B8 Z Z (fun hg => by rw [hg]; exact B9 Z Z) Z Z ?_; refine B8 Z Z (fun hg => by have hq := hg; (try simp at hq); have hp2 := hp1 (by simpa using hq); rw [hg]; exact I1 Z Z (by omega)) Z Z ?_; refine B8 Z Z (fun hg => by rw [hg]; exact A3 Z Z) Z Z ?_; refine B8 Z Z (fun hg => by rw [hg]; exact A3 Z Z) Z Z ?_; refine B8 Z Z (fun hg => by have hq := hg; (try simp at hq); rw [hg]; exact I1 Z Z (by omega)) Z Z ?_; refine B8 Z Z (fun hg => by have hq := hg; (try simp at hq); rw [hg]; exact B5 Z (.pure _ _ _ _) Z (by omega) (hp1 (by simpa using hq)).1) Z Z ?_; refine B8 Z Z (fun hg => by rw [hg]; exact D7 Z) Z Z ?_; refine B8 Z Z (fun hg => by rw [hg]; exact B9 Z Z) Z Z ?_; refine B8 Z Z (fun hg => by have hq := hg; (try simp at hq); have hp2 := hp1 (by simpa using hq); rw [hg]; exact I1 Z Z (by omega)) Z Z ?_; refine B8 Z Z (fun hg => by rw [hg]; exact A3 Z Z) Z Z ?_; refine B8 Z Z (fun hg => by have hq := hg; (try simp at hq); rw [hg]; exact n_mul Z Z (by omega)) Z Z ?_; refine B8 Z Z (fun hg => by rw [hg]; exact N4 Z Z) Z Z ?_; refine A8 (B1 Z (fun h => by first | rfl | (rw [h]; rfl)) (fun h => by first | rfl | (rw [h]; rfl))) Z Z ?_; refine H2 ?_
   refine k1 ?_
   refine B2 rfl (fun ht => ?_) (fun ht => ?_)
   ·have h2 := A0 (or_pick.symm.trans ht)
    have ho : opens l ctx k := by unfold opens; omega
    have hmin : 0 ≤ U3 ctx (cAt l k).Old ∧ U3 ctx (cAt l k).Old ≤ (cAt l k).Old := by unfold U3; split <;> omega
    refine k2 ?_
    refine A4 (A2 (A3 Z Z) Z (A2 (A3 Z Z) Z (A2 (A3 Z Z) Z (A2 (B5 Z (.pure _ _ _ _) Z (by omega) hv) Z (A2 (D7 Z) Z (A2 (B9 Z Z) Z (A2 (n_min Z Z) Z (A2 (A5 Z Z) Z (A6 ?_)))))))))
    rw [show (if (cAt l k).Old < ctx then (cAt l k).Old else ctx) = U3 ctx (cAt l k).Old from rfl]
    refine k1 ?_
    refine C7 (by kernel_rfl) (by kernel_rfl) (A8 (A3 Z Z) Z Z (A8 (A3 Z Z) Z Z (A8 (A3 Z Z) Z Z (A8 (A3 Z Z) Z Z (A8 (B5 Z (.pure _ _ _ _) Z (by omega) hv) Z Z (A8 (D7 Z) Z Z (A8 (B9 Z Z) Z Z (A8 (A3 Z Z) Z Z (A8 (I1 Z Z (by omega)) Z Z (A8 (F6 Z) Z Z (A8 (A3 Z Z) Z Z (A8 (A3 Z Z) Z Z (A8 (B5 Z (.pure _ _ _ _) Z (by omega) hv) Z Z (A8 (D7 Z) Z Z (A8 (B9 Z Z) Z Z (A8 (A3 Z Z) Z Z (A8 (I1 Z Z (by omega)) Z Z (A8 (F6 Z) Z Z (A8 (F6 Z) Z Z (A8 (E0 (c := hunkC) (ys := [S2 l ctx k]) (E6 Z Z Z Z I6) Z Z Z) Z Z (d_effv (y9 Z Z Z (.pure _ _ _ _) (by simp; omega) Z) Z Z (A8 (A5 Z Z) Z Z (H2 ?_)))))))))))))))))))))))
    refine k1 ?_
    rw [P7, if_pos ho]
    exact Sees.of ⟨le1 rfl, le1 rfl, le1 rfl, le1 rfl, le1 rfl, trivial⟩ ⟨rfl, trivial⟩
   ·have h2 := A1 (or_pick.symm.trans ht)
    have ho : ¬ opens l ctx k := by unfold opens; omega
    refine k5 (k1 ?_)
    rw [P7, if_neg ho]
    exact Sees.of ⟨le1 rfl, le1 rfl, le1 rfl, le1 rfl, le1 rfl, trivial⟩ ⟨rfl, trivial⟩
  ·obtain ⟨out, hout⟩ : ∃ out, out = P7 l ctx k (H0 l m ctx k) := ⟨_, rfl⟩
   have hsucc : H0 l m ctx (k + 1) = out.set (out.length - 1) (x9 l m ctx k (out.getD (out.length - 1) hunk0)) := by rw [hout]; rfl
   have hol : 0 < out.length ∧ out.length ≤ k + 1 := by
    rw [hout, P7]
    split
    ·simp only [List.length_append, List.length_cons, List.length_nil]; omega
    ·rename_i ho
     have : k ≠ 0 := fun e => ho (.inl e)
     omega
   rw [← hout]
   obtain ⟨h0, hh0⟩ : ∃ h0, h0 = out.getD (out.length - 1) hunk0 := ⟨_, rfl⟩
   have hvo : out[out.length - 1]? = some h0 := by rw [hh0, List.getD_eq_getElem?_getD, List.getElem?_eq_getElem (by omega)]; rfl
   rw [← hh0] at hsucc
   have hi : ((out.length : Int) - 1).toNat = out.length - 1 := by omega
   have hmin : 0 ≤ U3 ctx (m - ((cAt l k).Old + (cAt l k).OldLen)) ∧ U3 ctx (m - ((cAt l k).Old + (cAt l k).OldLen)) ≤ m - ((cAt l k).Old + (cAt l k).OldLen) := by unfold U3; split <;> omega
   refine k2 ?_
   refine A4 (A2 (A3 Z Z) Z (A2 (n_len_g Z Z) Z (A2 (I1 Z Z (by omega)) Z (A2 (A5 Z Z) Z (A6 ?_)))))
   refine k1 (k2 ?_)
   refine C7 (by kernel_rfl) (by kernel_rfl) (A8 (A3 Z Z) Z Z (A8 (A3 Z Z) Z Z (A8 (B5 Z (.pure _ _ _ _) Z (by omega) hv) Z Z (A8 (D7 Z) Z Z (A8 (B9 Z Z) Z Z (A8 (A3 Z Z) Z Z (A8 (A3 Z Z) Z Z (A8 (B5 Z (.pure _ _ _ _) Z (by omega) hv) Z Z (A8 (D7 Z) Z Z (A8 (B9 Z Z) Z Z (A8 (C0 Z Z (by omega)) Z Z (A8 (A3 Z Z) Z Z (A8 (A3 Z Z) Z Z (A8 (B5 Z (.pure _ _ _ _) Z (by omega) hv) Z Z (A8 (D7 Z) Z Z (A8 (B9 Z Z) Z Z (A8 (A3 Z Z) Z Z (A8 (A3 Z Z) Z Z (A8 (B5 Z (.pure _ _ _ _) Z (by omega) hv) Z Z (A8 (D7 Z) Z Z (A8 (B9 Z Z) Z Z (A8 (C0 Z Z (by omega)) Z Z (A8 (A5 Z Z) Z Z ?_))))))))))))))))))))))); refine A8 (A5 Z Z) Z Z (H2 ?_)
   refine k1 (k2 ?_)
   refine A4 (A2 (A3 Z Z) Z (A2 (A3 Z Z) Z (A2 (A3 Z Z) Z (A2 (I1 Z Z (by omega)) Z (A2 (n_min Z Z) Z (A2 (A5 Z Z) Z (A6 ?_)))))))
   refine k1 (k2 ?_)
   rw [show (if m - ((cAt l k).Old + (cAt l k).OldLen) < ctx then m - ((cAt l k).Old + (cAt l k).OldLen) else ctx) = U3 ctx (m - ((cAt l k).Old + (cAt l k).OldLen)) from rfl]
   refine A4 (A2 (A3 Z Z) Z (A2 (A3 Z Z) Z (A2 (A3 Z Z) Z (A2 (C0 Z Z (by omega)) Z (A2 (K9 Z Z Z (by omega) (by omega)) Z (A2 (H4 Z) Z (E9 (y6 (({ h0 with Last := (k : Int) + 1 } : Hunk)) TySz.out Z Z (by rw [hi]; exact hvo) Z Z Z Z (fun _ _ _ h => all2_unp h) (by intro j h1 h2; rcases j with _ | _ | _ | _ | _ | _ | _ | j <;> first | rfl | omega)) ?_))))))); refine A6 ?_
   rw [hi]
   refine k1 (k2 ?_)
   have hv2 : (out.set (out.length - 1) { h0 with Last := (k : Int) + 1 })[out.length - 1]? = some { h0 with Last := (k : Int) + 1 } := List.getElem?_set_self (by omega)
   obtain ⟨h2, hh2⟩ : ∃ h2 : Hunk, h2 = { h0 with Last := (k : Int) + 1 } := ⟨_, rfl⟩
   rw [← hh2] at hv2 ⊢
   obtain ⟨out2, ho2⟩ : ∃ out2, out2 = out.set (out.length - 1) h2 := ⟨_, rfl⟩
   have hol2 : out2.length = out.length := by rw [ho2]; simp
   rw [← ho2] at hv2 ⊢
   refine A4 (A2 (A3 Z Z) Z (A2 (A3 Z Z) Z (A2 (A3 Z Z) Z (A2 (A3 Z Z) Z (A2 (C0 Z Z (by omega)) Z (A2 (K9 Z Z Z (by omega) (by (simp only [hol2]; omega))) Z (A2 (H4 Z) Z (A2 (H4 Z) Z (E9 (y6 (({ h2 with Old := ⟨h2.Old.From, (cAt l k).Old + (cAt l k).OldLen + U3 ctx (m - ((cAt l k).Old + (cAt l k).OldLen))⟩ } : Hunk)) TySz.out Z Z (by rw [hi]; exact hv2) Z Z Z Z (fun _ _ _ h => all2_unp h) (by intro j h1 h2; rcases j with _ | _ | _ | _ | _ | _ | _ | j <;> first | rfl | omega)) ?_))))))))); refine A6 ?_
   rw [hi]
   refine k1 ?_
   obtain ⟨h3, hh3⟩ : ∃ h3 : Hunk, h3 = { h2 with Old := ⟨h2.Old.From, (cAt l k).Old + (cAt l k).OldLen + U3 ctx (m - ((cAt l k).Old + (cAt l k).OldLen))⟩ } := ⟨_, rfl⟩
   have hv3 : (out2.set (out.length - 1) h3)[out.length - 1]? = some h3 := List.getElem?_set_self (by omega)
   rw [← hh3]
   obtain ⟨out3, ho3⟩ : ∃ out3, out3 = out2.set (out.length - 1) h3 := ⟨_, rfl⟩
   have hol3 : out3.length = out.length := by rw [ho3]; simp [hol2]
   rw [← ho3] at hv3 ⊢
   refine A4 (A2 (A3 Z Z) Z (A2 (A3 Z Z) Z (A2 (A3 Z Z) Z (A2 (A3 Z Z) Z (A2 (C0 Z Z (by omega)) Z (A2 (K9 Z Z Z (by omega) (by (simp only [hol3]; omega))) Z (A2 (H4 Z) Z (A2 (H4 Z) Z (E9 (y6 (({ h3 with New := ⟨h3.New.From, (cAt l k).New + (cAt l k).NewLen + U3 ctx (m - ((cAt l k).Old + (cAt l k).OldLen))⟩ } : Hunk)) TySz.out Z Z (by rw [hi]; exact hv3) Z Z Z Z (fun _ _ _ h => all2_unp h) (by intro j h1 h2; rcases j with _ | _ | _ | _ | _ | _ | _ | j <;> first | rfl | omega)) ?_))))))))); refine A6 ?_
   rw [hi]
   have hfin : out3.set (out.length - 1) { h3 with New := ⟨h3.New.From, (cAt l k).New + (cAt l k).NewLen + U3 ctx (m - ((cAt l k).Old + (cAt l k).OldLen))⟩ } = H0 l m ctx (k + 1) := by
    rw [hsucc, ho3, ho2, List.set_set, List.set_set, hh3, hh2]; rfl
   rw [hfin]
   refine k4 (k1 ?_)
   refine A4 (A2 (A3 Z Z) Z (A2 (C0 Z Z (by omega)) Z (A2 (A5 Z Z) Z (A6 ?_))))
   refine k1 ?_
   exact ⟨k + 1, by omega, by omega, Sees.of ⟨le1 rfl, le1 rfl, le1 rfl, le1 rfl, le1 rfl, trivial⟩ ⟨rfl, trivial⟩⟩
 ·have hk' : k = l.length := by have := A1 ht; omega
  subst hk'
  refine k6 (k2 ?_)
  refine F8 (Sees.growBuf (t := 11) (k := 11) Z Z Z) ?_
  refine A4 (A2 (A3 Z Z) Z (A2 (A5 Z Z) Z (A2 (A5 Z Z) Z (A6 ?_))))
  refine k1 (k10 ?_)
  exact B6 (U5 rfl rfl rfl rfl rfl) (by rw [M3, if_neg (by omega), if_neg (by rw [h1]; decide)])
theorem rlines9_ok (a b : List Str) (ha : a.length ≤ 4096) (hb : b.length ≤ 4096) : FnOk Tryz.prog 119 [R3 a, R3 b] (fun rs => rs = [pChanges (walkOf (F2 (D1 [a, b]) a) (F2 (D1 [a, b]) b))]) := by
 have h1 : (F2 (D1 [a, b]) a).length = a.length := by simp [F2]
 have h2 : (F2 (D1 [a, b]) b).length = b.length := by simp [F2]
 refine FnOk.intro Tryz.func119 (by decide) Z Z Z Z ?_
 refine k2 ?_
 refine A4 (A2 (A5 Z Z) Z (A6 ?_))
 refine k1 (k2 ?_)
 refine A4 (A2 (A3 Z Z) Z (A2 (A3 Z Z) Z (A2 (E0 (c := strsC) (ys := [a, b]) (E6 Z Z Z Z (E6 Z Z Z Z I6)) Z Z Z) Z (C3 (ids_ok [a, b] (by simp; omega) (by simp)) Z Z Z ?_)))); rintro _ rfl; refine A2 (A5 Z Z) Z (A6 ?_)
 refine k1 (k2 ?_)
 refine C7 (by kernel_rfl) (by kernel_rfl) (A8 (A3 Z Z) Z Z (A8 (B5 Z (.pure _ _ _ _) Z (by omega) Z) Z Z (A8 (B9 Z Z) Z Z (A8 (A3 Z Z) Z Z (A8 (B5 Z (.pure _ _ _ _) Z (by omega) Z) Z Z (A8 (B9 Z Z) Z Z (A8 (G9 (walk_ok _ _ (by omega) (by omega)) Z Z) Z Z (A8 (A5 Z Z) Z Z (H2 ?_)))))))))
 refine k1 (k10 ?_)
 exact B6 (H1 rfl rfl rfl) rfl
theorem s5 (a b : UInt8) : decide ((a.toNat : Int) ≠ (b.toNat : Int)) = decide (a ≠ b) := by
 by_cases h : a = b
 ·subst h; simp
 ·have : (a.toNat : Int) ≠ (b.toNat : Int) := fun e => h (UInt8.toNat_inj.1 (by omega))
  rw [decide_eq_true this, decide_eq_true h]
theorem rname_ok (s : Str) : FnOk Tryz.prog 80 [G6 s] (fun rs => rs = [F9 (L2 s)]) := by
 refine FnOk.intro Tryz.func80 (by decide) Z Z Z Z ?_
 refine k2 ?_
 refine A4 (A2 (A5 Z Z) Z (A6 ?_))
 refine k1 (k2 ?_)
 refine A4 (A2 (A3 Z Z) Z (A2 (F5 Z) Z (A2 (l8 Z Z) Z (A2 (A3 Z Z) Z (B0 Z Z Z Z (fun hg => by rw [hg]; exact A3 Z Z) ?_))))); refine B0 Z Z Z Z (fun hg => by rw [hg]; exact F5 Z) ?_; refine B0 Z Z Z Z (fun hg => by rw [hg]; exact x4 Z Z) ?_; refine A2 (B1 Z (fun h => by first | rfl | (rw [h]; rfl)) (fun h => by first | rfl | (rw [h]; rfl))) Z ?_; refine A2 (A5 Z Z) Z (A6 ?_)
 refine k1 (k10 ?_)
 refine B6 (H1 Z Z Z) ?_
 simp only [G2]
 congr 4
 unfold L2
 congr 1
 apply propext
 omega
theorem u9 (h : PatchHunk) (k : UInt8) (hl : h.Lines.length ≤ 268435456) : FnOk Tryz.prog 62 [pPhunk h, pByte k] (fun rs => rs = [R3 (C4 h.Lines k)]) := by
 obtain ⟨ls, hls⟩ : ∃ ls, ls = h.Lines := ⟨_, rfl⟩
 refine FnOk.intro Tryz.func62 (by decide) Z Z Z Z ?_
 refine k2 ?_
 refine A4 (C9 (c8 2 Z Z Z) Z (A2 (A5 Z Z) Z (A6 ?_)))
 refine k1 (k2 ?_)
 refine A4 (C9 (W9 5 _ I2 Z) Z (A6 ?_))
 refine k1 (k2 (k2 ?_))
 refine A4 (A2 (A5 Z Z) Z (A6 ?_))
 refine k1 (k3 ?_)
 refine E2 (X := Nat) (fun i => ([(1, .s (pByte k).s1), (2, .s (.one (.ref 2 0))), (5, .s (.one (.buf 5 Str 1 I2 (C4 (h.Lines.take i) k)))), (6, C2 i)], [(2, .box (pPhunk h).s1.cells), (5, .spare (C4 (h.Lines.take i) k).length 1 9)])) (fun i => i ≤ h.Lines.length) (fun i => h.Lines.length - i) 0 (Nat.zero_le _) (Sees.of ⟨le1 rfl, le1 rfl, le1 rfl, le1 rfl, trivial⟩ ⟨rfl, rfl, trivial⟩) ?_
 intro i hi
 dsimp only at hi ⊢
 have hlen := J1 (h.Lines.take i) k
 rw [List.length_take] at hlen
 refine k2 (k2 ?_)
 refine A4 (A2 (A3 Z Z) Z (A2 (A7 Z) Z (A2 (A9 Z Z Z) Z (A2 (E1 Z (.pure _ _ _ _)) Z (A2 (E3 Z Z) Z (A6 ?_))))))
 refine k1 ?_
 refine B2 rfl (fun ht => ?_) (fun ht => ?_)
 ·have hlt : i < h.Lines.length := by have := A0 ht; omega
  have hv : h.Lines[i]? = some h.Lines[i] := by simp [hlt]
  have hsucc := d5 h.Lines k i hlt
  obtain ⟨x, hx⟩ : ∃ x, x = h.Lines[i] := ⟨_, rfl⟩
  rw [← hx] at hv hsucc
  refine k5 (k1 (k2 (k3 (k2 ?_))))
  refine A4 (A2 (A7 Z) Z (A2 (A9 Z Z Z) Z (A2 (A3 Z Z) Z (A2 (B5 Z (.pure _ _ _ _) Z (by omega) hv) Z (A2 (D7 Z) Z (A2 (B9 Z Z) Z (A2 (A3 Z Z) Z (A2 (K7 Z Z) Z (A6 ?_)))))))))
  refine k1 ?_
  refine B2 rfl (fun ht => ?_) (fun ht => ?_)
  ·have h1 : x.Kind ≠ k := A0 ((s5 _ _).symm.trans ht)
   rw [if_pos h1] at hsucc
   skip
   refine A4 (A2 (A3 Z Z) Z (A2 (A7 Z) Z (A2 (A9 Z Z Z) Z (A2 (A3 Z Z) Z (A2 (B5 Z (.pure _ _ _ _) Z (by omega) hv) Z (A2 (D7 Z) Z (A2 (B9 Z Z) Z (A2 (E0 (c := I2) (ys := [_]) (E6 Z Z Z Z I6) Z Z Z) Z (C9 (J4 Z Z Z (.pure _ _ _ _) (by simp; omega) Z) Z (A2 (A5 Z Z) Z (A6 ?_)))))))))))
   refine k4 (k1 ?_)
   refine A4 (A2 (A3 Z Z) Z (A2 (C0 Z Z (by omega)) Z (A2 (A5 Z Z) Z (A6 ?_))))
   refine k1 ?_
   refine ⟨i + 1, by omega, by omega, ?_⟩
   rw [hsucc]
   exact Sees.of ⟨le1 rfl, le1 rfl, le1 rfl, le1 rfl, trivial⟩ ⟨rfl, rfl, trivial⟩
  ·have h1 : ¬ x.Kind ≠ k := A1 ((s5 _ _).symm.trans ht)
   rw [if_neg h1] at hsucc
   refine k5 (k4 (k1 ?_))
   refine A4 (A2 (A3 Z Z) Z (A2 (C0 Z Z (by omega)) Z (A2 (A5 Z Z) Z (A6 ?_))))
   refine k1 ?_
   refine ⟨i + 1, by omega, by omega, ?_⟩
   rw [hsucc]
   exact Sees.of ⟨le1 rfl, le1 rfl, le1 rfl, le1 rfl, trivial⟩ ⟨rfl, rfl, trivial⟩
 ·have hi' : i = h.Lines.length := by have := A1 ht; omega
  subst hi'
  refine k6 (k2 ?_)
  refine A4 (A2 (A3 Z Z) Z (A2 (A5 Z Z) Z (A6 ?_)))
  refine k1 (k10 ?_)
  exact B6 (H1 rfl rfl rfl) (by rw [List.take_length])
theorem rside_ok (p : Patch) (k : UInt8) (hp : szP p.Hunks ≤ 268435456) : FnOk Tryz.prog 154 [pPatch p, pByte k] (fun rs => rs = [F9 (sideOk p.Hunks k)]) := by
 have hsl := szP_len p.Hunks
 refine FnOk.intro Tryz.func154 (by decide) Z Z Z Z ?_
 refine k2 ?_
 refine A4 (C9 (c8 2 Z Z Z) Z (A2 (A5 Z Z) Z (A6 ?_)))
 refine k1 (k2 ?_)
 refine A4 (C9 (W9 5 _ I2 Z) Z (A6 ?_))
 refine k1 (k2 (k2 ?_))
 refine A4 (A2 (A5 Z Z) Z (A6 ?_))
 refine k1 (k3 ?_)
 refine E2 (X := Nat) (fun i => ([(1, .s (pByte k).s1), (2, .s (.one (.ref 2 0))), (5, .s (.one (.buf 5 Str 1 I2 (G5 (p.Hunks.take i) k)))), (6, C2 i)], [(2, .box (pPatch p).s1.cells), (5, .spare (G5 (p.Hunks.take i) k).length 1 9)])) (fun i => i ≤ p.Hunks.length) (fun i => p.Hunks.length - i) 0 (Nat.zero_le _) (Sees.of ⟨le1 rfl, le1 rfl, le1 rfl, le1 rfl, trivial⟩ ⟨rfl, rfl, trivial⟩) ?_
 intro i hi
 dsimp only at hi ⊢
 have hlen := sideLines_len (p.Hunks.take i) k
 have hle := szP_take p.Hunks i
 refine k2 (k2 ?_)
 refine A4 (A2 (A3 Z Z) Z (A2 (A7 Z) Z (A2 (A9 Z Z Z) Z (A2 (E1 Z (.pure _ _ _ _)) Z (A2 (E3 Z Z) Z (A6 ?_))))))
 refine k1 ?_
 refine B2 rfl (fun ht => ?_) (fun ht => ?_)
 ·have hlt : i < p.Hunks.length := by have := A0 ht; omega
  have hv : p.Hunks[i]? = some p.Hunks[i] := by simp [hlt]
  have hsucc := sideLines_succ p.Hunks k i hlt
  have hmem : p.Hunks[i] ∈ p.Hunks := List.getElem_mem hlt
  obtain ⟨h, hx⟩ : ∃ x, x = p.Hunks[i] := ⟨_, rfl⟩
  rw [← hx] at hv hsucc hmem
  have h1 := s6 hmem
  have h2 := J1 h.Lines k
  have h3 := X2 h.Lines
  unfold szH at h1
  refine k5 (k1 (k2 (k3 ?_)))
  refine A4 (A2 (A3 Z Z) Z (A2 (A7 Z) Z (A2 (A9 Z Z Z) Z (A2 (A3 Z Z) Z (A2 (B5 Z (.pure _ _ _ _) Z (by omega) hv) Z (A2 (E5 Z Z) Z (A2 (A3 Z Z) Z (C3 (u9 h k (by omega)) Z Z Z ?_)))))))); rintro _ rfl; refine C9 (J4 Z Z Z (.pure _ _ _ _) (by omega) Z) Z (A2 (A5 Z Z) Z (A6 ?_))
  refine k4 (k1 ?_)
  refine A4 (A2 (A3 Z Z) Z (A2 (C0 Z Z (by omega)) Z (A2 (A5 Z Z) Z (A6 ?_))))
  refine k1 ?_
  refine ⟨i + 1, by omega, by omega, ?_⟩
  rw [hsucc]
  exact Sees.of ⟨le1 rfl, le1 rfl, le1 rfl, le1 rfl, trivial⟩ ⟨rfl, rfl, trivial⟩
 ·have hi' : i = p.Hunks.length := by have := A1 ht; omega
  subst hi'
  rw [List.take_length] at hlen ⊢
  obtain ⟨all, hall⟩ : ∃ all, all = G5 p.Hunks k := ⟨_, rfl⟩
  have hmem : ∀ s ∈ all, s.length ≤ szP p.Hunks := fun s hs => sideLines_mem (k := k) (by rw [← hall]; exact hs)
  rw [sideOk, ← hall]
  rw [← hall] at hlen
  refine k6 (k2 (k2 ?_))
  refine A4 (A2 (A5 Z Z) Z (A6 ?_))
  refine k1 (k3 ?_)
  refine E2 (X := Nat) (fun i => ([(5, D3 Str 1 I2 all), (7, C2 i)], [])) (fun i => i ≤ all.length + 1 ∧ M9 all = M9 (all.drop i)) (fun i => all.length + 1 - i) 0 ⟨Nat.zero_le _, rfl⟩ (Sees.of ⟨leL rfl, le1 rfl, trivial⟩ trivial) ?_
  rintro i ⟨hi, he⟩
  dsimp only at hi he ⊢
  refine k2 (k2 ?_)
  refine A4 (A2 (A3 Z Z) Z (A2 (C0 Z Z (by omega)) Z (A2 (A3 Z Z) Z (A2 (E1 Z (.pure _ _ _ _)) Z (A2 (E3 Z Z) Z (A6 ?_))))))
  refine k1 ?_
  refine B2 rfl (fun ht => ?_) (fun ht => ?_)
  ·have hlt : i + 1 < all.length := by have := A0 ht; omega
   have hv : all[i]? = some all[i] := by simp
   have h1 := hmem all[i] (List.getElem_mem _)
   rw [endedBut_drop all i hlt] at he
   refine k5 (k1 (k2 (k3 (k2 ?_))))
   refine A4 (A2 (A3 Z Z) Z (A2 (A3 Z Z) Z (A2 (B5 Z (.pure _ _ _ _) Z (by omega) hv) Z (A2 (B9 Z Z) Z (C3 (ended_ok all[i] (by omega)) Z Z Z ?_))))); rintro _ rfl; refine A2 (F4 Z) Z (A6 ?_)
   refine k1 ?_
   refine B2 rfl (fun ht => ?_) (fun ht => ?_)
   ·have h2 : ended all[i] = false := by simpa using ht
    rw [h2] at he
    refine k2 ?_
    refine A4 (A2 (A5 Z Z) Z (A6 ?_))
    refine k1 (k10 (k12 (k11 (k11 (k12 (k11 ?_))))))
    exact B6 (H1 rfl rfl rfl) (by rw [he]; rfl)
   ·have h2 : ended all[i] = true := by simpa using ht
    rw [h2, Bool.true_and] at he
    refine k5 (k4 (k1 ?_))
    refine A4 (A2 (A3 Z Z) Z (A2 (C0 Z Z (by omega)) Z (A2 (A5 Z Z) Z (A6 ?_))))
    refine k1 ?_
    exact ⟨i + 1, ⟨by omega, he⟩, by omega, Sees.of ⟨le1 rfl, le1 rfl, trivial⟩ trivial⟩
  ·have hge : all.length ≤ i + 1 := by have := A1 ht; omega
   rw [endedBut_last all i hge] at he
   refine k6 (k2 ?_)
   refine A4 (A2 (A5 Z Z) Z (A6 ?_))
   refine k1 (k10 ?_)
   exact B6 (H1 rfl rfl rfl) (by rw [he])
theorem kn32 (c : UInt8) : decide ((c.toNat : Int) ≠ 32) = decide (c ≠ 32) := s5 c 32
theorem kn45 (c : UInt8) : decide ((c.toNat : Int) ≠ 45) = decide (c ≠ 45) := s5 c 45
theorem kn43 (c : UInt8) : decide ((c.toNat : Int) ≠ 43) = decide (c ≠ 43) := s5 c 43
theorem notB (b : Bool) : (!b) = decide (b = false) := by cases b <;> rfl
theorem someCh_succ (ls : List PatchLine) (n : Nat) (h : n < ls.length) : U2 (ls.take (n + 1)) = (if U2 (ls.take n) = true then true else decide (ls[n].Kind ≠ 32)) := by
 unfold U2
 rw [List.take_succ_eq_append_getElem h, List.any_append]
 cases (ls.take n).any _ <;> simp
theorem rgood_ok (p : Patch) (hp : szP p.Hunks ≤ 268435456) : FnOk Tryz.prog 81 [pPatch p] (fun rs => rs = [F9 (P1 p.Hunks)]) := by
 have hsl := szP_len p.Hunks
 refine FnOk.intro Tryz.func81 (by decide) Z Z Z Z ?_
 refine k2 ?_
 refine A4 (C9 (c8 1 Z Z Z) Z (A2 (A5 Z Z) Z (A6 ?_)))
 refine k1 (k2 ?_)
 refine A4 (A2 (A5 Z Z) Z (A2 (A5 Z Z) Z (A6 ?_)))
 refine k1 (k2 (k2 ?_))
 refine A4 (A2 (A5 Z Z) Z (A6 ?_))
 refine k1 (k3 ?_)
 refine E2 (X := Nat × Int × Int) (fun x => ([(1, .s (.one (.ref 1 0))), (3, C2 x.2.1), (4, C2 x.2.2), (5, C2 x.1)], [(1, .box (pPatch p).s1.cells)])) (fun x => x.1 ≤ p.Hunks.length ∧ S7 0 0 p.Hunks = S7 x.2.1 x.2.2 (p.Hunks.drop x.1) ∧ 0 ≤ x.2.1 ∧ x.2.1 ≤ 4096 ∧ 0 ≤ x.2.2 ∧ x.2.2 ≤ 4096) (fun x => p.Hunks.length - x.1) (0, 0, 0) ⟨Nat.zero_le _, rfl, by decide, by decide, by decide, by decide⟩ (Sees.of ⟨le1 rfl, le1 rfl, le1 rfl, le1 rfl, trivial⟩ ⟨rfl, trivial⟩) ?_
 rintro ⟨k, i, j⟩ ⟨hk, hg, hi, hi2, hj, hj2⟩
 dsimp only at hk hg hi hi2 hj hj2 ⊢
 refine k2 (k2 ?_)
 refine A4 (A2 (A3 Z Z) Z (A2 (A7 Z) Z (A2 (A9 Z Z Z) Z (A2 (E1 Z (.pure _ _ _ _)) Z (A2 (E3 Z Z) Z (A6 ?_))))))
 refine k1 ?_
 refine B2 rfl (fun ht => ?_) (fun ht => ?_)
 ·have hlt : k < p.Hunks.length := by have := A0 ht; omega
  have hv : p.Hunks[k]? = some p.Hunks[k] := by simp [hlt]
  have hmem : p.Hunks[k] ∈ p.Hunks := List.getElem_mem hlt
  rw [List.drop_eq_getElem_cons hlt, S7] at hg
  obtain ⟨h, hx⟩ : ∃ x, x = p.Hunks[k] := ⟨_, rfl⟩
  rw [← hx] at hv hmem hg
  have h1 := s6 hmem
  have h3 := X2 h.Lines
  have ho := J1 h.Lines 43
  have hn := J1 h.Lines 45
  unfold szH at h1
  refine k5 (k1 (k2 (k3 (k2 ?_))))
  refine A4 (A2 (A7 Z) Z (A2 (A9 Z Z Z) Z (A2 (A3 Z Z) Z (A2 (B5 Z (.pure _ _ _ _) Z (by omega) hv) Z (A2 (E5 Z Z) Z (C9 (G3 6 Z) Z (E9 (B7 TySz.out Z Z Z Z Z Z) (A6 ?_))))))))
  refine k1 (k2 ?_)
  refine A4 (A2 (A5 Z Z) Z (A6 ?_))
  refine k1 (k2 (k2 ?_))
  refine A4 (A2 (A5 Z Z) Z (A6 ?_))
  refine k1 (k3 ?_)
  refine E2 (X := Nat) (fun n => ([(1, .s (.one (.ref 1 0))), (3, C2 i), (4, C2 j), (5, C2 k), (6, .s (.one (.ref 6 0))), (7, J9 (.bool (U2 (h.Lines.take n)))), (8, C2 n)], [(1, .box (pPatch p).s1.cells), (6, .box (pPhunk h).s1.cells)])) (fun n => n ≤ h.Lines.length ∧ h.Lines.all O9 = (h.Lines.drop n).all O9) (fun n => h.Lines.length - n) 0 ⟨Nat.zero_le _, rfl⟩ (Sees.of ⟨le1 rfl, le1 rfl, le1 rfl, le1 rfl, le1 rfl, le1 rfl, le1 rfl, trivial⟩ ⟨rfl, rfl, trivial⟩) ?_
  rintro n ⟨hn1, hn2⟩
  dsimp only at hn1 hn2 ⊢
  refine k2 (k2 ?_)
  refine A4 (A2 (A3 Z Z) Z (A2 (A7 Z) Z (A2 (A9 Z Z Z) Z (A2 (E1 Z (.pure _ _ _ _)) Z (A2 (E3 Z Z) Z (A6 ?_))))))
  refine k1 ?_
  refine B2 rfl (fun ht => ?_) (fun ht => ?_)
  ·have hlt2 : n < h.Lines.length := by have := A0 ht; omega
   have hv2 : h.Lines[n]? = some h.Lines[n] := by simp [hlt2]
   have hmem2 := szL_mem (List.getElem_mem hlt2)
   have hsucc := someCh_succ h.Lines n hlt2
   rw [List.drop_eq_getElem_cons hlt2, List.all_cons] at hn2
   obtain ⟨x, hx2⟩ : ∃ x, x = h.Lines[n] := ⟨_, rfl⟩
   rw [← hx2] at hv2 hmem2 hsucc hn2
   refine k5 (k1 (k2 (k3 (k2 ?_))))
   refine A4 (A2 (A7 Z) Z (A2 (A9 Z Z Z) Z (A2 (A3 Z Z) Z (A2 (B5 Z (.pure _ _ _ _) Z (by omega) hv2) Z (A2 (D7 Z) Z (A2 (B9 Z Z) Z (A2 (A5 Z Z) Z (A6 ?_))))))))
   refine k1 (k2 (k2 ?_))
   refine A4 (A2 (A3 Z Z) Z (A2 (K7 Z Z) Z (A2 (A3 Z Z) Z (B0 Z Z Z Z (fun hg => by rw [hg]; exact A3 Z Z) ?_)))); refine B0 Z Z Z Z (fun hg => by rw [hg]; exact K7 Z Z) ?_; refine A2 (B1 Z (fun h => by first | rfl | (rw [h]; rfl)) (fun h => by first | rfl | (rw [h]; rfl))) Z ?_; refine A2 (A3 Z Z) Z (B0 Z Z Z Z (fun hg => by rw [hg]; exact A3 Z Z) ?_); refine B0 Z Z Z Z (fun hg => by rw [hg]; exact K7 Z Z) ?_; refine A2 (B1 Z (fun h => by first | rfl | (rw [h]; rfl)) (fun h => by first | rfl | (rw [h]; rfl))) Z ?_; refine A2 (A3 Z Z) Z (B0 Z Z Z Z (fun hg => by rw [hg]; exact A7 Z) ?_); refine B0 Z Z Z Z (fun hg => by rw [hg]; exact A9 Z Z Z) ?_; refine B0 Z Z Z Z (fun hg => by rw [hg]; exact A3 Z Z) ?_; refine B0 Z Z Z Z (fun hg => by have hq := hg; (try simp at hq); rw [hg]; exact B5 Z (.pure _ _ _ _) Z (by omega) hv2) ?_; refine B0 Z Z Z Z (fun hg => by rw [hg]; exact D7 Z) ?_; refine B0 Z Z Z Z (fun hg => by rw [hg]; exact B9 Z Z) ?_; refine B0 Z Z Z Z (fun hg => by have hq := hg; (try simp at hq); rw [hg]; exact G9 (line_ok x.Text (by omega)) Z Z) ?_; refine B0 Z Z Z Z (fun hg => by rw [hg]; exact F4 Z) ?_; refine A2 (B1 Z (fun h => by first | rfl | (rw [h]; rfl)) (fun h => by first | rfl | (rw [h]; rfl))) Z ?_; refine A6 ?_
   refine k1 ?_
   refine B2 rfl (fun ht => ?_) (fun ht => ?_)
   ·simp only [kn32, kn45, kn43, G2, notB, or_pick] at ht
    have hb : badLn x := A0 ht
    refine k2 ?_
    refine A4 (A2 (A5 Z Z) Z (A6 ?_))
    refine k1 (k10 (k11 (k12 (k11 (k11 (k12 (k11 (k12 (k11 (k11 (k12 (k11 ?_))))))))))))
    refine B6 (H1 Z Z Z) ?_
    have : O9 x = false := decide_eq_false (fun hh => hh hb)
    rw [P1, hg, hn2, this]; rfl
   ·simp only [kn32, kn45, kn43, G2, notB, or_pick] at ht
    have hb : ¬ badLn x := A1 ht
    have hgl : O9 x = true := decide_eq_true hb
    rw [hgl, Bool.true_and] at hn2
    refine k5 (k1 ?_)
    refine A4 (A2 (A3 Z Z) Z (A2 (A3 Z Z) Z (B0 Z Z Z Z (fun hg => by rw [hg]; exact A3 Z Z) ?_))); refine B0 Z Z Z Z (fun hg => by rw [hg]; exact K7 Z Z) ?_; refine A2 (B1 Z (fun h => by first | rfl | (rw [h]; rfl)) (fun h => by first | rfl | (rw [h]; rfl))) Z ?_; refine A2 (A5 Z Z) Z (A6 ?_)
    refine k4 (k1 ?_)
    refine A4 (A2 (A3 Z Z) Z (A2 (C0 Z Z (by omega)) Z (A2 (A5 Z Z) Z (A6 ?_))))
    refine k1 ?_
    refine ⟨n + 1, ⟨by omega, hn2⟩, by omega, ?_⟩
    rw [kn32, ← hsucc]
    exact Sees.of ⟨le1 rfl, le1 rfl, le1 rfl, le1 rfl, le1 rfl, le1 rfl, le1 rfl, trivial⟩ ⟨rfl, rfl, trivial⟩
  ·have hn' : n = h.Lines.length := by have := A1 ht; omega
   subst hn'
   rw [List.take_length]
   rw [List.drop_eq_nil_of_le (Nat.le_refl _)] at hn2
   rw [hn2, List.all_nil, Bool.true_and] at hg
   refine k6 (k2 (k2 ?_))
   refine A4 (A2 (A3 Z Z) Z (A2 (F4 Z) Z (A2 (A3 Z Z) Z (B0 Z Z Z Z (fun hg => by rw [hg]; exact A7 Z) ?_)))); refine B0 Z Z Z Z (fun hg => by rw [hg]; exact A9 Z Z Z) ?_; refine B0 Z Z Z Z (fun hg => by rw [hg]; exact A3 Z Z) ?_; refine B0 Z Z Z Z (fun hg => by rw [hg]; exact E3 Z Z) ?_; refine A2 (B1 Z (fun h => by first | rfl | (rw [h]; rfl)) (fun h => by first | rfl | (rw [h]; rfl))) Z ?_; refine A2 (A3 Z Z) Z (B0 Z Z Z Z (fun hg => by rw [hg]; exact A7 Z) ?_); refine B0 Z Z Z Z (fun hg => by rw [hg]; exact A9 Z Z Z) ?_; refine B0 Z Z Z Z (fun hg => by rw [hg]; exact A3 Z Z) ?_; refine B0 Z Z Z Z (fun hg => by rw [hg]; exact E3 Z Z) ?_; refine A2 (B1 Z (fun h => by first | rfl | (rw [h]; rfl)) (fun h => by first | rfl | (rw [h]; rfl))) Z ?_; refine A2 (A3 Z Z) Z (B0 Z Z Z Z (fun hg => by rw [hg]; exact A7 Z) ?_); refine B0 Z Z Z Z (fun hg => by rw [hg]; exact A9 Z Z Z) ?_; refine B0 Z Z Z Z (fun hg => by rw [hg]; exact N4 Z Z) ?_; refine A2 (B1 Z (fun h => by first | rfl | (rw [h]; rfl)) (fun h => by first | rfl | (rw [h]; rfl))) Z ?_; refine A2 (A3 Z Z) Z (B0 Z Z Z Z (fun hg => by rw [hg]; exact A7 Z) ?_); refine B0 Z Z Z Z (fun hg => by rw [hg]; exact A9 Z Z Z) ?_; refine B0 Z Z Z Z (fun hg => by rw [hg]; exact N4 Z Z) ?_; refine A2 (B1 Z (fun h => by first | rfl | (rw [h]; rfl)) (fun h => by first | rfl | (rw [h]; rfl))) Z ?_; refine A2 (A3 Z Z) Z (B0 Z Z Z Z (fun hg => by rw [hg]; exact A7 Z) ?_); refine B0 Z Z Z Z (fun hg => by rw [hg]; exact A9 Z Z Z) ?_; refine B0 Z Z Z Z (fun hg => by rw [hg]; exact A3 Z Z) ?_; refine B0 Z Z Z Z (fun hg => by have hq := hg; (try simp at hq); rw [hg]; exact I1 Z Z (by omega)) ?_; refine B0 Z Z Z Z (fun hg => by rw [hg]; exact A7 Z) ?_; refine B0 Z Z Z Z (fun hg => by rw [hg]; exact A9 Z Z Z) ?_; refine B0 Z Z Z Z (fun hg => by rw [hg]; exact A3 Z Z) ?_; refine B0 Z Z Z Z (fun hg => by have hq := hg; (try simp at hq); rw [hg]; exact I1 Z Z (by omega)) ?_; refine B0 Z Z Z Z (fun hg => by rw [hg]; exact K7 Z Z) ?_; refine A2 (B1 Z (fun h => by first | rfl | (rw [h]; rfl)) (fun h => by first | rfl | (rw [h]; rfl))) Z ?_; refine A6 ?_
   refine k1 ?_
   refine B2 rfl (fun ht => ?_) (fun ht => ?_)
   ·simp only [notB, or_pick] at ht
    have hb : P0 (U2 h.Lines) i j h := A0 ht
    refine k2 ?_
    refine A4 (A2 (A5 Z Z) Z (A6 ?_))
    refine k1 (k10 (k11 (k12 (k11 (k11 (k12 (k11 ?_)))))))
    exact B6 (H1 rfl rfl rfl) (by rw [P1, hg, decide_eq_false (fun hh => hh hb)]; rfl)
   ·simp only [notB, or_pick] at ht
    have hb : ¬ P0 (U2 h.Lines) i j h := A1 ht
    rw [decide_eq_true hb, Bool.true_and] at hg
    have hb2 : i ≤ h.Old ∧ j ≤ h.New ∧ h.Old ≤ 4096 ∧ h.New ≤ 4096 := by unfold P0 at hb; omega
    refine k5 (k1 (k2 ?_))
    refine C7 (by kernel_rfl) (by kernel_rfl) (A8 (A7 Z) Z Z (A8 (A9 Z Z Z) Z Z (A8 (E4 Z Z Z) Z Z (A8 (G9 (u9 h 43 (by omega)) Z Z) Z Z (A8 (E1 Z (.pure _ _ _ _)) Z Z (A8 (C0 Z Z (by omega)) Z Z (A8 (A7 Z) Z Z (A8 (A9 Z Z Z) Z Z (A8 (E4 Z Z Z) Z Z (A8 (G9 (u9 h 45 (by omega)) Z Z) Z Z (A8 (E1 Z (.pure _ _ _ _)) Z Z (A8 (C0 Z Z (by omega)) Z Z (A8 (A5 Z Z) Z Z (A8 (A5 Z Z) Z Z (H2 ?_)))))))))))))))
    refine k1 (k2 ?_)
    refine A4 (A2 (A3 Z Z) Z (A2 (N4 Z Z) Z (A2 (A3 Z Z) Z (B0 Z Z Z Z (fun hg => by rw [hg]; exact A3 Z Z) ?_)))); refine B0 Z Z Z Z (fun hg => by rw [hg]; exact N4 Z Z) ?_; refine A2 (B1 Z (fun h => by first | rfl | (rw [h]; rfl)) (fun h => by first | rfl | (rw [h]; rfl))) Z ?_; refine A6 ?_
    refine k1 ?_
    refine B2 rfl (fun ht => ?_) (fun ht => ?_)
    ·have hb3 := A0 (or_pick.symm.trans ht)
     refine k2 ?_
     refine A4 (A2 (A5 Z Z) Z (A6 ?_))
     refine k1 (k10 (k12 (k11 (k11 (k12 (k11 ?_))))))
     exact B6 (H1 rfl rfl rfl) (by rw [P1, hg, decide_eq_false (fun hh => hh hb3)]; rfl)
    ·have hb3 := A1 (or_pick.symm.trans ht)
     rw [decide_eq_true (p := ¬ (4096 < h.Old + J5 h ∨ 4096 < h.New + L1 h)) hb3, Bool.true_and] at hg
     refine k5 (k4 (k1 ?_))
     refine A4 (A2 (A3 Z Z) Z (A2 (C0 Z Z (by omega)) Z (A2 (A5 Z Z) Z (A6 ?_))))
     refine k1 ?_
     exact ⟨(k + 1, h.Old + J5 h, h.New + L1 h), ⟨by dsimp only; omega, hg, by unfold J5; dsimp only; omega, by unfold J5; dsimp only; omega, by unfold L1; dsimp only; omega, by unfold L1; dsimp only; omega⟩, by dsimp only; omega, Sees.of ⟨le1 rfl, le1 rfl, le1 rfl, le1 rfl, trivial⟩ ⟨rfl, trivial⟩⟩
 ·have hk' : k = p.Hunks.length := by have := A1 ht; omega
  rw [hk', List.drop_eq_nil_of_le (Nat.le_refl _), S7] at hg
  refine k6 (k2 ?_)
  refine A4 (A2 (E4 Z Z Z) Z (C3 (rside_ok p 43 hp) Z Z Z ?_)); rintro _ rfl; refine A2 (A3 Z Z) Z (B0 Z Z Z Z (fun hg => by rw [hg]; exact E4 Z Z Z) ?_); refine B0 Z Z Z Z (fun hg => by have hq := hg; (try simp at hq); rw [hg]; exact G9 (rside_ok p 45 hp) Z Z) ?_; refine A2 (B1 Z (fun h => by first | rfl | (rw [h]; rfl)) (fun h => by first | rfl | (rw [h]; rfl))) Z ?_; refine A2 (A5 Z Z) Z (A6 ?_)
  refine k1 (k10 ?_)
  refine B6 (H1 Z Z Z) ?_
  rw [P1, hg]
  cases sideOk p.Hunks 43 <;> rfl
theorem rwrite_ok (p : Patch) (hp : PFit p) (hrange : ∀ h ∈ p.Hunks, (-4611686018427387904 ≤ h.Old ∧ h.Old ≤ 4611686018427387904) ∧ (-4611686018427387904 ≤ h.New ∧ h.New ≤ 4611686018427387904)) : FnOk Tryz.prog 78 [pPatch p] (fun rs => rs = [G6 (J6 p)]) := by
 have hsl := szP_len p.Hunks
 have hpl := hp.hunks
 have hpo := hp.old
 have hpn := hp.new
 have hq1 := j8 p.OldName
 have hq2 := j8 p.NewName
 have hnf := l5 p
 have hnl : (Y3 p).length = 2 := rfl
 refine FnOk.intro Tryz.func78 (by decide) Z Z Z Z ?_
 refine k2 ?_
 refine A4 (C9 (c8 1 Z Z Z) Z (A2 (A5 Z Z) Z (A6 ?_)))
 refine k1 (k2 ?_)
 refine N5 10 (by kernel_rfl) (by kernel_rfl) Z (A8 (A7 Z) Z Z (A8 (A9 Z Z Z) Z Z (A8 (G9 (rquote_ok p.OldName (by omega)) Z Z) Z Z (A8 (H3 Z Z (by (simp only [List.length_cons, List.length_nil]; omega))) Z Z (A8 (H3 Z Z (by (simp only [List.length_append, List.length_cons, List.length_nil]; omega))) Z Z (A8 (A7 Z) Z Z (A8 (A9 Z Z Z) Z Z (A8 (G9 (rquote_ok p.NewName (by omega)) Z Z) Z Z (A8 (H3 Z Z (by (simp only [List.length_cons, List.length_nil]; omega))) Z Z (A8 (H3 Z Z (by (simp only [List.length_append, List.length_cons, List.length_nil]; omega))) Z Z (H2 (d_turn (f_buildBuf 3 (c := I2) (ys := (Y3 p)) (E6 Z Z Z Z (E6 Z Z Z Z I6)) Z Z Z (by first | rfl | (simp [I3, M7, Ob.free, SV.free, S1.free, TC.free] <;> rfl))) Z ?_)))))))))))); refine A8 (A5 Z Z) Z Z (H2 ?_)
 refine k1 (k2 (k2 ?_))
 refine A4 (A2 (A5 Z Z) Z (A6 ?_))
 refine k1 (k3 ?_)
 refine E2 (X := Nat) (fun k => ([(1, .s (.one (.ref 1 0))), (3, .s (.one (.buf 3 Str 1 I2 (Y3 p ++ ((p.Hunks.take k).map S3).flatten)))), (4, C2 k)], [(1, .box (pPatch p).s1.cells), (3, .spare (Y3 p ++ ((p.Hunks.take k).map S3).flatten).length 1 9)])) (fun k => k ≤ p.Hunks.length) (fun k => p.Hunks.length - k) 0 (Nat.zero_le _) (Sees.of ⟨le1 rfl, le1 rfl, le1 rfl, trivial⟩ ⟨rfl, rfl, trivial⟩) ?_
 intro k hk
 dsimp only at hk ⊢
 have hle := szP_take p.Hunks k
 have hlb := hunksPs_len (p.Hunks.take k)
 refine k2 (k2 ?_)
 refine A4 (A2 (A3 Z Z) Z (A2 (A7 Z) Z (A2 (A9 Z Z Z) Z (A2 (E1 Z (.pure _ _ _ _)) Z (A2 (E3 Z Z) Z (A6 ?_))))))
 refine k1 ?_
 refine B2 rfl (fun ht => ?_) (fun ht => ?_)
 ·have hlt : k < p.Hunks.length := by have := A0 ht; omega
  have hv : p.Hunks[k]? = some p.Hunks[k] := by simp [hlt]
  have hmem : p.Hunks[k] ∈ p.Hunks := List.getElem_mem hlt
  have hsucc := hunkTo_succ p.Hunks k hlt
  obtain ⟨h, hx⟩ : ∃ x, x = p.Hunks[k] := ⟨_, rfl⟩
  rw [← hx] at hv hmem hsucc
  have h1 := s6 hmem
  have h3 := X2 h.Lines
  have ho := J1 h.Lines 43
  have hn := J1 h.Lines 45
  have hr1 := j9 h.Old (J5 h)
  have hr2 := j9 h.New (L1 h)
  unfold szH at h1
  obtain ⟨base, hbase⟩ : ∃ base, base = Y3 p ++ ((p.Hunks.take k).map S3).flatten := ⟨_, rfl⟩
  have hbl : base.length ≤ 2 + szP p.Hunks := by rw [hbase, List.length_append]; omega
  rw [← hbase]
  have hho : -4611686018427387904 ≤ h.Old ∧ h.Old ≤ 4611686018427387904 := (hrange h hmem).1
  have hhn : -4611686018427387904 ≤ h.New ∧ h.New ≤ 4611686018427387904 := (hrange h hmem).2
  refine k5 (k1 (k2 (k3 (k2 ?_))))
  refine A4 (A2 (A7 Z) Z (A2 (A9 Z Z Z) Z (A2 (A3 Z Z) Z (A2 (B5 Z (.pure _ _ _ _) Z (by omega) hv) Z (A2 (E5 Z Z) Z (C9 (G3 5 Z) Z (E9 (B7 TySz.out Z Z Z Z Z Z) (A6 ?_))))))))
  refine k1 (k2 ?_)
  refine C7 (by kernel_rfl) (by kernel_rfl) (A8 (A3 Z Z) Z Z (A8 (A7 Z) Z Z (A8 (A9 Z Z Z) Z Z (A8 (E4 Z Z Z) Z Z (A8 (G9 (u9 h 43 (by omega)) Z Z) Z Z (A8 (E1 Z (.pure _ _ _ _)) Z Z (A8 (G9 (rrange_ok h.Old _ hho (by omega)) Z Z) Z Z (A8 (H3 Z Z (by (simp only [List.length_cons, List.length_nil]; unfold J5 at hr1; omega))) Z Z (A8 (H3 Z Z (by (simp only [List.length_append, List.length_cons, List.length_nil]; unfold J5 at hr1; omega))) Z Z (A8 (A7 Z) Z Z (A8 (A9 Z Z Z) Z Z (A8 (E4 Z Z Z) Z Z (A8 (G9 (u9 h 45 (by omega)) Z Z) Z Z (A8 (E1 Z (.pure _ _ _ _)) Z Z (A8 (G9 (rrange_ok h.New _ hhn (by omega)) Z Z) Z Z (A8 (H3 Z Z (by (simp only [List.length_append, List.length_cons, List.length_nil]; unfold J5 at hr1; unfold L1 at hr2; omega))) Z Z (A8 (H3 Z Z (by (simp only [List.length_append, List.length_cons, List.length_nil]; unfold J5 at hr1; unfold L1 at hr2; omega))) Z Z (A8 (E0 (c := I2) (ys := [U9 h]) (E6 Z Z Z Z I6) Z Z Z) Z Z (d_effv (J4 Z Z Z (.pure _ _ _ _) (by (simp only [List.length_cons, List.length_nil]; omega)) Z) Z Z (A8 (A5 Z Z) Z Z (H2 ?_)))))))))))))))))))))
  refine k1 (k2 ?_)
  refine A4 (A2 (A5 Z Z) Z (A6 ?_))
  refine k1 (k3 ?_)
  refine E2 (X := Nat) (fun n => ([(1, .s (.one (.ref 1 0))), (3, .s (.one (.buf 3 Str 1 I2 (base ++ (U9 h :: ((h.Lines.take n).map P2).flatten))))), (4, C2 k), (5, .s (.one (.ref 5 0))), (6, C2 n)], [(1, .box (pPatch p).s1.cells), (3, .spare (base ++ (U9 h :: ((h.Lines.take n).map P2).flatten)).length 1 9), (5, .box (pPhunk h).s1.cells)])) (fun n => n ≤ h.Lines.length) (fun n => h.Lines.length - n) 0 (Nat.zero_le _) (Sees.of ⟨le1 rfl, le1 rfl, le1 rfl, le1 rfl, le1 rfl, trivial⟩ ⟨rfl, rfl, rfl, trivial⟩) ?_
  intro n hn1
  dsimp only at hn1 ⊢
  have hll := linesPs_len (h.Lines.take n)
  have hlt3 : (h.Lines.take n).length ≤ h.Lines.length := by rw [List.length_take]; omega
  refine k2 (k2 ?_)
  refine A4 (A2 (A3 Z Z) Z (A2 (A7 Z) Z (A2 (A9 Z Z Z) Z (A2 (E1 Z (.pure _ _ _ _)) Z (A2 (E3 Z Z) Z (A6 ?_))))))
  refine k1 ?_
  refine B2 rfl (fun ht => ?_) (fun ht => ?_)
  ·have hlt2 : n < h.Lines.length := by have := A0 ht; omega
   have hv2 : h.Lines[n]? = some h.Lines[n] := by simp [hlt2]
   have hmem2 := szL_mem (List.getElem_mem hlt2)
   have hsucc2 := lineTo_succ h.Lines n hlt2
   obtain ⟨x, hx2⟩ : ∃ x, x = h.Lines[n] := ⟨_, rfl⟩
   rw [← hx2] at hv2 hmem2 hsucc2
   refine k5 (k1 (k2 (k3 (k2 ?_))))
   refine C7 (by kernel_rfl) (by kernel_rfl) (A8 (A3 Z Z) Z Z (A8 (A7 Z) Z Z (A8 (A9 Z Z Z) Z Z (A8 (A3 Z Z) Z Z (A8 (B5 Z (.pure _ _ _ _) Z (by omega) hv2) Z Z (A8 (D7 Z) Z Z (A8 (B9 Z Z) Z Z (A8 (E0 (c := u8C) (ys := [x.Kind]) (E6 Z Z Z Z I6) Z Z Z) Z Z (A8 (m7 TyStr.out Z (.pure _ _ _ _)) Z Z (A8 (A7 Z) Z Z (A8 (A9 Z Z Z) Z Z (A8 (A3 Z Z) Z Z (A8 (B5 Z (.pure _ _ _ _) Z (by omega) hv2) Z Z (A8 (D7 Z) Z Z (A8 (B9 Z Z) Z Z (A8 (H3 Z Z (by (simp only [List.length_cons, List.length_nil]; omega))) Z Z (A8 (E0 (c := I2) (ys := [_]) (E6 Z Z Z Z I6) Z Z Z) Z Z (d_effv (J4 Z Z Z (.pure _ _ _ _) (by (simp only [List.length_append, List.length_cons, List.length_nil]; omega)) Z) Z Z (A8 (A5 Z Z) Z Z (H2 ?_))))))))))))))))))))
   have hcons : ∀ a b : List Str, base ++ U9 h :: (a ++ b) = base ++ U9 h :: a ++ b := fun a b => by simp
   refine k1 (k2 ?_)
   refine A4 (A2 (A7 Z) Z (A2 (A9 Z Z Z) Z (A2 (A3 Z Z) Z (A2 (B5 Z (.pure _ _ _ _) Z (by omega) hv2) Z (A2 (D7 Z) Z (A2 (B9 Z Z) Z (C3 (ended_ok x.Text (by omega)) Z Z Z ?_))))))); rintro _ rfl; refine A2 (F4 Z) Z (A6 ?_)
   refine k1 ?_
   refine B2 rfl (fun ht => ?_) (fun ht => ?_)
   ·have h2 : ended x.Text = false := by simpa using ht
    have e : P2 x = [[x.Kind] ++ x.Text] ++ [markS] := by rw [P2, h2]; rfl
    skip
    refine A4 (A2 (A3 Z Z) Z (A2 (E0 (c := I2) (ys := [markS]) (E6 Z Z Z Z I6) Z Z Z) Z (C9 (J4 Z Z Z (.pure _ _ _ _) (by (simp only [List.length_append, List.length_cons, List.length_nil]; omega)) Z) Z (A2 (A5 Z Z) Z (A6 ?_)))))
    refine k4 (k1 ?_)
    refine A4 (A2 (A3 Z Z) Z (A2 (C0 Z Z (by omega)) Z (A2 (A5 Z Z) Z (A6 ?_))))
    refine k1 ?_
    refine ⟨n + 1, by omega, by omega, ?_⟩
    rw [hsucc2, e, ← List.append_assoc, hcons, hcons]
    exact Sees.of ⟨le1 rfl, le1 rfl, le1 rfl, le1 rfl, le1 rfl, trivial⟩ ⟨rfl, rfl, rfl, trivial⟩
   ·have h2 : ended x.Text = true := by simpa using ht
    have e : P2 x = [[x.Kind] ++ x.Text] := by rw [P2, h2]; rfl
    refine k5 (k4 (k1 ?_))
    refine A4 (A2 (A3 Z Z) Z (A2 (C0 Z Z (by omega)) Z (A2 (A5 Z Z) Z (A6 ?_))))
    refine k1 ?_
    refine ⟨n + 1, by omega, by omega, ?_⟩
    rw [hsucc2, e, hcons]
    exact Sees.of ⟨le1 rfl, le1 rfl, le1 rfl, le1 rfl, le1 rfl, trivial⟩ ⟨rfl, rfl, rfl, trivial⟩
  ·have hn' : n = h.Lines.length := by have := A1 ht; omega
   subst hn'
   rw [List.take_length]
   refine k6 (k7 (k7 (k8 Z (k4 (k1 ?_)))))
   refine A4 (A2 (A3 Z Z) Z (A2 (C0 Z Z (by omega)) Z (A2 (A5 Z Z) Z (A6 ?_))))
   refine k1 ?_
   refine ⟨k + 1, by omega, by omega, ?_⟩
   rw [hsucc, ← List.append_assoc, ← hbase]
   exact Sees.of ⟨le1 rfl, le1 rfl, le1 rfl, trivial⟩ ⟨rfl, rfl, trivial⟩
 ·have hk' : k = p.Hunks.length := by have := A1 ht; omega
  subst hk'
  have hff := Z3 p.Hunks
  rw [List.take_length] at hlb ⊢
  have hall : (Y3 p ++ (p.Hunks.map S3).flatten).flatten.length ≤ 536870912 := by simp only [List.flatten_append, List.length_append]; omega
  refine k6 (k2 ?_)
  refine A4 (A2 (A3 Z Z) Z (C3 (all_ok _ hall) Z Z Z ?_)); rintro _ rfl; refine A2 (A5 Z Z) Z (A6 ?_)
  refine k1 (k10 ?_)
  exact B6 (H1 rfl rfl rfl) rfl
theorem rcheck12_ok (p : Patch) (hp : szP p.Hunks ≤ 268435456) : FnOk Tryz.prog 33 [pPatch p] (fun rs => rs = [F0 (F7 p)]) := by
 refine FnOk.intro Tryz.func33 (by decide) Z Z Z Z ?_
 refine k2 ?_
 refine A4 (C9 (c8 1 Z Z Z) Z (A2 (A5 Z Z) Z (A6 ?_)))
 refine k1 (k2 (k3 (k2 ?_)))
 refine A4 (A2 (A7 Z) Z (A2 (A9 Z Z Z) Z (C3 (rname_ok p.OldName) Z Z Z ?_))); rintro _ rfl; refine A2 (F4 Z) Z (A2 (A3 Z Z) Z (B0 Z Z Z Z (fun hg => by rw [hg]; exact A7 Z) ?_)); refine B0 Z Z Z Z (fun hg => by rw [hg]; exact A9 Z Z Z) ?_; refine B0 Z Z Z Z (fun hg => by have hq := hg; (try simp at hq); rw [hg]; exact G9 (rname_ok p.NewName) Z Z) ?_; refine B0 Z Z Z Z (fun hg => by rw [hg]; exact F4 Z) ?_; refine A2 (B1 Z (fun h => by first | rfl | (rw [h]; rfl)) (fun h => by first | rfl | (rw [h]; rfl))) Z ?_; refine A2 (A5 Z Z) Z (A6 ?_)
 refine k1 ?_
 refine B2 rfl (fun ht => ?_) (fun ht => ?_)
 ·simp only [notB, or_pick] at ht
  have h := A0 ht
  refine k2 ?_
  refine A4 (A2 (A5 Z Z) Z (A6 ?_))
  refine k1 (k10 (k12 (k11 ?_)))
  exact B6 (H1 rfl rfl rfl) (by rw [F7, if_pos h])
 ·simp only [notB, or_pick] at ht
  have h := A1 ht
  refine k2 ?_
  refine A4 (A2 (E4 Z Z Z) Z (C3 (rgood_ok p hp) Z Z Z ?_)); rintro _ rfl; refine A2 (F4 Z) Z (A2 (A5 Z Z) Z (A6 ?_))
  refine k1 ?_
  refine B2 rfl (fun ht => ?_) (fun ht => ?_)
  ·have h2 : P1 p.Hunks = false := by simpa using ht
   refine k2 ?_
   refine A4 (A2 (A5 Z Z) Z (A6 ?_))
   refine k1 (k10 (k12 (k11 ?_)))
   exact B6 (H1 rfl rfl rfl) (by rw [F7, if_neg h, if_pos h2])
  ·have h2 : P1 p.Hunks = true := by simpa using ht
   have hr := y2 h2
   have hn1 : L2 p.OldName = true := by by_cases hh : L2 p.OldName = true; exact hh; exact absurd (.inl (by simpa using hh)) h
   have hn2 : L2 p.NewName = true := by by_cases hh : L2 p.NewName = true; exact hh; exact absurd (.inr (by simpa using hh)) h
   have hn3 := A0 hn1
   have hn4 := A0 hn2
   have hpf : PFit p := ⟨by omega, by omega, hp⟩
   refine k2 ?_
   refine A4 (A2 (E4 Z Z Z) Z (C3 (rwrite_ok p hpf (fun x hx => by have := hr x hx; omega)) Z Z Z ?_)); rintro _ rfl; refine A2 (F5 Z) Z (A2 (N4 Z Z) Z (A2 (A5 Z Z) Z (A6 ?_)))
   refine k1 ?_
   refine B2 rfl (fun ht => ?_) (fun ht => ?_)
   ·have h3 := A0 ht
    refine k2 ?_
    refine A4 (A2 (A5 Z Z) Z (A6 ?_))
    refine k1 (k10 (k12 (k11 ?_)))
    exact B6 (H1 rfl rfl rfl) (by rw [F7, if_neg h, if_neg (by rw [h2]; decide), if_pos (by omega)])
   ·have h3 := A1 ht
    refine k5 (k2 ?_)
    refine A4 (A2 (A5 Z Z) Z (A6 ?_))
    refine k1 (k10 ?_)
    exact B6 (H1 rfl rfl rfl) (by rw [F7, if_neg h, if_neg (by rw [h2]; decide), if_neg (by omega)])
theorem rput_met {gf : Fr} {ob : Obs} (l : List PatchLine) (k : UInt8) (ts : List Str) (hk : D4 ob 701 = some (.spare l.length 2 36)) (hlen : l.length + ts.length ≤ 1073741824) :
  AL.Met Tryz.prog 122 [.one (.buf 701 PatchLine 2 plineC l), .one (.p (.v (.int .u8 k.toNat))), .one (.p (.list Str 1 I2 ts))] gf ob [701]
   (fun rs ob' => rs = [.one (.buf 701 PatchLine 2 plineC (l ++ N0 k ts))] ∧ ob' = (701, .spare (l ++ N0 k ts).length 2 36) :: Obs.forget 701 ob) := by
 refine AL.Met.introH Tryz.func122 (by decide) rfl rfl rfl (fun hH => ?_)
 refine k2 ?_
 refine A4 (A2 (A5 Z Z) Z (A6 ?_))
 refine k1 (k2 (k2 ?_))
 refine A4 (A2 (A5 Z Z) Z (A6 ?_))
 refine k1 (k3 ?_)
 refine E2 (X := Nat) (fun i => ([(0, .s (.one (.buf 701 PatchLine 2 plineC (l ++ N0 k (ts.take i))))), (1, .s (pByte k).s1), (2, D3 Str 1 I2 ts), (7, C2 i)] ++ Fr.forget 701 gf, (701, .spare (l ++ N0 k (ts.take i)).length 2 36) :: Obs.forget 701 ob)) (fun i => i ≤ ts.length) (fun i => ts.length - i) 0 (Nat.zero_le _) ?_ ?_
 ·have e : l ++ N0 k (ts.take 0) = l := by simp [N0]
  rw [e]
  exact Sees.tailF 701 ⟨le1 rfl, le1 rfl, le1 rfl, le1 rfl, trivial⟩ hH (by repeat (first | exact C6 | refine C5 rfl ?_)) hk
 intro i hi
 dsimp only at hi ⊢
 have hpl := l6 k (ts.take i)
 rw [List.length_take] at hpl
 refine k2 (k2 ?_)
 refine A4 (A2 (A3 Z Z) Z (A2 (A3 Z Z) Z (A2 (E1 Z (.pure _ _ _ _)) Z (A2 (E3 Z Z) Z (A6 ?_)))))
 refine k1 ?_
 refine B2 rfl (fun ht => ?_) (fun ht => ?_)
 ·have hlt : i < ts.length := by have := A0 ht; omega
  have hv : ts[i]? = some ts[i] := by simp [hlt]
  have hsucc := putOf_succ k ts i hlt
  refine k5 (k1 (k2 (k3 ?_)))
  refine A4 (A2 (A3 Z Z) Z (A2 (A3 Z Z) Z (A2 (A3 Z Z) Z (A2 (A3 Z Z) Z (A2 (B5 Z (.pure _ _ _ _) Z (by omega) hv) Z (A2 (B9 Z Z) Z (A2 (F6 Z) Z (A2 (E0 (c := plineC) (ys := [⟨k, ts[i]⟩]) (E6 Z Z Z Z I6) Z Z Z) Z (C9 (J4 Z Z Z (.pure _ _ _ _) (by (simp only [List.length_append, List.length_cons, List.length_nil]; omega)) Z) Z (A2 (A5 Z Z) Z (A6 ?_)))))))))))
  refine k4 (k1 ?_)
  refine A4 (A2 (A3 Z Z) Z (A2 (C0 Z Z (by omega)) Z (A2 (A5 Z Z) Z (A6 ?_))))
  refine k1 ?_
  refine ⟨i + 1, hlt, by omega, ?_⟩
  rw [hsucc, ← List.append_assoc]
  exact Sees.tailed ⟨le1 rfl, le1 rfl, le1 rfl, le1 rfl, trivial⟩ (L8 hH) (by repeat (first | exact C6 | refine C5 rfl ?_ | refine J0 _ ?_)) obs_step
 ·have hi' : i = ts.length := by have := A1 ht; omega
  subst hi'
  rw [List.take_length]
  refine k6 (k2 ?_)
  refine A4 (A2 (A3 Z Z) Z (A2 (A5 Z Z) Z (A6 ?_)))
  refine k1 (k10 ?_)
  exact G1 (R4 rfl rfl) (by repeat (first | exact C6 | refine C5 rfl ?_ | refine D2 _ ?_)) (fun _ _ h => h) ⟨rfl, rfl⟩
set_option maxHeartbeats 1000000
theorem rmake12_ok (on nn a b : Str) (ctx : Int) (ha : a.length ≤ 536870912) (hb : b.length ≤ 536870912) (hsz : szP (K6 (F1 a).1 (F1 b).1 ctx) ≤ 268435456) :
  FnOk Tryz.prog 54 [G6 on, G6 nn, G6 a, G6 b, F0 ctx, F9 false] (fun rs => rs = [pPatch (make12 on nn a b ctx).1, F0 (make12 on nn a b ctx).2]) := by
 obtain ⟨x, hx⟩ : ∃ x, x = (F1 a).1 := ⟨_, rfl⟩
 obtain ⟨y, hy⟩ : ∃ y, y = (F1 b).1 := ⟨_, rfl⟩
 have hxl : x.length ≤ 4096 := by rw [hx]; exact splitOf_len a
 have hyl : y.length ≤ 4096 := by rw [hy]; exact splitOf_len b
 have hmk : make12 on nn a b ctx = if L2 on = false ∨ L2 nn = false then (K3, 120)
   else if (F1 a).2 ≠ 0 then (K3, (F1 a).2)
   else if (F1 b).2 ≠ 0 then (K3, (F1 b).2)
   else if (M3 (L4 x y) x.length y.length ctx).2 ≠ 0 then (K3, (M3 (L4 x y) x.length y.length ctx).2)
   else if F7 ⟨on, nn, K6 x y ctx⟩ ≠ 0 then (K3, F7 ⟨on, nn, K6 x y ctx⟩)
   else (⟨on, nn, K6 x y ctx⟩, 0) := by rw [hx, hy]; rfl
 rw [← hx, ← hy] at hsz
 refine FnOk.intro Tryz.func54 (by decide) Z Z Z Z ?_
 refine k2 ?_
 refine A4 (C9 (G3 12 Z) Z (A2 (A5 Z Z) Z (A6 ?_)))
 refine k1 (k2 (k2 ?_))
 refine A4 (A2 (A3 Z Z) Z (C3 (rname_ok on) Z Z Z ?_)); rintro _ rfl; refine A2 (F4 Z) Z (A2 (A3 Z Z) Z (B0 Z Z Z Z (fun hg => by rw [hg]; exact A3 Z Z) ?_)); refine B0 Z Z Z Z (fun hg => by have hq := hg; (try simp at hq); rw [hg]; exact G9 (rname_ok nn) Z Z) ?_; refine B0 Z Z Z Z (fun hg => by rw [hg]; exact F4 Z) ?_; refine A2 (B1 Z (fun h => by first | rfl | (rw [h]; rfl)) (fun h => by first | rfl | (rw [h]; rfl))) Z ?_; refine A6 ?_
 refine k1 ?_
 refine B2 rfl (fun ht => ?_) (fun ht => ?_)
 ·simp only [notB, or_pick] at ht
  have h := A0 ht
  refine k2 ?_
  refine A4 (A2 (F6 Z) Z (E9 (B7 TySz.out Z Z Z Z Z Z) (A2 (A5 Z Z) Z (A6 ?_))))
  refine k1 ?_
  refine F8 (Sees.listB PatchHunk 3 phunkC 12 2 Z Z) ?_
  refine k10 (k11 ?_)
  exact B6 (rs := [pPatch K3, F0 120]) (Z5 rfl rfl rfl rfl rfl rfl rfl) (by rw [hmk, if_pos h])
 simp only [notB, or_pick] at ht
 have h := A1 ht
 rw [if_neg h] at hmk
 refine k5 (k1 (k2 ?_))
 refine A4 (A2 (A3 Z Z) Z (C3 (rsplit_ok a ha) Z Z Z ?_)); rintro _ rfl; refine A2 (A3 Z Z) Z (A2 (B3 Z Z) Z (A2 (B3 Z Z) Z (A2 (A5 Z Z) Z (A2 (A5 Z Z) Z (A6 ?_)))))
 rw [← hx]
 refine k1 (k2 (k2 ?_))
 refine A4 (A2 (A3 Z Z) Z (A2 (K7 Z Z) Z (A6 ?_)))
 refine k1 ?_
 refine B2 rfl (fun ht => ?_) (fun ht => ?_)
 ·have h1 : (F1 a).2 ≠ 0 := A0 ht
  refine k2 ?_
  refine A4 (A2 (F6 Z) Z (A2 (A3 Z Z) Z (E9 (B7 TySz.out Z Z Z Z Z Z) (A2 (A5 Z Z) Z (A6 ?_)))))
  refine k1 ?_
  refine F8 (Sees.listB PatchHunk 3 phunkC 12 2 Z Z) ?_
  refine k10 (k11 ?_)
  exact B6 (rs := [pPatch K3, F0 (F1 a).2]) (Z5 rfl rfl rfl rfl rfl rfl rfl) (by rw [hmk, if_pos h1])
 have h1 : ¬ (F1 a).2 ≠ 0 := A1 ht
 rw [if_neg h1] at hmk
 refine k5 (k1 (k2 ?_))
 refine A4 (A2 (A3 Z Z) Z (C3 (rsplit_ok b hb) Z Z Z ?_)); rintro _ rfl; refine A2 (A3 Z Z) Z (A2 (B3 Z Z) Z (A2 (B3 Z Z) Z (A2 (A5 Z Z) Z (A2 (A5 Z Z) Z (A6 ?_)))))
 rw [← hy]
 refine k1 (k2 (k2 ?_))
 refine A4 (A2 (A3 Z Z) Z (A2 (K7 Z Z) Z (A6 ?_)))
 refine k1 ?_
 refine B2 rfl (fun ht => ?_) (fun ht => ?_)
 ·have h2 : (F1 b).2 ≠ 0 := A0 ht
  refine k2 ?_
  refine A4 (A2 (F6 Z) Z (A2 (A3 Z Z) Z (E9 (B7 TySz.out Z Z Z Z Z Z) (A2 (A5 Z Z) Z (A6 ?_)))))
  refine k1 ?_
  refine F8 (Sees.listB PatchHunk 3 phunkC 12 2 Z Z) ?_
  refine k10 (k11 ?_)
  exact B6 (rs := [pPatch K3, F0 (F1 b).2]) (Z5 rfl rfl rfl rfl rfl rfl rfl) (by rw [hmk, if_pos h2])
 have h2 : ¬ (F1 b).2 ≠ 0 := A1 ht
 rw [if_neg h2] at hmk
 have hscl := y3 x y
 refine k5 (k1 (k2 ?_))
 refine A4 (A2 (A3 Z Z) Z (A2 (A3 Z Z) Z (C3 (rlines9_ok x y hxl hyl) Z Z Z ?_))); rintro _ rfl; refine A2 (A5 Z Z) Z (A6 ?_)
 rw [show walkOf (F2 (D1 [x, y]) x) (F2 (D1 [x, y]) y) = L4 x y from rfl]
 obtain ⟨l, hl⟩ : ∃ l, l = L4 x y := ⟨_, rfl⟩
 rw [← hl] at hmk hscl ⊢
 refine k1 (k2 (k2 ?_))
 refine A4 (A2 (A3 Z Z) Z (A6 ?_))
 refine k1 ?_
 refine B2 rfl (fun ht => ?_) (fun ht => ?_)
 ·cases ht
 refine k5 (k1 (k2 ?_))
 refine A4 (A2 (A3 Z Z) Z (A2 (A3 Z Z) Z (A2 (E1 Z (.pure _ _ _ _)) Z (A2 (A3 Z Z) Z (A2 (E1 Z (.pure _ _ _ _)) Z (A2 (A3 Z Z) Z (C3 (group_walk l x.length y.length ctx (by omega)) Z Z Z ?_))))))); rintro _ rfl; refine A2 (A3 Z Z) Z (A2 (B3 Z Z) Z (A2 (B3 Z Z) Z (A2 (A5 Z Z) Z (A2 (A5 Z Z) Z (A6 ?_)))))
 obtain ⟨g, hg⟩ : ∃ g, g = M3 l x.length y.length ctx := ⟨_, rfl⟩
 rw [← hg] at hmk ⊢
 refine k1 (k2 (k2 ?_))
 refine A4 (A2 (A3 Z Z) Z (A2 (K7 Z Z) Z (A6 ?_)))
 refine k1 ?_
 refine B2 rfl (fun ht => ?_) (fun ht => ?_)
 ·have h3 : g.2 ≠ 0 := A0 ht
  refine k2 ?_
  refine A4 (A2 (F6 Z) Z (A2 (A3 Z Z) Z (E9 (B7 TySz.out Z Z Z Z Z Z) (A2 (A5 Z Z) Z (A6 ?_)))))
  refine k1 ?_
  refine F8 (Sees.listB PatchHunk 3 phunkC 12 2 Z Z) ?_
  refine k10 (k11 ?_)
  exact B6 (rs := [pPatch K3, F0 g.2]) (Z5 rfl rfl rfl rfl rfl rfl rfl) (by rw [hmk, if_pos h3])
 have h3 : ¬ g.2 ≠ 0 := A1 ht
 rw [if_neg h3] at hmk
 have hmh : K6 x y ctx = g.1.map (H5 l x y) := by rw [K6, ← hl, ← hg]
 have hgok : ScOk 0 0 l x.length y.length ∧ ∀ q ∈ g.1, HunkOk l x.length l.length q := by
  rw [hg, M3] at h3
  by_cases c1 : ctx < 0 ∨ 1048576 < ctx
  ·rw [if_pos c1] at h3; exact absurd (by decide) h3
  rw [if_neg c1] at h3
  by_cases c2 : Q4 l x.length y.length ≠ 0
  ·rw [if_pos c2] at h3; exact absurd c2 h3
  obtain ⟨_, _, c3⟩ := check8_ok (Decidable.not_not.1 c2)
  refine ⟨c3, ?_⟩
  rw [hg, M3, if_neg c1, if_neg c2]
  exact groupTo_ok c3 (by omega) l.length (Nat.le_refl _)
 obtain ⟨hsc, hgs⟩ := hgok
 refine T5 [(0, O7 on), (1, O7 nn), (12, .s (.one (.ref 12 0))), (14, D3 Str 1 I2 x), (16, D3 Str 1 I2 y), (17, D3 Change 4 changeC l), (19, D3 Hunk 6 hunkC g.1)] [(12, .box [.p (.v (.string ⟨#[]⟩)), .p (.v (.string ⟨#[]⟩)), .p (.v (.slice none 0 0))])] (Sees.of ⟨le1 rfl, le1 rfl, le1 rfl, le1 rfl, le1 rfl, le1 rfl, le1 rfl, trivial⟩ ⟨rfl, trivial⟩) ?_
 refine k5 (k1 (k2 ?_))
 refine A4 (A2 (A3 Z Z) Z (A2 (A3 Z Z) Z (A2 (F6 Z) Z (C9 (G3 20 Z) Z (E9 (B7 TySz.out Z Z Z Z Z Z) (A6 ?_))))))
 refine k1 (k2 (k2 ?_))
 refine F8 (Sees.adoptB 702 PatchHunk 3 phunkC 29 (kb := 20) (o := 2) Z Z Z) ?_
 skip
 refine A4 (A2 (A5 Z Z) Z (A6 ?_))
 refine k1 (k3 ?_)
 refine E2 (X := Nat) (fun k => ([(12, .s (.one (.ref 12 0))), (14, D3 Str 1 I2 x), (16, D3 Str 1 I2 y), (17, D3 Change 4 changeC l), (19, D3 Hunk 6 hunkC g.1), (20, .s (.one (.ref 20 0))), (21, C2 k)], [(12, .box [.p (.v (.string ⟨#[]⟩)), .p (.v (.string ⟨#[]⟩)), .p (.v (.slice none 0 0))]), (20, .box [.p (.v (.string ⟨on.toArray⟩)), .p (.v (.string ⟨nn.toArray⟩)), .buf 702 PatchHunk 3 phunkC ((g.1.take k).map (H5 l x y))]), (702, .spare (((g.1.take k).map (H5 l x y))).length 3 29)])) (fun k => k ≤ g.1.length) (fun k => g.1.length - k) 0 (Nat.zero_le _) (Sees.of ⟨le1 rfl, le1 rfl, le1 rfl, le1 rfl, le1 rfl, le1 rfl, le1 rfl, trivial⟩ ⟨rfl, rfl, rfl, trivial⟩) ?_
 intro k hk
 dsimp only at hk ⊢
 refine k2 (k2 ?_)
 refine A4 (A2 (A3 Z Z) Z (A2 (A3 Z Z) Z (A2 (E1 Z (.pure _ _ _ _)) Z (A2 (E3 Z Z) Z (A6 ?_)))))
 refine k1 ?_
 refine B2 rfl (fun ht => ?_) (fun ht => ?_)
 ·have hlt : k < g.1.length := by have := A0 ht; omega
  have hv : g.1[k]? = some g.1[k] := by simp [hlt]
  have hq := hgs _ (List.getElem_mem hlt)
  have htk : (g.1.take (k + 1)).map (H5 l x y) = (g.1.take k).map (H5 l x y) ++ [H5 l x y g.1[k]] := by rw [List.take_succ_eq_append_getElem hlt, List.map_append]; rfl
  obtain ⟨q, hqe⟩ : ∃ q, q = g.1[k] := ⟨_, rfl⟩
  rw [← hqe] at hv hq htk
  obtain ⟨hs, hhs⟩ : ∃ hs, hs = (g.1.take k).map (H5 l x y) := ⟨_, rfl⟩
  have hhl : hs.length = k := by rw [hhs, List.length_map, List.length_take]; omega
  rw [← hhs] at htk ⊢
  obtain ⟨a, b, q1, q2, q3, q4, q5, q6, q7, q8, q9, q10⟩ := hq
  have hgb := hsc.get b q4
  refine k5 (k1 (k2 (k3 (k2 ?_))))
  refine c_region_alloc 13 22 (by kernel_rfl) (by kernel_rfl) Z Z Z (b_neu (A3 Z Z) Z (A3 Z Z) (b_neu (A3 Z Z) Z (A3 Z Z) (b_neu (B5 Z (.pure _ _ _ _) Z (by omega) hv) Z (B5 Z (.pure _ _ _ _) Z (by omega) hv) (b_neu (D7 Z) Z (D7 Z) (b_neu (D7 Z) Z (D7 Z) (b_neu (B9 Z Z) Z (B9 Z Z) (b_neu (A3 Z Z) Z (A3 Z Z) (b_neu (A3 Z Z) Z (A3 Z Z) (b_neu (B5 Z (.pure _ _ _ _) Z (by omega) hv) Z (B5 Z (.pure _ _ _ _) Z (by omega) hv) (b_neu (D7 Z) Z (D7 Z) (b_neu (D7 Z) Z (D7 Z) (b_neu (B9 Z Z) Z (B9 Z Z) (b_neu (F6 Z) Z (F6 Z) (b_nil Z (y7 (B7 TySz.out Z Z Z Z Z Z) Z (H2 ?_))))))))))))))))
  refine k1 (k2 ?_)
  refine F8 (Sees.adoptB 701 PatchLine 2 plineC 36 (kb := 22) (o := 2) Z Z Z) ?_
  refine A4 (A2 (A7 Z) Z (A2 (A9 Z Z Z) Z (A2 (A5 Z Z) Z (A6 ?_))))
  refine k1 (k2 (k2 ?_))
  refine A4 (A2 (A3 Z Z) Z (A2 (A3 Z Z) Z (A2 (B5 Z (.pure _ _ _ _) Z (by omega) hv) Z (A2 (D7 Z) Z (A2 (B9 Z Z) Z (A2 (A5 Z Z) Z (A6 ?_)))))))
  refine k1 (k3 ?_)
  refine E2 (X := Nat) (fun t => ([(12, .s (.one (.ref 12 0))), (14, D3 Str 1 I2 x), (16, D3 Str 1 I2 y), (17, D3 Change 4 changeC l), (19, D3 Hunk 6 hunkC g.1), (20, .s (.one (.ref 20 0))), (21, C2 k), (22, .s (.one (.ref 22 0))), (23, C2 (S6 l q.Old.From a t)), (24, C2 ((a + t : Nat) : Int))], [(12, .box [.p (.v (.string ⟨#[]⟩)), .p (.v (.string ⟨#[]⟩)), .p (.v (.slice none 0 0))]), (20, .box [.p (.v (.string ⟨on.toArray⟩)), .p (.v (.string ⟨nn.toArray⟩)), .buf 702 PatchHunk 3 phunkC hs]), (702, .spare (hs).length 3 29), (22, .box [.p (.v (.int .i64 q.Old.From)), .p (.v (.int .i64 q.New.From)), .buf 701 PatchLine 2 plineC (N3 l x y q.Old.From a t)]), (701, .spare (N3 l x y q.Old.From a t).length 2 36)])) (fun t => a + t ≤ b + 1) (fun t => b + 1 - (a + t)) 0 (by omega) ?_ ?_
  ·have e1 : S6 l q.Old.From a 0 = q.Old.From := if_pos rfl
   rw [e1, show ((a + 0 : Nat) : Int) = q.First by rw [q1]; simp]
   exact Sees.of ⟨le1 rfl, le1 rfl, le1 rfl, le1 rfl, le1 rfl, le1 rfl, le1 rfl, le1 rfl, le1 rfl, le1 rfl, trivial⟩ ⟨rfl, rfl, rfl, rfl, rfl, trivial⟩
  intro t hat
  dsimp only at hat ⊢
  have hml := madeTo_len l x y q.Old.From a t
  have hml2 : (N3 l x y q.Old.From a t).length ≤ 4097 * 12288 := Nat.le_trans hml (Nat.mul_le_mul (by omega) (by omega))
  refine k2 (k2 ?_)
  refine A4 (A2 (A3 Z Z) Z (A2 (A3 Z Z) Z (A2 (A3 Z Z) Z (A2 (B5 Z (.pure _ _ _ _) Z (by omega) hv) Z (A2 (D7 Z) Z (A2 (B9 Z Z) Z (A2 (E3 Z Z) Z (A6 ?_))))))))
  refine k1 ?_
  refine B2 rfl (fun ht => ?_) (fun ht => ?_)
  ·have hlt2 : a + t ≤ b := by have : ((a + t : Nat) : Int) < q.Last := A0 ht; omega
   obtain ⟨c, hc⟩ : ∃ c, c = cAt l (a + t) := ⟨_, rfl⟩
   have hcv : l[((a + t : Nat) : Int).toNat]? = some c := by rw [hc]; exact i6 (by omega)
   have hgc := hsc.get (a + t) (by omega)
   rw [← hc] at hgc
   obtain ⟨⟨g1, g2⟩, ⟨g3, g4⟩, ⟨g5, g6⟩, ⟨g7, g8⟩, g9, g10⟩ := hgc
   obtain ⟨i0, hi0⟩ : ∃ i0, i0 = S6 l q.Old.From a t := ⟨_, rfl⟩
   have hpos : 0 ≤ i0 ∧ i0 ≤ c.Old := by
    rw [hi0, hc]; unfold S6 V8
    split
    ·rename_i h0; subst h0; exact ⟨q5, q6⟩
    ·have h4 := hsc.next (a + t - 1) (by omega)
     have h5 := hsc.get (a + t - 1) (by omega)
     rw [show a + t - 1 + 1 = a + t by omega] at h4
     unfold G7 at h5; omega
   obtain ⟨ls, hls⟩ : ∃ ls, ls = N3 l x y q.Old.From a t := ⟨_, rfl⟩
   obtain ⟨p1, hp1⟩ : ∃ p1, p1 = N0 32 (sub x i0 c.Old) := ⟨_, rfl⟩
   obtain ⟨p2, hp2⟩ : ∃ p2, p2 = N0 45 (sub x c.Old (V8 c)) := ⟨_, rfl⟩
   obtain ⟨p3, hp3⟩ : ∃ p3, p3 = N0 43 (sub y c.New (c.New + c.NewLen)) := ⟨_, rfl⟩
   have hsucc : N3 l x y q.Old.From a (t + 1) = ls ++ p1 ++ p2 ++ p3 := by rw [hls, hp1, hp2, hp3, hi0, hc]; rfl
   have hps : S6 l q.Old.From a (t + 1) = V8 c := by rw [posTo_succ, hc]
   have l1 := Z4 x i0 c.Old
   have l2 := Z4 x c.Old (V8 c)
   have l3 := Z4 y c.New (c.New + c.NewLen)
   have m1 : p1.length = (sub x i0 c.Old).length := by rw [hp1, l6]
   have m2 : p2.length = (sub x c.Old (V8 c)).length := by rw [hp2, l6]
   have hend : V8 c = c.Old + c.OldLen := rfl
   rw [← hls] at hml2 ⊢
   rw [← hi0]
   refine k5 (k1 (k2 (k3 (k2 ?_))))
   refine N5 10 (by kernel_rfl) (by kernel_rfl) Z (A8 (A7 Z) Z Z (A8 (A9 Z Z Z) Z Z (A8 (A3 Z Z) Z Z (A8 (A3 Z Z) Z Z (A8 (A3 Z Z) Z Z (A8 (A3 Z Z) Z Z (A8 (B5 Z (.pure _ _ _ _) Z (by omega) hcv) Z Z (A8 (D7 Z) Z Z (A8 (B9 Z Z) Z Z (A8 (R8 Z (.pure _ _ _ _) Z Z (by omega) (by omega) (by omega)) Z Z (H2 (m9 (rput_met ls 32 (sub x i0 c.Old) Z (by omega)) Z Z Z ?_)))))))))))); rintro _ _ ⟨rfl, rfl⟩; refine ⟨_, rfl, ?_⟩; refine A8 (A7 Z) Z Z (y7 (B7 TySz.out Z Z Z Z Z Z) Z (H2 ?_))
   rw [← hp1]
   refine k1 (k2 ?_)
   refine C7 (by kernel_rfl) (by kernel_rfl) (A8 (A3 Z Z) Z Z (A8 (A3 Z Z) Z Z (A8 (B5 Z (.pure _ _ _ _) Z (by omega) hcv) Z Z (A8 (D7 Z) Z Z (A8 (B9 Z Z) Z Z (A8 (A3 Z Z) Z Z (A8 (A3 Z Z) Z Z (A8 (B5 Z (.pure _ _ _ _) Z (by omega) hcv) Z Z (A8 (D7 Z) Z Z (A8 (B9 Z Z) Z Z (A8 (C0 Z Z (by omega)) Z Z (A8 (A5 Z Z) Z Z (H2 ?_)))))))))))))
   rw [show c.Old + c.OldLen = V8 c from rfl]
   refine k1 (k2 ?_)
   refine N5 10 (by kernel_rfl) (by kernel_rfl) Z (A8 (A7 Z) Z Z (A8 (A9 Z Z Z) Z Z (A8 (A3 Z Z) Z Z (A8 (A3 Z Z) Z Z (A8 (A3 Z Z) Z Z (A8 (B5 Z (.pure _ _ _ _) Z (by omega) hcv) Z Z (A8 (D7 Z) Z Z (A8 (B9 Z Z) Z Z (A8 (A3 Z Z) Z Z (A8 (R8 Z (.pure _ _ _ _) Z Z (by omega) (by omega) (by omega)) Z Z (H2 (m9 (rput_met (ls ++ p1) 45 (sub x c.Old (V8 c)) Z (by simp only [List.length_append]; omega)) Z Z Z ?_)))))))))))); rintro _ _ ⟨rfl, rfl⟩; refine ⟨_, rfl, ?_⟩; refine A8 (A7 Z) Z Z (y7 (B7 TySz.out Z Z Z Z Z Z) Z (H2 ?_))
   rw [← hp2]
   refine k1 ?_
   refine N5 20 (by kernel_rfl) (by kernel_rfl) Z (A8 (A7 Z) Z Z (A8 (A9 Z Z Z) Z Z (A8 (A3 Z Z) Z Z (A8 (A3 Z Z) Z Z (A8 (A3 Z Z) Z Z (A8 (B5 Z (.pure _ _ _ _) Z (by omega) hcv) Z Z (A8 (D7 Z) Z Z (A8 (B9 Z Z) Z Z (A8 (A3 Z Z) Z Z (A8 (A3 Z Z) Z Z (A8 (B5 Z (.pure _ _ _ _) Z (by omega) hcv) Z Z (A8 (D7 Z) Z Z (A8 (B9 Z Z) Z Z (A8 (A3 Z Z) Z Z (A8 (A3 Z Z) Z Z (A8 (B5 Z (.pure _ _ _ _) Z (by omega) hcv) Z Z (A8 (D7 Z) Z Z (A8 (B9 Z Z) Z Z (A8 (C0 Z Z (by omega)) Z Z (A8 (R8 Z (.pure _ _ _ _) Z Z (by omega) (by omega) (by omega)) Z Z (H2 (m9 (rput_met (ls ++ p1 ++ p2) 43 (sub y c.New (c.New + c.NewLen)) Z (by simp only [List.length_append]; omega)) Z Z Z ?_)))))))))))))))))))))); rintro _ _ ⟨rfl, rfl⟩; refine ⟨_, rfl, ?_⟩; refine A8 (A7 Z) Z Z (y7 (B7 TySz.out Z Z Z Z Z Z) Z (H2 ?_))
   rw [← hp3]
   refine k4 (k1 ?_)
   refine A4 (A2 (A3 Z Z) Z (A2 (C0 Z Z (by omega)) Z (A2 (A5 Z Z) Z (A6 ?_))))
   refine k1 ?_
   refine ⟨t + 1, by omega, by omega, ?_⟩
   rw [hsucc, hps, show ((a + (t + 1) : Nat) : Int) = ((a + t : Nat) : Int) + 1 by omega]
   exact Sees.of ⟨le1 rfl, le1 rfl, le1 rfl, le1 rfl, le1 rfl, le1 rfl, le1 rfl, le1 rfl, le1 rfl, le1 rfl, trivial⟩ ⟨rfl, rfl, rfl, rfl, rfl, trivial⟩
  ·have htb : a + t = b + 1 := by
    have h0 : ¬ ((a + t : Nat) : Int) < q.Last := A1 ht
    omega
   obtain ⟨i0, hi0⟩ : ∃ i0, i0 = S6 l q.Old.From a t := ⟨_, rfl⟩
   have hib : i0 = (cAt l b).Old + (cAt l b).OldLen := by
    rw [hi0]; unfold S6 V8
    rw [if_neg (by omega), show a + t - 1 = b by omega]
   unfold G7 at hgb
   obtain ⟨ls, hls⟩ : ∃ ls, ls = N3 l x y q.Old.From a t := ⟨_, rfl⟩
   have hG : H5 l x y q = ⟨q.Old.From, q.New.From, ls ++ N0 32 (sub x i0 q.Old.To)⟩ := by
    rw [H5, q1, q2, show ((a : Nat) : Int).toNat = a by omega, show ((b : Int) + 1).toNat - a = t by omega, ← hls, ← hi0]
   have l1 := Z4 x i0 q.Old.To
   have hgn : g.1.length ≤ l.length := by
    rw [hg, M3]
    split
    ·simp
    ·split
     ·simp
     ·exact (V2 l x.length ctx l.length).1
   rw [← hls] at hml2 ⊢
   rw [← hi0]
   refine k6 (k2 ?_)
   refine N5 11 (by kernel_rfl) (by kernel_rfl) Z (A8 (A7 Z) Z Z (A8 (A9 Z Z Z) Z Z (A8 (A3 Z Z) Z Z (A8 (A3 Z Z) Z Z (A8 (A3 Z Z) Z Z (A8 (A3 Z Z) Z Z (A8 (B5 Z (.pure _ _ _ _) Z (by omega) hv) Z Z (A8 (D7 Z) Z Z (A8 (D7 Z) Z Z (A8 (B9 Z Z) Z Z (A8 (R8 Z (.pure _ _ _ _) Z Z (by omega) (by omega) (by omega)) Z Z (H2 (m9 (rput_met ls 32 (sub x i0 q.Old.To) Z (by omega)) Z Z Z ?_))))))))))))); rintro _ _ ⟨rfl, rfl⟩; refine ⟨_, rfl, ?_⟩; refine A8 (A7 Z) Z Z (y7 (B7 TySz.out Z Z Z Z Z Z) Z (H2 ?_))
   refine k1 ?_
   refine A4 (A2 (A7 Z) Z (A2 (A9 Z Z Z) Z (A2 (E4 Z Z Z) Z (A2 (E0 (c := phunkC) (ys := [⟨q.Old.From, q.New.From, ls ++ N0 32 (sub x i0 q.Old.To)⟩]) (E6 Z Z Z Z I6) Z Z Z) Z (C9 (J4 Z Z Z (.pure _ _ _ _) (by (simp only [List.length_cons, List.length_nil]; omega)) Z) Z (A2 (A7 Z) Z (E9 (B7 TySz.out Z Z Z Z Z Z) (A6 ?_))))))))
   rw [← hG, ← htk]
   refine k4 (k1 ?_)
   refine A4 (A2 (A3 Z Z) Z (A2 (C0 Z Z (by omega)) Z (A2 (A5 Z Z) Z (A6 ?_))))
   refine k1 ?_
   exact ⟨k + 1, by omega, by omega, Sees.of ⟨le1 rfl, le1 rfl, le1 rfl, le1 rfl, le1 rfl, le1 rfl, le1 rfl, trivial⟩ ⟨rfl, rfl, rfl, trivial⟩⟩
 ·have hk' : k = g.1.length := by have := A1 ht; omega
  subst hk'
  rw [List.take_length, ← hmh]
  refine k6 (k2 (k2 ?_))
  refine A4 (A2 (E4 Z Z Z) Z (C3 (rcheck12_ok ⟨on, nn, K6 x y ctx⟩ hsz) Z Z Z ?_)); rintro _ rfl; refine A2 (A5 Z Z) Z (A6 ?_)
  refine k1 (k2 ?_)
  refine A4 (A2 (A3 Z Z) Z (A2 (K7 Z Z) Z (A6 ?_)))
  refine k1 ?_
  refine B2 rfl (fun ht => ?_) (fun ht => ?_)
  ·have h4 : F7 ⟨on, nn, K6 x y ctx⟩ ≠ 0 := A0 ht
   refine k2 ?_
   refine A4 (A2 (F6 Z) Z (A2 (A3 Z Z) Z (E9 (B7 TySz.out Z Z Z Z Z Z) (A2 (A5 Z Z) Z (A6 ?_)))))
   refine k1 ?_
   refine F8 (Sees.listB PatchHunk 3 phunkC 12 2 Z Z) ?_
   refine k10 (k11 ?_)
   exact B6 (rs := [pPatch K3, F0 (F7 ⟨on, nn, K6 x y ctx⟩)]) (Z5 rfl rfl rfl rfl rfl rfl rfl) (by rw [hmk, if_pos h4])
  ·have h4 : ¬ F7 ⟨on, nn, K6 x y ctx⟩ ≠ 0 := A1 ht
   rw [if_neg h4] at hmk
   refine k5 (k1 (k2 ?_))
   refine A4 (A2 (E4 Z Z Z) Z (E9 (B7 TySz.out Z Z Z Z Z Z) (A2 (A5 Z Z) Z (A6 ?_))))
   refine k1 (k10 ?_)
   exact B6 (rs := [pPatch ⟨on, nn, K6 x y ctx⟩, F0 0]) (Z5 rfl rfl rfl rfl rfl rfl rfl) (by rw [hmk])
end Go.Proofs.YtgejaedjnbjpoaaGreatDoor
namespace Go.Proofs.YtgejaedjnbjpoaaGreatDoor
open Go Go.AL
set_option maxRecDepth 100000
theorem unamed_ok (s : Str) : FnOk Tryz.prog 66 [G6 s] (fun rs => rs = [F9 (L2 s)]) := by
 refine FnOk.intro Tryz.func66 (by decide) Z Z Z Z ?_
 refine k2 ?_
 refine A4 (A2 (A5 Z Z) Z (A6 ?_))
 refine k1 (k2 ?_)
 refine A4 (A2 (A3 Z Z) Z (A2 (F5 Z) Z (A2 (l8 Z Z) Z (A2 (A3 Z Z) Z (B0 Z Z Z Z (fun hg => by rw [hg]; exact A3 Z Z) ?_))))); refine B0 Z Z Z Z (fun hg => by rw [hg]; exact F5 Z) ?_; refine B0 Z Z Z Z (fun hg => by rw [hg]; exact x4 Z Z) ?_; refine A2 (B1 Z (fun h => by first | rfl | (rw [h]; rfl)) (fun h => by first | rfl | (rw [h]; rfl))) Z ?_; refine A2 (A5 Z Z) Z (A6 ?_)
 refine k1 (k10 ?_)
 refine B6 (H1 Z Z Z) ?_
 simp only [G2]
 congr 4
 unfold L2
 congr 1
 apply propext
 omega
theorem usingle_ok (s : Str) (hs : s.length ≤ 1099511627776) : FnOk Tryz.prog 219 [G6 s] (fun rs => rs = [F9 (K8 s)]) := by
 refine FnOk.intro Tryz.func219 (by decide) Z Z Z Z ?_
 refine k2 ?_
 refine A4 (A2 (A5 Z Z) Z (A6 ?_))
 refine k1 (k2 ?_)
 refine A4 (A2 (A3 Z Z) Z (A2 (l9 Z Z) Z (A2 (A3 Z Z) Z (B0 Z Z Z Z (fun hg => by rw [hg]; exact A3 Z Z) ?_)))); refine B0 Z Z Z Z (fun hg => by have hq := hg; (try simp at hq); rw [hg]; exact G9 (tbare_ok s hs) Z Z) ?_; refine B0 Z Z Z Z (fun hg => by have hq := hg; (try simp at hq); rw [hg]; exact G9 (contains1_ok (bareOf s) 10) Z Z) ?_; refine B0 Z Z Z Z (fun hg => by rw [hg]; exact F4 Z) ?_; refine A2 (B1 Z (fun h => by first | rfl | (rw [h]; rfl)) (fun h => by first | rfl | (rw [h]; rfl))) Z ?_; refine A2 (A5 Z Z) Z (A6 ?_)
 refine k1 (k10 ?_)
 exact B6 (H1 rfl rfl rfl) (by rw [single_eq])
theorem usizes_ok (h : PatchHunk) (hl : h.Lines.length ≤ 268435456) : FnOk Tryz.prog 208 [pPhunk h] (fun rs => rs = [F0 (J5 h), F0 (L1 h)]) := by
 refine FnOk.intro Tryz.func208 (by decide) Z Z Z Z ?_
 refine k2 ?_
 refine A4 (C9 (c8 1 Z Z Z) Z (A2 (A5 Z Z) Z (A2 (A5 Z Z) Z (A6 ?_))))
 refine k1 (k2 ?_)
 refine A4 (A2 (A5 Z Z) Z (A2 (A5 Z Z) Z (A6 ?_)))
 refine k1 (k2 (k2 ?_))
 refine A4 (A2 (A7 Z) Z (A2 (A9 Z Z Z) Z (A2 (E1 Z (.pure _ _ _ _)) Z (A2 (A3 Z Z) Z (A6 ?_)))))
 refine k1 (k3 ?_)
 refine E2 (X := Nat) (fun i => ([(4, C2 (C4 (h.Lines.take i) 43).length), (5, C2 (C4 (h.Lines.take i) 45).length), (9, D3 PatchLine 2 plineC h.Lines), (10, C2 h.Lines.length), (11, C2 i)], [])) (fun i => i ≤ h.Lines.length) (fun i => h.Lines.length - i) 0 (Nat.zero_le _) (Sees.of ⟨le1 rfl, le1 rfl, le1 rfl, le1 rfl, le1 rfl, trivial⟩ trivial) ?_
 intro i hi
 dsimp only at hi ⊢
 have h1 := J1 (h.Lines.take i) 43
 have h2 := J1 (h.Lines.take i) 45
 rw [List.length_take] at h1 h2
 refine k2 ?_
 refine A4 (A2 (E3 Z Z) Z (A6 ?_))
 refine k1 (k2 ?_)
 refine B2 rfl (fun ht => ?_) (fun ht => ?_)
 ·have hlt : i < h.Lines.length := by have := A0 ht; omega
  have hv : h.Lines[i]? = some h.Lines[i] := by simp [hlt]
  have s1 := d5 h.Lines 43 i hlt
  have s2 := d5 h.Lines 45 i hlt
  obtain ⟨x, hx⟩ : ∃ x, x = h.Lines[i] := ⟨_, rfl⟩
  rw [← hx] at hv s1 s2
  refine k5 (k1 (k2 (k3 (k2 ?_))))
  refine A4 (A2 (B5 Z (.pure _ _ _ _) Z (by omega) hv) Z (A2 (E5 Z Z) Z (C9 (G3 7 Z) Z (E9 (B7 TySz.out Z Z Z Z Z Z) (A6 ?_)))))
  refine H9 ?_
  refine W6 [(4, C2 (C4 (h.Lines.take (i + 1)) 43).length), (5, C2 (C4 (h.Lines.take i) 45).length), (7, .s (.one (.ref 7 0))), (9, D3 PatchLine 2 plineC h.Lines), (10, C2 h.Lines.length), (11, C2 i)] [(7, .box [.p (.v (.int .u8 x.Kind.toNat)), .p (.v (.string ⟨x.Text.toArray⟩))])] ?_ ?_
  ·refine k2 ?_
   refine A4 (A2 (A7 Z) Z (A2 (A9 Z Z Z) Z (A2 (K7 Z Z) Z (A6 ?_))))
   refine k1 ?_
   refine B2 rfl (fun ht => ?_) (fun ht => ?_)
   ·rw [kn43] at ht
    have h3 : x.Kind ≠ 43 := A0 ht
    rw [if_pos h3] at s1
    skip
    refine A4 (A2 (A3 Z Z) Z (A2 (C0 Z Z (by omega)) Z (A2 (A5 Z Z) Z (A6 ?_))))
    refine k1 ?_
    rw [s1, List.length_append, Int.natCast_add]
    exact Sees.of ⟨le1 rfl, le1 rfl, le1 rfl, le1 rfl, le1 rfl, le1 rfl, trivial⟩ ⟨rfl, trivial⟩
   ·rw [kn43] at ht
    have h3 : ¬ x.Kind ≠ 43 := A1 ht
    rw [if_neg h3] at s1
    refine k5 (k1 ?_)
    rw [s1]
    exact Sees.of ⟨le1 rfl, le1 rfl, le1 rfl, le1 rfl, le1 rfl, le1 rfl, trivial⟩ ⟨rfl, trivial⟩
  ·refine k2 ?_
   refine A4 (A2 (A7 Z) Z (A2 (A9 Z Z Z) Z (A2 (K7 Z Z) Z (A6 ?_))))
   refine k1 ?_
   refine B2 rfl (fun ht => ?_) (fun ht => ?_)
   ·rw [kn45] at ht
    have h3 : x.Kind ≠ 45 := A0 ht
    rw [if_pos h3] at s2
    skip
    refine A4 (A2 (A3 Z Z) Z (A2 (C0 Z Z (by omega)) Z (A2 (A5 Z Z) Z (A6 ?_))))
    refine k4 (k1 ?_)
    refine A4 (A2 (C0 Z Z (by omega)) Z (A2 (A3 Z Z) Z (A6 ?_)))
    refine k1 ?_
    refine ⟨i + 1, by omega, by omega, ?_⟩
    rw [s2, List.length_append, Int.natCast_add]
    exact Sees.of ⟨le1 rfl, le1 rfl, le1 rfl, le1 rfl, le1 rfl, trivial⟩ trivial
   ·rw [kn45] at ht
    have h3 : ¬ x.Kind ≠ 45 := A1 ht
    rw [if_neg h3] at s2
    refine k5 (k4 (k1 ?_))
    refine A4 (A2 (C0 Z Z (by omega)) Z (A2 (A3 Z Z) Z (A6 ?_)))
    refine k1 ?_
    refine ⟨i + 1, by omega, by omega, ?_⟩
    rw [s2]
    exact Sees.of ⟨le1 rfl, le1 rfl, le1 rfl, le1 rfl, le1 rfl, trivial⟩ trivial
 ·have hi' : i = h.Lines.length := by have := A1 ht; omega
  subst hi'
  rw [List.take_length]
  refine k6 (k2 ?_)
  refine A4 (A2 (A3 Z Z) Z (A2 (A3 Z Z) Z (A2 (A5 Z Z) Z (A2 (A5 Z Z) Z (A6 ?_)))))
  refine k1 (k10 ?_)
  exact B6 (U5 rfl rfl rfl rfl rfl) rfl
theorem uheader_ok (h : PatchHunk) (hl : h.Lines.length ≤ 268435456) (ho : -4611686018427387904 ≤ h.Old ∧ h.Old ≤ 4611686018427387904) (hn : -4611686018427387904 ≤ h.New ∧ h.New ≤ 4611686018427387904) : FnOk Tryz.prog 141 [pPhunk h] (fun rs => rs = [G6 (U9 h)]) := by
 have h1 := J1 h.Lines 43
 have h2 := J1 h.Lines 45
 have h3 : 0 ≤ J5 h ∧ J5 h ≤ 268435456 := by unfold J5; omega
 have h4 : 0 ≤ L1 h ∧ L1 h ≤ 268435456 := by unfold L1; omega
 have h5 := j9 h.Old (J5 h)
 have h6 := j9 h.New (L1 h)
 refine FnOk.intro Tryz.func141 (by decide) Z Z Z Z ?_
 refine k2 ?_
 refine A4 (C9 (c8 1 Z Z Z) Z (A2 (A5 Z Z) Z (A6 ?_)))
 refine k1 (k2 ?_)
 refine A4 (A2 (E4 Z Z Z) Z (C3 (usizes_ok h hl) Z Z Z ?_)); rintro _ rfl; refine A2 (A3 Z Z) Z (A2 (B3 Z Z) Z (A2 (B3 Z Z) Z (A2 (A5 Z Z) Z (A2 (A5 Z Z) Z (A6 ?_)))))
 refine k1 (k2 ?_)
 refine C7 (by kernel_rfl) (by kernel_rfl) (A8 (A7 Z) Z Z (A8 (A9 Z Z Z) Z Z (A8 (A3 Z Z) Z Z (A8 (G9 (srange_ok h.Old (J5 h) ho (by omega)) Z Z) Z Z (A8 (H3 Z Z (by (simp only [List.length_cons, List.length_nil]; omega))) Z Z (A8 (H3 Z Z (by (simp only [List.length_append, List.length_cons, List.length_nil]; omega))) Z Z (A8 (A7 Z) Z Z (A8 (A9 Z Z Z) Z Z (A8 (A3 Z Z) Z Z (A8 (G9 (srange_ok h.New (L1 h) hn (by omega)) Z Z) Z Z (A8 (H3 Z Z (by (simp only [List.length_append, List.length_cons, List.length_nil]; omega))) Z Z (A8 (H3 Z Z (by (simp only [List.length_append, List.length_cons, List.length_nil]; omega))) Z Z (A8 (A5 Z Z) Z Z (H2 ?_))))))))))))))
 refine k1 (k10 ?_)
 exact B6 (H1 rfl rfl rfl) rfl
theorem uproper_ok (h : PatchHunk) (hl : (h.Lines.map szL).sum ≤ 1099511627776) : FnOk Tryz.prog 151 [pPhunk h] (fun rs => rs = [F9 (h.Lines.all O9 && U2 h.Lines)]) := by
 have h3 := X2 h.Lines
 refine FnOk.intro Tryz.func151 (by decide) Z Z Z Z ?_
 refine k2 ?_
 refine A4 (C9 (c8 1 Z Z Z) Z (A2 (A5 Z Z) Z (A6 ?_)))
 refine k1 (k2 ?_)
 refine A4 (A2 (A5 Z Z) Z (A6 ?_))
 refine k1 (k2 (k2 ?_))
 refine A4 (A2 (A7 Z) Z (A2 (A9 Z Z Z) Z (A2 (E1 Z (.pure _ _ _ _)) Z (A2 (A3 Z Z) Z (A6 ?_)))))
 refine k1 (k3 ?_)
 refine E2 (X := Nat) (fun n => ([(3, J9 (.bool (U2 (h.Lines.take n)))), (7, D3 PatchLine 2 plineC h.Lines), (8, C2 h.Lines.length), (9, C2 n)], [])) (fun n => n ≤ h.Lines.length ∧ h.Lines.all O9 = (h.Lines.drop n).all O9) (fun n => h.Lines.length - n) 0 ⟨Nat.zero_le _, rfl⟩ (Sees.of ⟨le1 rfl, le1 rfl, le1 rfl, le1 rfl, trivial⟩ trivial) ?_
 rintro n ⟨hn1, hn2⟩
 dsimp only at hn1 hn2 ⊢
 refine k2 ?_
 refine A4 (A2 (E3 Z Z) Z (A6 ?_))
 refine k1 (k2 ?_)
 refine B2 rfl (fun ht => ?_) (fun ht => ?_)
 ·have hlt2 : n < h.Lines.length := by have := A0 ht; omega
  have hv2 : h.Lines[n]? = some h.Lines[n] := by simp [hlt2]
  have hmem2 := szL_mem (List.getElem_mem hlt2)
  have hsucc := someCh_succ h.Lines n hlt2
  rw [List.drop_eq_getElem_cons hlt2, List.all_cons] at hn2
  obtain ⟨x, hx2⟩ : ∃ x, x = h.Lines[n] := ⟨_, rfl⟩
  rw [← hx2] at hv2 hmem2 hsucc hn2
  refine k5 (k1 (k2 (k3 (k2 ?_))))
  refine A4 (A2 (B5 Z (.pure _ _ _ _) Z (by omega) hv2) Z (A2 (E5 Z Z) Z (C9 (G3 5 Z) Z (E9 (B7 TySz.out Z Z Z Z Z Z) (A6 ?_)))))
  refine k1 (k2 (k2 ?_))
  refine A4 (A2 (A7 Z) Z (A2 (A9 Z Z Z) Z (A2 (K7 Z Z) Z (A2 (A3 Z Z) Z (B0 Z Z Z Z (fun hg => by rw [hg]; exact A7 Z) ?_))))); refine B0 Z Z Z Z (fun hg => by rw [hg]; exact A9 Z Z Z) ?_; refine B0 Z Z Z Z (fun hg => by rw [hg]; exact K7 Z Z) ?_; refine A2 (B1 Z (fun h => by first | rfl | (rw [h]; rfl)) (fun h => by first | rfl | (rw [h]; rfl))) Z ?_; refine A2 (A3 Z Z) Z (B0 Z Z Z Z (fun hg => by rw [hg]; exact A7 Z) ?_); refine B0 Z Z Z Z (fun hg => by rw [hg]; exact A9 Z Z Z) ?_; refine B0 Z Z Z Z (fun hg => by rw [hg]; exact K7 Z Z) ?_; refine A2 (B1 Z (fun h => by first | rfl | (rw [h]; rfl)) (fun h => by first | rfl | (rw [h]; rfl))) Z ?_; refine A2 (A3 Z Z) Z (B0 Z Z Z Z (fun hg => by rw [hg]; exact A7 Z) ?_); refine B0 Z Z Z Z (fun hg => by rw [hg]; exact A9 Z Z Z) ?_; refine B0 Z Z Z Z (fun hg => by have hq := hg; (try simp at hq); rw [hg]; exact G9 (usingle_ok x.Text (by omega)) Z Z) ?_; refine B0 Z Z Z Z (fun hg => by rw [hg]; exact F4 Z) ?_; refine A2 (B1 Z (fun h => by first | rfl | (rw [h]; rfl)) (fun h => by first | rfl | (rw [h]; rfl))) Z ?_; refine A6 ?_
  refine k1 ?_
  refine B2 rfl (fun ht => ?_) (fun ht => ?_)
  ·simp only [kn32, kn45, kn43, G2, notB, or_pick] at ht
   have hb : badLn x := A0 ht
   refine k2 ?_
   refine A4 (A2 (A5 Z Z) Z (A6 ?_))
   refine k1 (k10 (k11 (k12 (k11 (k11 (k12 (k11 ?_)))))))
   refine B6 (H1 Z Z Z) ?_
   have : O9 x = false := decide_eq_false (fun hh => hh hb)
   rw [hn2, this]; rfl
  ·simp only [kn32, kn45, kn43, G2, notB, or_pick] at ht
   have hb : ¬ badLn x := A1 ht
   have hgl : O9 x = true := decide_eq_true hb
   rw [hgl, Bool.true_and] at hn2
   refine k5 (k1 ?_)
   refine A4 (A2 (A3 Z Z) Z (A2 (A3 Z Z) Z (B0 Z Z Z Z (fun hg => by rw [hg]; exact A7 Z) ?_))); refine B0 Z Z Z Z (fun hg => by rw [hg]; exact A9 Z Z Z) ?_; refine B0 Z Z Z Z (fun hg => by rw [hg]; exact K7 Z Z) ?_; refine A2 (B1 Z (fun h => by first | rfl | (rw [h]; rfl)) (fun h => by first | rfl | (rw [h]; rfl))) Z ?_; refine A2 (A5 Z Z) Z (A6 ?_)
   refine k4 (k1 ?_)
   refine A4 (A2 (C0 Z Z (by omega)) Z (A2 (A3 Z Z) Z (A6 ?_)))
   refine k1 ?_
   refine ⟨n + 1, ⟨by omega, hn2⟩, by omega, ?_⟩
   rw [kn32, ← hsucc]
   exact Sees.of ⟨le1 rfl, le1 rfl, le1 rfl, le1 rfl, trivial⟩ trivial
 ·have hn' : n = h.Lines.length := by have := A1 ht; omega
  subst hn'
  rw [List.take_length]
  rw [List.drop_eq_nil_of_le (Nat.le_refl _)] at hn2
  refine k6 (k2 ?_)
  refine A4 (A2 (A3 Z Z) Z (A2 (A5 Z Z) Z (A6 ?_)))
  refine k1 (k10 ?_)
  exact B6 (H1 rfl rfl rfl) (by rw [hn2]; rfl)
theorem uline_met {gf : Fr} {ob : Obs} {k : Nat} {e : Int} {o : Bool} {t : Str} (hk : D4 ob k = some (.box [.p (.v (.int .i64 e)), .p (.v (.bool o))])) (hs : t.length ≤ 1099511627776) :
  AL.Met Tryz.prog 220 [.one (.ref k 0), .one (.p (.v (.string ⟨t.toArray⟩)))] gf ob [] (fun rs ob' => rs = [.one (.p (.v (.bool (!o))))] ∧ ob' = (k, .box [.p (.v (.int .i64 e)), .p (.v (.bool (!ended t)))]) :: ob) := by
 refine AL.Met.intro Tryz.func220 (by decide) Z Z Z ?_
 refine k2 ?_
 refine A4 (A2 (A5 Z Z) Z (A6 ?_))
 refine k1 (k2 ?_)
 refine A4 (A2 (A3 Z Z) Z (A2 (B4 Z) Z (A2 (A7 Z) Z (A2 (A9 Z hk Z) Z (A2 (F4 Z) Z (A2 (A5 Z Z) Z (A6 ?_)))))))
 refine k1 (k2 ?_)
 refine A4 (A2 (A3 Z Z) Z (A2 (A3 Z Z) Z (C3 (tended_ok t hs) Z Z Z ?_))); rintro _ rfl; refine A2 (F4 Z) Z (A2 (B4 Z) Z (A2 (A7 Z) Z (E9 (B7 TySz.out Z hk Z Z Z Z) (A6 ?_))))
 refine k1 (k2 ?_)
 refine A4 (A2 (A3 Z Z) Z (A2 (A5 Z Z) Z (A6 ?_)))
 refine k1 (k10 ?_)
 exact G1 (R4 rfl rfl) (by repeat (first | exact C6 | refine C5 rfl ?_ | refine D2 _ ?_)) (fun _ _ h => h) ⟨rfl, rfl⟩
theorem drop_step (a b : List Str) (i : Nat) (ha : i < a.length) (hb : i < b.length) : (a.drop i = b.drop i) ↔ (a[i] = b[i] ∧ a.drop (i + 1) = b.drop (i + 1)) := by
 rw [List.drop_eq_getElem_cons ha, List.drop_eq_getElem_cons hb, List.cons.injEq]
theorem equal_ok (a b : List Str) : FnOk Tryz.prog 123 [R3 a, R3 b] (fun rs => rs = [F9 (decide (a = b))]) := by
 refine FnOk.intro Tryz.func123 (by decide) Z Z Z Z ?_
 refine c_bound (t := 0) rfl (.pure _ _ _ _) fun hal => ?_
 refine k2 ?_
 refine A4 (A2 (A5 Z Z) Z (A6 ?_))
 refine k1 (k2 (k2 ?_))
 refine A4 (A2 (A3 Z Z) Z (A2 (E1 Z (.pure _ _ _ _)) Z (A2 (A3 Z Z) Z (A2 (E1 Z (.pure _ _ _ _)) Z (A2 (K7 Z Z) Z (A6 ?_))))))
 refine k1 ?_
 refine B2 rfl (fun ht => ?_) (fun ht => ?_)
 ·have h := A0 ht
  refine k2 ?_
  refine A4 (A2 (A5 Z Z) Z (A6 ?_))
  refine k1 (k10 (k11 ?_))
  exact B6 (H1 rfl rfl rfl) (by rw [decide_eq_false (fun hh => h (by rw [hh]))])
 have h := A1 ht
 have hl : a.length = b.length := by omega
 refine k5 (k1 (k2 (k2 ?_)))
 refine A4 (A2 (A3 Z Z) Z (A2 (E1 Z (.pure _ _ _ _)) Z (A2 (A3 Z Z) Z (A6 ?_))))
 refine k1 (k3 ?_)
 refine E2 (X := Nat) (fun i => ([(0, D3 Str 1 I2 a), (1, D3 Str 1 I2 b), (12, C2 a.length), (13, C2 i)], [])) (fun i => i ≤ a.length ∧ decide (a = b) = decide (a.drop i = b.drop i)) (fun i => a.length - i) 0 ⟨Nat.zero_le _, rfl⟩ (Sees.of ⟨le1 rfl, le1 rfl, le1 rfl, le1 rfl, trivial⟩ trivial) ?_
 rintro i ⟨hi, hp⟩
 dsimp only at hi hp ⊢
 refine k2 ?_
 refine A4 (A2 (E3 Z Z) Z (A6 ?_))
 refine k1 (k2 ?_)
 refine B2 rfl (fun ht => ?_) (fun ht => ?_)
 ·have hlt : i < a.length := by have := A0 ht; omega
  have hv : a[i]? = some a[i] := by simp [hlt]
  have hv2 : b[i]? = some (b[i]'(by omega)) := by simp
  rw [decide_eq_decide.2 (drop_step a b i hlt (by omega))] at hp
  refine k5 (k1 (k2 (k3 (k2 ?_))))
  refine A4 (A2 (A3 Z Z) Z (A2 (A5 Z Z) Z (A6 ?_)))
  refine k1 (k2 ?_)
  refine C7 (by kernel_rfl) (by kernel_rfl) (A8 (A3 Z Z) Z Z (A8 (A3 Z Z) Z Z (A8 (B5 Z (.pure _ _ _ _) Z (by omega) hv) Z Z (A8 (B9 Z Z) Z Z (A8 (A3 Z Z) Z Z (A8 (A3 Z Z) Z Z (A8 (B5 Z (.pure _ _ _ _) Z (by omega) hv2) Z Z (A8 (B9 Z Z) Z Z (A8 (l9 Z Z) Z Z (H2 ?_))))))))))
  refine k1 ?_
  refine B2 rfl (fun ht => ?_) (fun ht => ?_)
  ·have h2 : a[i] ≠ b[i]'(by omega) := A0 ht
   refine k2 ?_
   refine A4 (A2 (A5 Z Z) Z (A6 ?_))
   refine k1 (k10 (k12 (k11 (k11 (k12 (k11 ?_))))))
   exact B6 (H1 rfl rfl rfl) (by rw [hp, decide_eq_false (fun hh => h2 hh.1)])
  ·have h2 : a[i] = b[i]'(by omega) := Decidable.not_not.1 (A1 ht)
   refine k5 (k4 (k1 ?_))
   refine A4 (A2 (C0 Z Z (by omega)) Z (A2 (A3 Z Z) Z (A6 ?_)))
   refine k1 ?_
   exact ⟨i + 1, ⟨hlt, by rw [hp]; exact decide_eq_decide.2 ⟨fun hh => hh.2, fun hh => ⟨h2, hh⟩⟩⟩, by omega, Sees.of ⟨le1 rfl, le1 rfl, le1 rfl, le1 rfl, trivial⟩ trivial⟩
 ·have hi' : i = a.length := by have := A1 ht; omega
  subst hi'
  refine k6 (k2 ?_)
  refine A4 (A2 (A5 Z Z) Z (A6 ?_))
  refine k1 (k10 ?_)
  refine B6 (H1 Z Z Z) ?_
  rw [hp, List.drop_eq_nil_of_le (Nat.le_refl _), List.drop_eq_nil_of_le (by omega)]; rfl
theorem found_fits (h : PatchHunk) (x : List Str) (ho : 0 ≤ h.Old) : (if (if decide (h.Old ≤ (x.length : Int)) = true then decide (((C4 h.Lines 43).length : Int) ≤ (x.length : Int) - h.Old) else false) = true then decide (sub x h.Old (h.Old + ((C4 h.Lines 43).length : Int)) = C4 h.Lines 43) else false) = fitsOf h x := by
 have hn : 0 ≤ J5 h := by unfold J5; omega
 unfold fitsOf
 by_cases c : (x.length : Int) < h.Old + J5 h
 ·rw [if_pos c]
  unfold J5 at c
  simp only [G2]
  exact decide_eq_false (fun hh => by omega)
 ·rw [if_neg c]
  unfold J5 at c
  simp only [G2]
  have e : sub x h.Old (h.Old + ((C4 h.Lines 43).length : Int)) = (x.drop h.Old.toNat).take (C4 h.Lines 43).length := by
   unfold sub; congr 1; omega
  rw [e]
  exact decide_eq_decide.2 ⟨fun hh => hh.2, fun hh => ⟨by omega, hh⟩⟩
theorem pfound_ok (h : PatchHunk) (x : List Str) (hl : h.Lines.length ≤ 268435456) (ho : 0 ≤ h.Old ∧ h.Old ≤ 4096) (hx : x.length ≤ 1073741824) : FnOk Tryz.prog 58 [R3 x, F0 h.Old, R3 (C4 h.Lines 43)] (fun rs => rs = [F9 (fitsOf h x)]) := by
 have hnl := J1 h.Lines 43
 refine FnOk.intro Tryz.func58 (by decide) Z Z Z Z ?_
 refine k2 ?_
 refine A4 (A2 (A5 Z Z) Z (A6 ?_))
 refine k1 (k2 ?_)
 refine A4 (A2 (A3 Z Z) Z (A2 (A3 Z Z) Z (A2 (E1 Z (.pure _ _ _ _)) Z (A2 (x4 Z Z) Z (A2 (A3 Z Z) Z (B0 Z Z Z Z (fun hg => by rw [hg]; exact A3 Z Z) ?_)))))); refine B0 Z Z Z Z (fun hg => by rw [hg]; exact E1 Z (.pure _ _ _ _)) ?_; refine B0 Z Z Z Z (fun hg => by rw [hg]; exact A3 Z Z) ?_; refine B0 Z Z Z Z (fun hg => by rw [hg]; exact E1 Z (.pure _ _ _ _)) ?_; refine B0 Z Z Z Z (fun hg => by rw [hg]; exact A3 Z Z) ?_; refine B0 Z Z Z Z (fun hg => by have hq := hg; (try simp at hq); rw [hg]; exact I1 Z Z (by omega)) ?_; refine B0 Z Z Z Z (fun hg => by rw [hg]; exact x4 Z Z) ?_; refine A2 (B1 Z (fun h => by first | rfl | (rw [h]; rfl)) (fun h => by first | rfl | (rw [h]; rfl))) Z ?_; refine A2 (A3 Z Z) Z (B0 Z Z Z Z (fun hg => by rw [hg]; exact A3 Z Z) ?_); refine B0 Z Z Z Z (fun hg => by rw [hg]; exact A3 Z Z) ?_; refine B0 Z Z Z Z (fun hg => by rw [hg]; exact A3 Z Z) ?_; refine B0 Z Z Z Z (fun hg => by rw [hg]; exact A3 Z Z) ?_; refine B0 Z Z Z Z (fun hg => by rw [hg]; exact E1 Z (.pure _ _ _ _)) ?_; refine B0 Z Z Z Z (fun hg => by have hq := hg; (try simp at hq); rw [hg]; exact C0 Z Z (by omega)) ?_; refine B0 Z Z Z Z (fun hg => by have hq := hg; (try simp at hq); rw [hg]; exact R8 Z (.pure _ _ _ _) Z Z (by omega) (by omega) (by omega)) ?_; refine B0 Z Z Z Z (fun hg => by rw [hg]; exact A3 Z Z) ?_; refine B0 Z Z Z Z (fun hg => by have hq := hg; (try simp at hq); rw [hg]; exact G9 (equal_ok (sub x h.Old (h.Old + ((C4 h.Lines 43).length : Int))) (C4 h.Lines 43)) Z Z) ?_; refine A2 (B1 Z (fun h => by first | rfl | (rw [h]; rfl)) (fun h => by first | rfl | (rw [h]; rfl))) Z ?_; refine A2 (A5 Z Z) Z (A6 ?_)
 refine k1 (k10 ?_)
 exact B6 (H1 rfl rfl rfl) (by rw [found_fits h x ho.1])
theorem psides_ok (h : PatchHunk) (hl : h.Lines.length ≤ 268435456) : FnOk Tryz.prog 57 [pPhunk h] (fun rs => rs = [R3 (C4 h.Lines 43), R3 (C4 h.Lines 45)]) := by
 refine FnOk.intro Tryz.func57 (by decide) Z Z Z Z ?_
 refine k2 ?_
 refine A4 (C9 (c8 1 Z Z Z) Z (C9 (W9 2 _ I2 Z) Z (C9 (W9 3 _ I2 Z) Z (A6 ?_))))
 refine k1 (k2 (k2 ?_))
 refine A4 (A2 (A7 Z) Z (A2 (A9 Z Z Z) Z (A2 (E1 Z (.pure _ _ _ _)) Z (A2 (A3 Z Z) Z (A6 ?_)))))
 refine k1 (k3 ?_)
 refine E2 (X := Nat) (fun i => ([(2, .s (.one (.buf 2 Str 1 I2 (C4 (h.Lines.take i) 43)))), (3, .s (.one (.buf 3 Str 1 I2 (C4 (h.Lines.take i) 45)))), (7, D3 PatchLine 2 plineC h.Lines), (8, C2 h.Lines.length), (9, C2 i)], [(2, .spare (C4 (h.Lines.take i) 43).length 1 9), (3, .spare (C4 (h.Lines.take i) 45).length 1 9)])) (fun i => i ≤ h.Lines.length) (fun i => h.Lines.length - i) 0 (Nat.zero_le _) (Sees.of ⟨le1 rfl, le1 rfl, le1 rfl, le1 rfl, le1 rfl, trivial⟩ ⟨rfl, rfl, trivial⟩) ?_
 intro i hi
 dsimp only at hi ⊢
 have h1 := J1 (h.Lines.take i) 43
 have h2 := J1 (h.Lines.take i) 45
 rw [List.length_take] at h1 h2
 refine k2 ?_
 refine A4 (A2 (E3 Z Z) Z (A6 ?_))
 refine k1 (k2 ?_)
 refine B2 rfl (fun ht => ?_) (fun ht => ?_)
 ·have hlt : i < h.Lines.length := by have := A0 ht; omega
  have hv : h.Lines[i]? = some h.Lines[i] := by simp [hlt]
  have s1 := d5 h.Lines 43 i hlt
  have s2 := d5 h.Lines 45 i hlt
  obtain ⟨x, hx⟩ : ∃ x, x = h.Lines[i] := ⟨_, rfl⟩
  rw [← hx] at hv s1 s2
  refine k5 (k1 (k2 (k3 (k2 ?_))))
  refine A4 (A2 (B5 Z (.pure _ _ _ _) Z (by omega) hv) Z (A2 (E5 Z Z) Z (C9 (G3 5 Z) Z (E9 (B7 TySz.out Z Z Z Z Z Z) (A6 ?_)))))
  refine H9 ?_
  refine W6 [(2, .s (.one (.buf 2 Str 1 I2 (C4 (h.Lines.take (i + 1)) 43)))), (3, .s (.one (.buf 3 Str 1 I2 (C4 (h.Lines.take i) 45)))), (5, .s (.one (.ref 5 0))), (7, D3 PatchLine 2 plineC h.Lines), (8, C2 h.Lines.length), (9, C2 i)] [(2, .spare (C4 (h.Lines.take (i + 1)) 43).length 1 9), (3, .spare (C4 (h.Lines.take i) 45).length 1 9), (5, .box [.p (.v (.int .u8 x.Kind.toNat)), .p (.v (.string ⟨x.Text.toArray⟩))])] ?_ ?_
  ·refine k2 ?_
   refine A4 (A2 (A7 Z) Z (A2 (A9 Z Z Z) Z (A2 (K7 Z Z) Z (A6 ?_))))
   refine k1 ?_
   refine B2 rfl (fun ht => ?_) (fun ht => ?_)
   ·rw [kn43] at ht
    have h3 : x.Kind ≠ 43 := A0 ht
    rw [if_pos h3] at s1
    skip
    refine A4 (A2 (A3 Z Z) Z (A2 (A7 Z) Z (A2 (A9 Z Z Z) Z (A2 (E0 (c := I2) (ys := [x.Text]) (E6 Z Z Z Z I6) Z Z Z) Z (C9 (J4 Z Z Z (.pure _ _ _ _) (by (simp only [List.length_cons, List.length_nil]; omega)) Z) Z (A2 (A5 Z Z) Z (A6 ?_)))))))
    refine k1 ?_
    rw [s1]
    exact Sees.of ⟨le1 rfl, le1 rfl, le1 rfl, le1 rfl, le1 rfl, le1 rfl, trivial⟩ ⟨rfl, rfl, rfl, trivial⟩
   ·rw [kn43] at ht
    have h3 : ¬ x.Kind ≠ 43 := A1 ht
    rw [if_neg h3] at s1
    refine k5 (k1 ?_)
    rw [s1]
    exact Sees.of ⟨le1 rfl, le1 rfl, le1 rfl, le1 rfl, le1 rfl, le1 rfl, trivial⟩ ⟨rfl, rfl, rfl, trivial⟩
  ·refine k2 ?_
   refine A4 (A2 (A7 Z) Z (A2 (A9 Z Z Z) Z (A2 (K7 Z Z) Z (A6 ?_))))
   refine k1 ?_
   refine B2 rfl (fun ht => ?_) (fun ht => ?_)
   ·rw [kn45] at ht
    have h3 : x.Kind ≠ 45 := A0 ht
    rw [if_pos h3] at s2
    skip
    refine A4 (A2 (A3 Z Z) Z (A2 (A7 Z) Z (A2 (A9 Z Z Z) Z (A2 (E0 (c := I2) (ys := [x.Text]) (E6 Z Z Z Z I6) Z Z Z) Z (C9 (J4 Z Z Z (.pure _ _ _ _) (by (simp only [List.length_cons, List.length_nil]; omega)) Z) Z (A2 (A5 Z Z) Z (A6 ?_)))))))
    refine k4 (k1 ?_)
    refine A4 (A2 (C0 Z Z (by omega)) Z (A2 (A3 Z Z) Z (A6 ?_)))
    refine k1 ?_
    refine ⟨i + 1, by omega, by omega, ?_⟩
    rw [s2]
    exact Sees.of ⟨le1 rfl, le1 rfl, le1 rfl, le1 rfl, le1 rfl, trivial⟩ ⟨rfl, rfl, trivial⟩
   ·rw [kn45] at ht
    have h3 : ¬ x.Kind ≠ 45 := A1 ht
    rw [if_neg h3] at s2
    refine k5 (k4 (k1 ?_))
    refine A4 (A2 (C0 Z Z (by omega)) Z (A2 (A3 Z Z) Z (A6 ?_)))
    refine k1 ?_
    refine ⟨i + 1, by omega, by omega, ?_⟩
    rw [s2]
    exact Sees.of ⟨le1 rfl, le1 rfl, le1 rfl, le1 rfl, le1 rfl, trivial⟩ ⟨rfl, rfl, trivial⟩
 ·have hi' : i = h.Lines.length := by have := A1 ht; omega
  subst hi'
  rw [List.take_length]
  refine k6 (k2 ?_)
  refine A4 (A2 (A3 Z Z) Z (A2 (A3 Z Z) Z (A2 (A5 Z Z) Z (A2 (A5 Z Z) Z (A6 ?_)))))
  refine k1 (k10 ?_)
  exact B6 (U5 rfl rfl rfl rfl rfl) rfl
def wTo (p : Patch) (k : Nat) : Str := (Y3 p ++ ((p.Hunks.take k).map S3).flatten).flatten
theorem wTo_succ (p : Patch) (k : Nat) (h : k < p.Hunks.length) : wTo p (k + 1) = wTo p k ++ (S3 p.Hunks[k]).flatten := by
 unfold wTo
 rw [hunkTo_succ _ _ h]; simp only [List.flatten_append, List.append_assoc]
def lTo (ls : List PatchLine) (n : Nat) : Str := ((ls.take n).map P2).flatten.flatten
theorem lTo_succ (ls : List PatchLine) (n : Nat) (h : n < ls.length) : lTo ls (n + 1) = lTo ls n ++ (P2 ls[n]).flatten := by
 unfold lTo; rw [lineTo_succ _ _ h, List.flatten_append]
theorem uwritten_ok (p : Patch) (hp : PFit p) (hrange : ∀ h ∈ p.Hunks, (-4611686018427387904 ≤ h.Old ∧ h.Old ≤ 4611686018427387904) ∧ (-4611686018427387904 ≤ h.New ∧ h.New ≤ 4611686018427387904)) : FnOk Tryz.prog 74 [pPatch p] (fun rs => rs = [G6 (J6 p)]) := by
 have hsl := szP_len p.Hunks
 have hpl := hp.hunks
 have hpo := hp.old
 have hpn := hp.new
 have hq1 := j8 p.OldName
 have hq2 := j8 p.NewName
 have hnf := l5 p
 have hw0 : wTo p 0 = [45, 45, 45, 32] ++ L5 p.OldName ++ [10, 43, 43, 43, 32] ++ L5 p.NewName ++ [10] := by
  unfold wTo Y3; simp
 have hwl : ∀ k, (wTo p k).length ≤ 33554446 + szP p.Hunks := fun k => by
  have h1 := Z3 (p.Hunks.take k)
  have h2 := szP_take p.Hunks k
  unfold wTo; rw [List.flatten_append, List.length_append]; omega
 refine FnOk.intro Tryz.func74 (by decide) Z Z Z Z ?_
 refine k2 ?_
 refine A4 (C9 (c8 1 Z Z Z) Z (A2 (A5 Z Z) Z (A6 ?_)))
 refine k1 (k2 ?_)
 refine A4 (C9 (f_allocT 700 Z) Z (A6 ?_))
 refine k1 (k2 ?_)
 refine F8 (Sees.adoptT 701 UInt8 1 u8C 5 (kb := 700) (o := 1) Z Z Z) ?_
 have hwl0 := hwl 0
 rw [hw0] at hwl0
 refine N5 10 (by kernel_rfl) (by kernel_rfl) Z (A8 (A7 Z) Z Z (A8 (A9 Z Z Z) Z Z (A8 (G9 (squote_ok p.OldName (by omega)) Z Z) Z Z (A8 (H3 Z Z (by (simp only [List.length_cons, List.length_nil]; omega))) Z Z (A8 (H3 Z Z (by (simp only [List.length_append, List.length_cons, List.length_nil]; omega))) Z Z (A8 (A7 Z) Z Z (A8 (A9 Z Z Z) Z Z (A8 (G9 (squote_ok p.NewName (by omega)) Z Z) Z Z (A8 (H3 Z Z (by (simp only [List.length_append, List.length_cons, List.length_nil]; omega))) Z Z (A8 (H3 Z Z (by (simp only [List.length_append, List.length_cons, List.length_nil]; omega))) Z Z (H2 (m9 (W0 (xs := []) ⟨⟨_, .inl rfl, rfl⟩, rfl⟩ (by simp only [List.length_nil]; omega)) Z Z Z ?_)))))))))))); rintro _ _ ⟨rfl, rfl⟩; refine ⟨_, rfl, ?_⟩; refine H2 ?_
 rw [← hw0]
 refine k1 (k2 (k2 ?_))
 refine A4 (A2 (A7 Z) Z (A2 (A9 Z Z Z) Z (A2 (E1 Z (.pure _ _ _ _)) Z (A2 (A3 Z Z) Z (A6 ?_)))))
 refine k1 (k3 ?_)
 refine E2 (X := Nat) (fun k => ([(3, .s (.one (.ref 700 0))), (20, D3 PatchHunk 3 phunkC p.Hunks), (21, C2 p.Hunks.length), (22, C2 k)], [(700, .tbx 144 [.ref 700 0, .buf 701 UInt8 1 u8C (wTo p k)]), (701, .spare (wTo p k).length 1 5)])) (fun k => k ≤ p.Hunks.length) (fun k => p.Hunks.length - k) 0 (Nat.zero_le _) (Sees.of ⟨le1 rfl, le1 rfl, le1 rfl, le1 rfl, trivial⟩ ⟨rfl, rfl, trivial⟩) ?_
 intro k hk
 dsimp only at hk ⊢
 refine k2 ?_
 refine A4 (A2 (E3 Z Z) Z (A6 ?_))
 refine k1 (k2 ?_)
 refine B2 rfl (fun ht => ?_) (fun ht => ?_)
 ·have hlt : k < p.Hunks.length := by have := A0 ht; omega
  have hv : p.Hunks[k]? = some p.Hunks[k] := by simp [hlt]
  have hmem : p.Hunks[k] ∈ p.Hunks := List.getElem_mem hlt
  have hsucc := wTo_succ p k hlt
  have hwk := hwl k
  obtain ⟨h, hx⟩ : ∃ x, x = p.Hunks[k] := ⟨_, rfl⟩
  rw [← hx] at hv hmem hsucc
  have h1 := s6 hmem
  have h3 := X2 h.Lines
  have h4 := headW_len h
  have hr := hrange h hmem
  unfold szH at h1
  obtain ⟨base, hbase⟩ : ∃ base, base = wTo p k := ⟨_, rfl⟩
  rw [← hbase] at hsucc hwk ⊢
  refine k5 (k1 (k2 (k3 (k2 ?_))))
  refine A4 (A2 (B5 Z (.pure _ _ _ _) Z (by omega) hv) Z (A2 (E5 Z Z) Z (C9 (G3 5 Z) Z (E9 (B7 TySz.out Z Z Z Z Z Z) (A6 ?_)))))
  refine k1 (k2 ?_)
  refine A4 (A2 (E4 Z Z Z) Z (C3 (uheader_ok h (by omega) hr.1 hr.2) Z Z Z ?_)); rintro _ rfl; refine R5 (W0 (xs := base) (s := U9 h) ⟨⟨_, .inr rfl, rfl⟩, rfl⟩ (by omega)) Z Z Z ?_; rintro _ _ ⟨rfl, rfl⟩; refine A6 ?_
  refine k1 (k2 ?_)
  refine A4 (A2 (A7 Z) Z (A2 (A9 Z Z Z) Z (A2 (E1 Z (.pure _ _ _ _)) Z (A2 (A3 Z Z) Z (A6 ?_)))))
  refine k1 (k3 ?_)
  refine E2 (X := Nat) (fun n => ([(3, .s (.one (.ref 700 0))), (20, D3 PatchHunk 3 phunkC p.Hunks), (21, C2 p.Hunks.length), (22, C2 k), (30, D3 PatchLine 2 plineC h.Lines), (31, C2 h.Lines.length), (32, C2 n)], [(700, .tbx 144 [.ref 700 0, .buf 701 UInt8 1 u8C (base ++ U9 h ++ lTo h.Lines n)]), (701, .spare (base ++ U9 h ++ lTo h.Lines n).length 1 5)])) (fun n => n ≤ h.Lines.length) (fun n => h.Lines.length - n) 0 (Nat.zero_le _) ?_ ?_
  ·have e : base ++ U9 h ++ lTo h.Lines 0 = base ++ U9 h := by simp [lTo]
   rw [e]
   exact Sees.of ⟨le1 rfl, le1 rfl, le1 rfl, le1 rfl, le1 rfl, le1 rfl, le1 rfl, trivial⟩ ⟨rfl, rfl, trivial⟩
  intro n hn1
  dsimp only at hn1 ⊢
  have hll := linesPs_flat (h.Lines.take n)
  have hl2 := szL_take h.Lines n
  have hlt0 : (lTo h.Lines n).length ≤ (h.Lines.map szL).sum := by unfold lTo; omega
  refine k2 ?_
  refine A4 (A2 (E3 Z Z) Z (A6 ?_))
  refine k1 (k2 ?_)
  refine B2 rfl (fun ht => ?_) (fun ht => ?_)
  ·have hlt2 : n < h.Lines.length := by have := A0 ht; omega
   have hv2 : h.Lines[n]? = some h.Lines[n] := by simp [hlt2]
   have hmem2 := szL_mem (List.getElem_mem hlt2)
   have hsucc2 := lTo_succ h.Lines n hlt2
   obtain ⟨x, hx2⟩ : ∃ x, x = h.Lines[n] := ⟨_, rfl⟩
   rw [← hx2] at hv2 hmem2 hsucc2
   obtain ⟨bs, hbs⟩ : ∃ bs, bs = base ++ U9 h ++ lTo h.Lines n := ⟨_, rfl⟩
   have hbl : bs.length ≤ 33554446 + szP p.Hunks + 52 + szP p.Hunks := by rw [hbs, List.length_append, List.length_append]; omega
   rw [← hbs]
   have hm29 : markS.length = 29 := rfl
   refine k5 (k1 (k2 (k3 (k2 ?_))))
   refine A4 (A2 (B5 Z (.pure _ _ _ _) Z (by omega) hv2) Z (A2 (E5 Z Z) Z (C9 (G3 7 Z) Z (E9 (B7 TySz.out Z Z Z Z Z Z) (A6 ?_)))))
   refine k1 (k2 ?_)
   refine A4 (A2 (A7 Z) Z (A2 (A9 Z Z Z) Z (R5 (writeByte_met (xs := bs) (c := x.Kind) ⟨⟨_, .inr rfl, rfl⟩, rfl⟩ (by omega)) Z Z Z ?_))); rintro _ _ ⟨rfl, rfl⟩; refine A6 ?_
   refine k1 (k2 ?_)
   refine A4 (A2 (A7 Z) Z (A2 (A9 Z Z Z) Z (R5 (W0 (xs := bs ++ [x.Kind]) (s := x.Text) ⟨⟨_, .inr rfl, rfl⟩, rfl⟩ (by simp only [List.length_append, List.length_cons, List.length_nil]; omega)) Z Z Z ?_))); rintro _ _ ⟨rfl, rfl⟩; refine A6 ?_
   refine k1 (k2 ?_)
   refine A4 (A2 (A7 Z) Z (A2 (A9 Z Z Z) Z (C3 (tended_ok x.Text (by omega)) Z Z Z ?_))); rintro _ rfl; refine A2 (F4 Z) Z (A6 ?_)
   refine k1 ?_
   refine B2 rfl (fun ht => ?_) (fun ht => ?_)
   ·have h2 : ended x.Text = false := by simpa using ht
    have e : base ++ U9 h ++ lTo h.Lines (n + 1) = bs ++ [x.Kind] ++ x.Text ++ markS := by
     rw [hsucc2, hbs, P2, h2]; simp
    skip
    refine A4 (R5 (W0 (xs := bs ++ [x.Kind] ++ x.Text) (s := markS) ⟨⟨_, .inr rfl, rfl⟩, rfl⟩ (by simp only [List.length_append, List.length_cons, List.length_nil]; omega)) Z Z Z ?_); rintro _ _ ⟨rfl, rfl⟩; refine A6 ?_
    refine k4 (k1 ?_)
    refine A4 (A2 (C0 Z Z (by omega)) Z (A2 (A3 Z Z) Z (A6 ?_)))
    refine k1 ?_
    refine ⟨n + 1, by omega, by omega, ?_⟩
    rw [e]
    exact Sees.of ⟨le1 rfl, le1 rfl, le1 rfl, le1 rfl, le1 rfl, le1 rfl, le1 rfl, trivial⟩ ⟨rfl, rfl, trivial⟩
   ·have h2 : ended x.Text = true := by simpa using ht
    have e : base ++ U9 h ++ lTo h.Lines (n + 1) = bs ++ [x.Kind] ++ x.Text := by
     rw [hsucc2, hbs, P2, h2]; simp
    refine k5 (k4 (k1 ?_))
    refine A4 (A2 (C0 Z Z (by omega)) Z (A2 (A3 Z Z) Z (A6 ?_)))
    refine k1 ?_
    refine ⟨n + 1, by omega, by omega, ?_⟩
    rw [e]
    exact Sees.of ⟨le1 rfl, le1 rfl, le1 rfl, le1 rfl, le1 rfl, le1 rfl, le1 rfl, trivial⟩ ⟨rfl, rfl, trivial⟩
  ·have hn' : n = h.Lines.length := by have := A1 ht; omega
   subst hn'
   have e : wTo p (k + 1) = base ++ U9 h ++ lTo h.Lines h.Lines.length := by
    rw [hsucc, S3, lTo, List.take_length]; simp
   rw [← e]
   refine k6 (k7 (k7 (k8 Z (k4 (k1 ?_)))))
   refine A4 (A2 (C0 Z Z (by omega)) Z (A2 (A3 Z Z) Z (A6 ?_)))
   refine k1 ?_
   exact ⟨k + 1, by omega, by omega, Sees.of ⟨le1 rfl, le1 rfl, le1 rfl, le1 rfl, trivial⟩ ⟨rfl, rfl, trivial⟩⟩
 ·have hk' : k = p.Hunks.length := by have := A1 ht; omega
  subst hk'
  have e : wTo p p.Hunks.length = J6 p := by unfold wTo J6 writePs; rw [List.take_length]
  rw [e]
  refine k6 (k2 ?_)
  refine A4 (l_bstring (k := 700) (k' := 701) ⟨_, rfl, rfl, rfl⟩ bstring_calls Z Z Z Z Z (.inr Z) Z (A2 (A5 Z Z) Z (A6 ?_)))
  refine k1 (k10 ?_)
  exact B6 (H1 rfl rfl rfl) rfl
theorem usize_ok (p : Patch) (hp : PFit p) (hrange : ∀ h ∈ p.Hunks, (-4611686018427387904 ≤ h.Old ∧ h.Old ≤ 4611686018427387904) ∧ (-4611686018427387904 ≤ h.New ∧ h.New ≤ 4611686018427387904)) : FnOk Tryz.prog 73 [pPatch p] (fun rs => rs = [F0 (J6 p).length]) := by
 have hsl := szP_len p.Hunks
 have hpl := hp.hunks
 have hpo := hp.old
 have hpn := hp.new
 have hnf := l5 p
 have hw0 : (J6 ⟨p.OldName, p.NewName, []⟩).length = (wTo p 0).length := by
  unfold J6 wTo writePs Y3; simp
 have hwl : ∀ k, (wTo p k).length ≤ 33554446 + szP p.Hunks := fun k => by
  have h1 := Z3 (p.Hunks.take k)
  have h2 := szP_take p.Hunks k
  unfold wTo; rw [List.flatten_append, List.length_append]; omega
 refine FnOk.intro Tryz.func73 (by decide) Z Z Z Z ?_
 refine k2 ?_
 refine A4 (C9 (c8 1 Z Z Z) Z (A2 (A5 Z Z) Z (A6 ?_)))
 refine k1 (k2 ?_)
 refine A4 (A2 (A7 Z) Z (A2 (A9 Z Z Z) Z (A2 (A7 Z) Z (A2 (A9 Z Z Z) Z (A2 (F6 Z) Z (l_sees (Sees.aggNil PatchHunk 3 phunkC 12 2 Z Z) (C3 (uwritten_ok ⟨p.OldName, p.NewName, []⟩ ⟨by dsimp only; omega, by dsimp only; omega, by simp [szP]⟩ (by simp)) Z Z Z ?_))))))); rintro _ rfl; refine A2 (F5 Z) Z (A2 (A5 Z Z) Z (A6 ?_))
 rw [hw0]
 refine k1 (k2 (k2 ?_))
 refine A4 (A2 (A7 Z) Z (A2 (A9 Z Z Z) Z (A2 (E1 Z (.pure _ _ _ _)) Z (A2 (A3 Z Z) Z (A6 ?_)))))
 refine k1 (k3 ?_)
 refine E2 (X := Nat) (fun k => ([(3, C2 (wTo p k).length), (16, D3 PatchHunk 3 phunkC p.Hunks), (17, C2 p.Hunks.length), (18, C2 k)], [])) (fun k => k ≤ p.Hunks.length) (fun k => p.Hunks.length - k) 0 (Nat.zero_le _) (Sees.of ⟨le1 rfl, le1 rfl, le1 rfl, le1 rfl, trivial⟩ trivial) ?_
 intro k hk
 dsimp only at hk ⊢
 have hwk := hwl k
 refine k2 ?_
 refine A4 (A2 (E3 Z Z) Z (A6 ?_))
 refine k1 (k2 ?_)
 refine B2 rfl (fun ht => ?_) (fun ht => ?_)
 ·have hlt : k < p.Hunks.length := by have := A0 ht; omega
  have hv : p.Hunks[k]? = some p.Hunks[k] := by simp [hlt]
  have hmem : p.Hunks[k] ∈ p.Hunks := List.getElem_mem hlt
  have hsucc := wTo_succ p k hlt
  obtain ⟨h, hx⟩ : ∃ x, x = p.Hunks[k] := ⟨_, rfl⟩
  rw [← hx] at hv hmem hsucc
  have h1 := s6 hmem
  have h3 := X2 h.Lines
  have h4 := headW_len h
  have hr := hrange h hmem
  unfold szH at h1
  obtain ⟨base, hbase⟩ : ∃ base, base = (wTo p k).length := ⟨_, rfl⟩
  rw [← hbase] at hwk ⊢
  have hsl2 : (wTo p (k + 1)).length = base + (U9 h).length + (lTo h.Lines h.Lines.length).length := by
   rw [hsucc, S3, lTo, List.take_length, hbase]; simp; omega
  refine k5 (k1 (k2 (k3 (k2 ?_))))
  refine A4 (A2 (B5 Z (.pure _ _ _ _) Z (by omega) hv) Z (A2 (E5 Z Z) Z (C9 (G3 5 Z) Z (E9 (B7 TySz.out Z Z Z Z Z Z) (A6 ?_)))))
  refine k1 (k2 ?_)
  refine A4 (A2 (A3 Z Z) Z (A2 (E4 Z Z Z) Z (C3 (uheader_ok h (by omega) hr.1 hr.2) Z Z Z ?_))); rintro _ rfl; refine A2 (F5 Z) Z (A2 (C0 Z Z (by omega)) Z (A2 (A5 Z Z) Z (A6 ?_)))
  refine k1 (k2 ?_)
  refine A4 (A2 (A7 Z) Z (A2 (A9 Z Z Z) Z (A2 (E1 Z (.pure _ _ _ _)) Z (A2 (A3 Z Z) Z (A6 ?_)))))
  refine k1 (k3 ?_)
  refine E2 (X := Nat) (fun n => ([(3, C2 (base + (U9 h).length + (lTo h.Lines n).length : Nat)), (16, D3 PatchHunk 3 phunkC p.Hunks), (17, C2 p.Hunks.length), (18, C2 k), (28, D3 PatchLine 2 plineC h.Lines), (29, C2 h.Lines.length), (30, C2 n)], [])) (fun n => n ≤ h.Lines.length) (fun n => h.Lines.length - n) 0 (Nat.zero_le _) ?_ ?_
  ·have e : ((base + (U9 h).length + (lTo h.Lines 0).length : Nat) : Int) = (base : Int) + ((U9 h).length : Int) := by simp [lTo]
   rw [e]
   exact Sees.of ⟨le1 rfl, le1 rfl, le1 rfl, le1 rfl, le1 rfl, le1 rfl, le1 rfl, trivial⟩ trivial
  intro n hn1
  dsimp only at hn1 ⊢
  have hll := linesPs_flat (h.Lines.take n)
  have hl2 := szL_take h.Lines n
  have hlt0 : (lTo h.Lines n).length ≤ (h.Lines.map szL).sum := by unfold lTo; omega
  refine k2 ?_
  refine A4 (A2 (E3 Z Z) Z (A6 ?_))
  refine k1 (k2 ?_)
  refine B2 rfl (fun ht => ?_) (fun ht => ?_)
  ·have hlt2 : n < h.Lines.length := by have := A0 ht; omega
   have hv2 : h.Lines[n]? = some h.Lines[n] := by simp [hlt2]
   have hmem2 := szL_mem (List.getElem_mem hlt2)
   have hsucc2 := lTo_succ h.Lines n hlt2
   obtain ⟨x, hx2⟩ : ∃ x, x = h.Lines[n] := ⟨_, rfl⟩
   rw [← hx2] at hv2 hmem2 hsucc2
   have hm29 : markS.length = 29 := rfl
   refine k5 (k1 (k2 (k3 (k2 ?_))))
   refine A4 (A2 (B5 Z (.pure _ _ _ _) Z (by omega) hv2) Z (A2 (E5 Z Z) Z (C9 (G3 7 Z) Z (E9 (B7 TySz.out Z Z Z Z Z Z) (A6 ?_)))))
   refine k1 (k2 ?_)
   refine A4 (A2 (A3 Z Z) Z (A2 (A7 Z) Z (A2 (A9 Z Z Z) Z (A2 (F5 Z) Z (A2 (C0 Z Z (by omega)) Z (A2 (C0 Z Z (by omega)) Z (A2 (A5 Z Z) Z (A6 ?_))))))))
   refine k1 (k2 ?_)
   refine A4 (A2 (A7 Z) Z (A2 (A9 Z Z Z) Z (C3 (tended_ok x.Text (by omega)) Z Z Z ?_))); rintro _ rfl; refine A2 (F4 Z) Z (A6 ?_)
   refine k1 ?_
   refine B2 rfl (fun ht => ?_) (fun ht => ?_)
   ·have h2 : ended x.Text = false := by simpa using ht
    have e : ((base + (U9 h).length + (lTo h.Lines (n + 1)).length : Nat) : Int) = ((base + (U9 h).length + (lTo h.Lines n).length : Nat) : Int) + (1 + (x.Text.length : Int)) + 29 := by
     rw [hsucc2, P2, h2]; simp [hm29]; omega
    skip
    refine A4 (A2 (A3 Z Z) Z (A2 (C0 Z Z (by omega)) Z (A2 (A5 Z Z) Z (A6 ?_))))
    refine k4 (k1 ?_)
    refine A4 (A2 (C0 Z Z (by omega)) Z (A2 (A3 Z Z) Z (A6 ?_)))
    refine k1 ?_
    refine ⟨n + 1, by omega, by omega, ?_⟩
    rw [e]
    exact Sees.of ⟨le1 rfl, le1 rfl, le1 rfl, le1 rfl, le1 rfl, le1 rfl, le1 rfl, trivial⟩ trivial
   ·have h2 : ended x.Text = true := by simpa using ht
    have e : ((base + (U9 h).length + (lTo h.Lines (n + 1)).length : Nat) : Int) = ((base + (U9 h).length + (lTo h.Lines n).length : Nat) : Int) + (1 + (x.Text.length : Int)) := by
     rw [hsucc2, P2, h2]; simp; omega
    refine k5 (k4 (k1 ?_))
    refine A4 (A2 (C0 Z Z (by omega)) Z (A2 (A3 Z Z) Z (A6 ?_)))
    refine k1 ?_
    refine ⟨n + 1, by omega, by omega, ?_⟩
    rw [e]
    exact Sees.of ⟨le1 rfl, le1 rfl, le1 rfl, le1 rfl, le1 rfl, le1 rfl, le1 rfl, trivial⟩ trivial
  ·have hn' : n = h.Lines.length := by have := A1 ht; omega
   subst hn'
   rw [← hsl2]
   refine k6 (k7 (k7 (k8 Z (k4 (k1 ?_)))))
   refine A4 (A2 (C0 Z Z (by omega)) Z (A2 (A3 Z Z) Z (A6 ?_)))
   refine k1 ?_
   exact ⟨k + 1, by omega, by omega, Sees.of ⟨le1 rfl, le1 rfl, le1 rfl, le1 rfl, trivial⟩ trivial⟩
 ·have hk' : k = p.Hunks.length := by have := A1 ht; omega
  subst hk'
  have e : wTo p p.Hunks.length = J6 p := by unfold wTo J6 writePs; rw [List.take_length]
  rw [e]
  refine k6 (k2 ?_)
  refine A4 (A2 (A3 Z Z) Z (A2 (A5 Z Z) Z (A6 ?_)))
  refine k1 (k10 ?_)
  exact B6 (H1 rfl rfl rfl) rfl
end Go.Proofs.YtgejaedjnbjpoaaGreatDoor
