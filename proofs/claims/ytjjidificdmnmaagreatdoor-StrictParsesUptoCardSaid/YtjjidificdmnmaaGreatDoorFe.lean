/- Walks of the program's functions. -/
import Derived.Test.YtjjidificdmnmaaGreatDoorFd
import Derived.Test.YtjjidificdmnmaaGreatDoorFs
import Derived.Test.YtjjidificdmnmaaGreatDoorFc
import Derived.Test.YtjjidificdmnmaaGreatDoorFb
namespace Go.Proofs.YtjjidificdmnmaaGreatDoor
open Go Go.AL
set_option maxRecDepth 100000
abbrev pChange (c : Change) : PV := .agg [.v (.int .i64 c.Old), .v (.int .i64 c.OldLen), .v (.int .i64 c.New), .v (.int .i64 c.NewLen)]
def sideRes (c : Change) (a b : List Int) : List PV := if c.NewLen = 0 then [Y0 a, D2 c.Old, D2 c.OldLen, D5 true] else if c.OldLen = 0 then [Y0 b, D2 c.New, D2 c.NewLen, D5 true] else [.one (.v (.slice none 0 0)), D2 0, D2 0, D5 false]
theorem side10_ok (c : Change) (a b : List Int) : FnOk Tryz.prog 163 [pChange c, Y0 a, Y0 b] (fun rs => rs = sideRes c a b) := by
 refine FnOk.intro Tryz.func163 (by decide) Z Z Z Z ?_
 refine k2 ?_
 refine A5 (C8 (l4 3 Z Z Z) Z (A2 (A4 Z Z) Z (A2 (A4 Z Z) Z (A2 (A4 Z Z) Z (A2 (A4 Z Z) Z (A6 ?_))))))
 refine k1 (k2 (k3 (k2 ?_)))
 refine A5 (A2 (A7 Z) Z (A2 (B0 Z Z Z) Z (A2 (G6 Z Z) Z (A2 (A4 Z Z) Z (A6 ?_)))))
 refine k1 ?_
 refine B3 rfl (fun ht => ?_) (fun ht => ?_)
 ·have h1 := A0 ht
  refine k2 ?_
  refine C2 (by kernel_rfl) (by kernel_rfl) (A9 (A3 Z Z) Z Z (A9 (A7 Z) Z Z (A9 (B0 Z Z Z) Z Z (A9 (A7 Z) Z Z (A9 (B0 Z Z Z) Z Z (A9 (A4 Z Z) Z Z (A9 (A4 Z Z) Z Z (A9 (A4 Z Z) Z Z (A9 (A4 Z Z) Z Z (H3 ?_))))))))))
  refine k1 (k10 (k12 (k11 ?_)))
  exact B5 (ret4 rfl rfl rfl rfl rfl rfl rfl rfl rfl) (by unfold sideRes; rw [if_pos h1])
 ·have h1 := A1 ht
  refine k2 ?_
  refine A5 (A2 (A7 Z) Z (A2 (B0 Z Z Z) Z (A2 (G6 Z Z) Z (A2 (A4 Z Z) Z (A6 ?_)))))
  refine k1 ?_
  refine B3 rfl (fun ht => ?_) (fun ht => ?_)
  ·have h2 := A0 ht
   refine k2 ?_
   refine C2 (by kernel_rfl) (by kernel_rfl) (A9 (A3 Z Z) Z Z (A9 (A7 Z) Z Z (A9 (B0 Z Z Z) Z Z (A9 (A7 Z) Z Z (A9 (B0 Z Z Z) Z Z (A9 (A4 Z Z) Z Z (A9 (A4 Z Z) Z Z (A9 (A4 Z Z) Z Z (A9 (A4 Z Z) Z Z (H3 ?_))))))))))
   refine k1 (k10 (k12 (k11 ?_)))
   exact B5 (ret4 rfl rfl rfl rfl rfl rfl rfl rfl rfl) (by unfold sideRes; rw [if_neg h1, if_pos h2])
  ·have h2 := A1 ht
   refine k5 (k2 ?_)
   refine A5 (A2 (A4 Z Z) Z (A2 (A4 Z Z) Z (A2 (A4 Z Z) Z (A2 (A4 Z Z) Z (A6 ?_)))))
   refine k1 (k10 ?_)
   exact B5 (ret4 rfl rfl rfl rfl rfl rfl rfl rfl rfl) (by unfold sideRes; rw [if_neg h1, if_neg h2])
theorem down10_ok (l : List Change) (a b : List Int) (k : Nat) (hk : k < l.length) (hl : l.length ≤ 32768) (ha : a.length ≤ 4096) (hb : b.length ≤ 4096) (hok : ScOk 0 0 l a.length b.length) :
  FnOk Tryz.prog 121 [pChanges l, Y0 a, Y0 b, D2 k] (fun rs => rs = [D5 (Q9 l a b k)]) := by
 obtain ⟨c, hc⟩ : ∃ c, c = cAt l k := ⟨_, rfl⟩
 have hv : l[k]? = some c := by rw [hc]; exact cAt_get hk
 have hg := hok.get k hk
 rw [← hc] at hg
 obtain ⟨⟨c1, _⟩, ⟨c2, _⟩, ⟨c3, _⟩, ⟨c4, _⟩, c5, c6⟩ := hg
 have hnx : k + 1 < l.length → l[k + 1]? = some (cAt l (k + 1)) ∧ 0 ≤ (cAt l (k + 1)).Old ∧ (cAt l (k + 1)).Old ≤ 4096 := fun h => by
  have := hok.get (k + 1) h
  exact ⟨cAt_get h, this.1.1, this.1.2⟩
 have hnx' : k + 1 < l.length → l[((k : Int) + 1).toNat]? = some (cAt l (k + 1)) := fun h => by
  rw [show ((k : Int) + 1).toNat = k + 1 by omega]; exact cAt_get h
 have hcase : (∃ (t : List Int) (f n : Int), sideRes c a b = [Y0 t, D2 f, D2 n, D5 true] ∧ Q9 l a b k = decide (downT l k t f n) ∧ t.length ≤ 4096 ∧ 0 ≤ f ∧ 0 ≤ n ∧ f + n ≤ t.length) ∨ (sideRes c a b = [.one (.v (.slice none 0 0)), D2 0, D2 0, D5 false] ∧ Q9 l a b k = false) := by
  unfold sideRes Q9
  rw [← hc]
  by_cases h1 : c.NewLen = 0
  ·rw [if_pos h1, if_pos h1]; exact .inl ⟨_, _, _, rfl, rfl, ha, c1, c2, c5⟩
  ·rw [if_neg h1, if_neg h1]
   by_cases h2 : c.OldLen = 0
   ·rw [if_pos h2, if_pos h2]; exact .inl ⟨_, _, _, rfl, rfl, hb, c3, c4, c6⟩
   ·rw [if_neg h2, if_neg h2]; exact .inr ⟨rfl, rfl⟩
 have hs := side10_ok c a b
 rcases hcase with ⟨t, f, n, hr, hcd, ht4, f0, n0, fn⟩ | ⟨hr, hcd⟩
 ·rw [hr] at hs
  refine FnOk.intro Tryz.func121 (by decide) Z Z Z Z ?_
  refine k2 ?_
  refine A5 (A2 (A4 Z Z) Z (A6 ?_))
  refine k1 (k2 ?_)
  refine A5 (A2 (A3 Z Z) Z (A2 (A3 Z Z) Z (A2 (B4 Z (.pure _ _ _ _) Z (by omega) hv) Z (A2 (F2 Z Z) Z (A2 (A3 Z Z) Z (A2 (A3 Z Z) Z (C0 (hs) Z Z Z ?_))))))); rintro _ rfl; refine A2 (A3 Z Z) Z (A2 (B1 Z Z) Z (A2 (B1 Z Z) Z (A2 (B1 Z Z) Z (A2 (B1 Z Z) Z (A2 (A4 Z Z) Z (A2 (A4 Z Z) Z (A2 (A4 Z Z) Z (A2 (A4 Z Z) Z (A6 ?_)))))))))
  refine c_cut [(0, E8 Change 4 changeC l), (3, C6 k), (9, E8 Int 1 Y8 t), (10, C6 f), (11, C6 n), (12, J1 (.bool true))] [] (Sees.of ⟨le1 rfl, le1 rfl, le1 rfl, le1 rfl, le1 rfl, le1 rfl, trivial⟩ trivial) ?_
  have hat : ∀ i : Int, 0 ≤ i → i < t.length → t[i.toNat]? = some (atI t i) := fun i h0 h1 => by
   unfold atI; rw [List.getD_eq_getElem?_getD, List.getElem?_eq_getElem (show i.toNat < t.length by omega)]; rfl
  refine k2 (k2 ?_)
  refine C2 (by kernel_rfl) (by kernel_rfl) (A9 (A3 Z Z) Z Z (A9 (E5 Z) Z Z (A9 (A3 Z Z) Z Z (B6 Z Z (fun hg => by rw [hg]; exact A3 Z Z) Z Z ?_)))); refine B6 Z Z (fun hg => by rw [hg]; exact A3 Z Z) Z Z ?_; refine B6 Z Z (fun hg => by have hq := hg; (try simp at hq); rw [hg]; exact C3 Z Z (by omega)) Z Z ?_; refine B6 Z Z (fun hg => by rw [hg]; exact A3 Z Z) Z Z ?_; refine B6 Z Z (fun hg => by rw [hg]; exact F8 Z (.pure _ _ _ _)) Z Z ?_; refine B6 Z Z (fun hg => by rw [hg]; exact V1 Z Z) Z Z ?_; refine A9 (B2 Z (fun h => by first | rfl | (rw [h]; rfl)) (fun h => by first | rfl | (rw [h]; rfl))) Z Z ?_; refine A9 (A3 Z Z) Z Z (B6 Z Z (fun hg => by rw [hg]; exact A3 Z Z) Z Z ?_); refine B6 Z Z (fun hg => by rw [hg]; exact A3 Z Z) Z Z ?_; refine B6 Z Z (fun hg => by have hq := hg; (try simp at hq); rw [hg]; exact B4 Z (.pure _ _ _ _) Z (by omega) (hat f f0 (by omega))) Z Z ?_; refine B6 Z Z (fun hg => by rw [hg]; exact B8 Z Z) Z Z ?_; refine B6 Z Z (fun hg => by rw [hg]; exact A3 Z Z) Z Z ?_; refine B6 Z Z (fun hg => by rw [hg]; exact A3 Z Z) Z Z ?_; refine B6 Z Z (fun hg => by rw [hg]; exact A3 Z Z) Z Z ?_; refine B6 Z Z (fun hg => by have hq := hg; (try simp at hq); rw [hg]; exact C3 Z Z (by omega)) Z Z ?_; refine B6 Z Z (fun hg => by have hq := hg; (try simp at hq); rw [hg]; exact B4 Z (.pure _ _ _ _) Z (by omega) (hat (f + n) (by omega) hq)) Z Z ?_; refine B6 Z Z (fun hg => by rw [hg]; exact B8 Z Z) Z Z ?_; refine B6 Z Z (fun hg => by rw [hg]; exact J2 Z Z) Z Z ?_; refine A9 (B2 Z (fun h => by first | rfl | (rw [h]; rfl)) (fun h => by first | rfl | (rw [h]; rfl))) Z Z ?_; refine H3 ?_
  refine k1 ?_
  refine B3 rfl (fun ht => ?_) (fun ht => ?_)
  ·have h1 : ¬ ((f + n < t.length ∧ atI t f = atI t (f + n)) ∧ (k + 1 = l.length ∨ (cAt l k).Old + (cAt l k).OldLen + 1 < (cAt l (k + 1)).Old)) := by
    rintro ⟨⟨q1, q2⟩, _⟩
    simp [q2] at ht
    omega
   refine k2 ?_
   refine A5 (A2 (A4 Z Z) Z (A6 ?_))
   refine k1 (k10 (k11 ?_))
   exact B5 (G8 rfl rfl rfl) (by rw [hcd]; unfold downT; rw [decide_eq_false h1])
  ·have h1 : f + n < t.length := Classical.byContradiction fun q => by simp [show (t.length : Int) ≤ f + n by omega] at ht
   have h2 : atI t f = atI t (f + n) := Classical.byContradiction fun q => by simp [q] at ht
   refine k5 (k1 (k2 ?_))
   refine C2 (by kernel_rfl) (by kernel_rfl) (A9 (A3 Z Z) Z Z (A9 (C3 Z Z (by omega)) Z Z (A9 (A3 Z Z) Z Z (A9 (F8 Z (.pure _ _ _ _)) Z Z (A9 (G6 Z Z) Z Z (A9 (A3 Z Z) Z Z (B6 Z Z (fun hg => by rw [hg]; exact A3 Z Z) Z Z ?_))))))); refine B6 Z Z (fun hg => by rw [hg]; exact A3 Z Z) Z Z ?_; refine B6 Z Z (fun hg => by have hq := hg; (try simp at hq); rw [hg]; exact C3 Z Z (by omega)) Z Z ?_; refine B6 Z Z (fun hg => by have hq := hg; (try simp at hq); rw [hg]; exact B4 Z (.pure _ _ _ _) Z (by omega) (hnx' (by omega))) Z Z ?_; refine B6 Z Z (fun hg => by rw [hg]; exact C7 Z) Z Z ?_; refine B6 Z Z (fun hg => by rw [hg]; exact B8 Z Z) Z Z ?_; refine B6 Z Z (fun hg => by rw [hg]; exact A3 Z Z) Z Z ?_; refine B6 Z Z (fun hg => by rw [hg]; exact A3 Z Z) Z Z ?_; refine B6 Z Z (fun hg => by have hq := hg; (try simp at hq); rw [hg]; exact B4 Z (.pure _ _ _ _) Z (by omega) hv) Z Z ?_; refine B6 Z Z (fun hg => by rw [hg]; exact C7 Z) Z Z ?_; refine B6 Z Z (fun hg => by rw [hg]; exact B8 Z Z) Z Z ?_; refine B6 Z Z (fun hg => by rw [hg]; exact A3 Z Z) Z Z ?_; refine B6 Z Z (fun hg => by rw [hg]; exact A3 Z Z) Z Z ?_; refine B6 Z Z (fun hg => by have hq := hg; (try simp at hq); rw [hg]; exact B4 Z (.pure _ _ _ _) Z (by omega) hv) Z Z ?_; refine B6 Z Z (fun hg => by rw [hg]; exact C7 Z) Z Z ?_; refine B6 Z Z (fun hg => by rw [hg]; exact B8 Z Z) Z Z ?_; refine B6 Z Z (fun hg => by have hq := hg; (try simp at hq); rw [hg]; exact C3 Z Z (by omega)) Z Z ?_; refine B6 Z Z (fun hg => by have hq := hg; (try simp at hq); have hn2 := hnx (by omega); rw [hg]; exact C3 Z Z (by omega)) Z Z ?_; refine B6 Z Z (fun hg => by rw [hg]; exact L9 Z Z) Z Z ?_; refine A9 (B2 Z (fun h => by first | rfl | (rw [h]; rfl)) (fun h => by first | rfl | (rw [h]; rfl))) Z Z ?_; refine A9 (A4 Z Z) Z Z (H3 ?_)
   refine k1 (k10 ?_)
   have h3 : Q9 l a b k = if decide ((k : Int) + 1 = l.length) = true then true else decide (c.Old + c.OldLen + 1 < (cAt l (k + 1)).Old) := by
    rw [hcd, hc]
    by_cases q : k + 1 = l.length
    ·have h4 : downT l k t f n := ⟨⟨h1, h2⟩, .inl q⟩
     simp [h4, show (k : Int) + 1 = l.length by omega]
    ·have q2 : ¬ ((k : Int) + 1 = l.length) := by omega
     have h4 : downT l k t f n ↔ (cAt l k).Old + (cAt l k).OldLen + 1 < (cAt l (k + 1)).Old := ⟨fun h => h.2.resolve_left q, fun h => ⟨⟨h1, h2⟩, .inr h⟩⟩
     simp [h4, q2]
   exact B5 (G8 rfl rfl rfl) (by rw [h3])
 ·rw [hr] at hs
  refine FnOk.intro Tryz.func121 (by decide) Z Z Z Z ?_
  refine k2 ?_
  refine A5 (A2 (A4 Z Z) Z (A6 ?_))
  refine k1 (k2 ?_)
  refine A5 (A2 (A3 Z Z) Z (A2 (A3 Z Z) Z (A2 (B4 Z (.pure _ _ _ _) Z (by omega) hv) Z (A2 (F2 Z Z) Z (A2 (A3 Z Z) Z (A2 (A3 Z Z) Z (C0 (hs) Z Z Z ?_))))))); rintro _ rfl; refine A2 (A3 Z Z) Z (A2 (B1 Z Z) Z (A2 (B1 Z Z) Z (A2 (B1 Z Z) Z (A2 (B1 Z Z) Z (A2 (A4 Z Z) Z (A2 (A4 Z Z) Z (A2 (A4 Z Z) Z (A2 (A4 Z Z) Z (A6 ?_)))))))))
  refine k1 (k2 (k2 ?_))
  refine C2 (by kernel_rfl) (by kernel_rfl) (A9 (A3 Z Z) Z Z (A9 (E5 Z) Z Z (A9 (A3 Z Z) Z Z (M3 Z Z (by decide) Z Z (M3 Z Z (by decide) Z Z (M3 Z Z (by decide) Z Z (M3 Z Z (by decide) Z Z (M3 Z Z (by decide) Z Z (M3 Z Z (by decide) Z Z (A9 (S4 Z (rfl) Z) Z Z (A9 (A3 Z Z) Z Z (M3 Z Z (by decide) Z Z (M3 Z Z (by decide) Z Z (M3 Z Z (by decide) Z Z (M3 Z Z (by decide) Z Z (M3 Z Z (by decide) Z Z (M3 Z Z (by decide) Z Z (M3 Z Z (by decide) Z Z (M3 Z Z (by decide) Z Z (M3 Z Z (by decide) Z Z (M3 Z Z (by decide) Z Z (M3 Z Z (by decide) Z Z (A9 (S4 Z (rfl) Z) Z Z ?_))))))))))))))))))))))); refine H3 ?_
  refine k1 ?_
  refine B3 rfl (fun ht => ?_) (fun ht => ?_)
  ·refine k2 ?_
   refine A5 (A2 (A4 Z Z) Z (A6 ?_))
   refine k1 (k10 (k11 ?_))
   exact B5 (G8 rfl rfl rfl) (by rw [hcd])
  ·cases ht
theorem moved10_ok (l : List Change) (k : Nat) (hk : k < l.length) (hl : l.length ≤ 32768) (h1 : -4096 ≤ (cAt l k).Old ∧ (cAt l k).Old ≤ 4096) (h2 : -4096 ≤ (cAt l k).New ∧ (cAt l k).New ≤ 4096) :
  FnOk Tryz.prog 122 [pChanges l, D2 k, D2 1] (fun rs => rs = [pChanges (R9 l k)]) := by
 obtain ⟨c, hc⟩ : ∃ c, c = cAt l k := ⟨_, rfl⟩
 have hv : l[k]? = some c := by rw [hc]; exact cAt_get hk
 rw [← hc] at h1 h2
 obtain ⟨c', hc'⟩ : ∃ c' : Change, c' = { c with Old := c.Old + 1 } := ⟨_, rfl⟩
 have hv' : (l.set k c')[k]? = some c' := List.getElem?_set_self hk
 have hfin : (l.set k c').set k ({ c' with New := c'.New + 1 } : Change) = R9 l k := by
  rw [List.set_set]; unfold R9; rw [← hc, hc']; rfl
 have hl' : (l.set k c').length = l.length := by simp
 refine FnOk.intro Tryz.func122 (by decide) Z Z Z Z ?_
 refine k2 ?_
 refine A5 (A2 (A4 Z Z) Z (A6 ?_))
 refine k1 (k2 ?_)
 refine A5 (C8 (f_buildG 5 _ changeC Z (by first | rfl | (simp [H5, M4, Ob.free, SV.free, S1.free, TC.free] <;> rfl))) Z ?_); refine A2 (A3 Z Z) Z (C8 (l7 Z Z Z (.pure _ _ _ _) (by (simp; omega)) Z) Z (A2 (A4 Z Z) Z (A6 ?_)))
 simp only [List.nil_append]
 refine k1 (k2 ?_)
 refine A5 (A2 (A3 Z Z) Z (A2 (A3 Z Z) Z (A2 (A3 Z Z) Z (A2 (A3 Z Z) Z (A2 (L2 Z Z Z (by omega) (by omega)) Z (A2 (I0 Z) Z (A2 (n_load_g Z Z hv Z) Z (A2 (A3 Z Z) Z (A2 (C3 Z Z (by omega)) Z (A2 (L2 Z Z Z (by omega) (by omega)) Z (A2 (I0 Z) Z (F4 (l6 (({ c with Old := c.Old + 1 } : Change)) TySz.out Z Z hv Z Z Z Z (fun _ _ _ h => n9 h) (by intro j h1 h2; rcases j with _ | _ | _ | _ | _ | _ | _ | j <;> first | rfl | omega)) ?_)))))))))))); refine A6 ?_
 rw [Int.toNat_natCast, ← hc']
 refine k1 (k2 ?_)
 refine A5 (A2 (A3 Z Z) Z (A2 (A3 Z Z) Z (A2 (A3 Z Z) Z (A2 (A3 Z Z) Z (A2 (L2 Z Z Z (by omega) (by (rw [hl']; omega))) Z ?_))))); refine A2 (I0 Z) Z (A2 (n_load_g Z Z hv' Z) Z (A2 (A3 Z Z) Z (A2 (C3 Z Z (by (rw [hc']; dsimp only; omega))) Z ?_))); refine A2 (L2 Z Z Z (by omega) (by (rw [hl']; omega))) Z ?_; refine A2 (I0 Z) Z (F4 (l6 (({ c' with New := c'.New + 1 } : Change)) TySz.out Z Z hv' Z Z Z Z (fun _ _ _ h => n9 h) (by intro j h1 h2; rcases j with _ | _ | _ | _ | _ | _ | _ | j <;> first | rfl | omega)) ?_); refine A6 ?_
 rw [Int.toNat_natCast, hfin]
 refine k1 (k2 ?_)
 refine G7 (Sees.growBuf (t := 7) Z Z Z) ?_
 refine A5 (A2 (A3 Z Z) Z (A2 (A4 Z Z) Z (A6 ?_)))
 refine k1 (k10 ?_)
 exact B5 (G8 rfl rfl rfl) rfl
theorem fit_pairs {x y : List Str} {names : List Str} {l : List Change} (h : ScFit x y l) : ∀ p ∈ U8 l ((G9 names x).length : Int), PairAt (G9 names x) (G9 names y) p := by
 intro p hp
 rw [show ((G9 names x).length : Int) = x.length by simp [G9]] at hp
 obtain ⟨h1, h2, v, h3, h4⟩ := h.pairs p hp
 refine ⟨h1, h2, N5 names v 0, ?_, ?_⟩
 ·unfold G9; rw [List.getElem?_map, h3]; rfl
 ·unfold G9; rw [List.getElem?_map, h4]; rfl
theorem rDown10_ok (x y names : List Str) (l : List Change) (h : ScFit x y l) (hl : l.length ≤ 32768) (hx : ∀ s ∈ x, s ∈ names) (hy : ∀ s ∈ y, s ∈ names) :
  FnOk Tryz.prog 79 [pChanges l, Y0 (G9 names x), Y0 (G9 names y)] (fun rs => rs = [pChanges (downOf l (G9 names x) (G9 names y)), D2 0]) := by
 obtain ⟨a, ha⟩ : ∃ a, a = G9 names x := ⟨_, rfl⟩
 obtain ⟨b, hb⟩ : ∃ b, b = G9 names y := ⟨_, rfl⟩
 have hpp := fit_pairs (names := names) h
 have ia : IdsOf x a := by rw [ha]; exact idsOf_ids hx
 have ib : IdsOf y b := by rw [hb]; exact idsOf_ids hy
 rw [← ha, ← hb] at hpp ⊢
 have hla := ia.len
 have hlb := ib.len
 have hxl := h.lx
 have hyl := h.ly
 have hck := h.check
 rw [← hla, ← hlb] at hck
 refine FnOk.intro Tryz.func79 (by decide) Z Z Z Z ?_
 refine k2 ?_
 refine A5 (A2 (A4 Z Z) Z (A2 (A4 Z Z) Z (A6 ?_)))
 refine k1 (k2 (k2 ?_))
 refine A5 (A2 (A3 Z Z) Z (A2 (A3 Z Z) Z (A2 (A3 Z Z) Z (C0 (rFits8_ok l a b hl hck hpp) Z Z Z ?_)))); rintro _ rfl; refine A2 (E5 Z) Z (A6 ?_)
 refine k1 ?_
 refine B3 rfl (fun ht => ?_) (fun ht => ?_)
 ·cases ht
 refine k5 (k1 (k2 (k2 ?_)))
 refine A5 (A2 (A3 Z Z) Z (A2 (F8 Z (.pure _ _ _ _)) Z (A2 (L8 Z Z (by omega)) Z (A2 (A4 Z Z) Z (A6 ?_)))))
 refine k1 (k3 ?_)
 refine E9 (X := Nat × List Change) (fun s => ([(0, E8 Change 4 changeC s.2), (1, E8 Int 1 Y8 a), (2, E8 Int 1 Y8 b), (8, C6 ((s.1 : Int) - 1))], [])) (fun s => s.1 ≤ l.length ∧ s.2.length = l.length ∧ ScFit x y s.2 ∧ p7 a b s.1 s.2 = downOf l a b) (fun s => s.1) (l.length, l) ⟨Nat.le_refl _, rfl, h, rfl⟩ (Sees.of ⟨le1 rfl, le1 rfl, le1 rfl, le1 rfl, trivial⟩ trivial) ?_
 rintro ⟨n, l1⟩ ⟨hn, hl1, hf1, hs1⟩
 dsimp only at hn hl1 hf1 hs1 ⊢
 refine k2 (k2 ?_)
 refine A5 (A2 (A3 Z Z) Z (A2 (V1 Z Z) Z (A6 ?_)))
 refine k1 ?_
 refine B3 rfl (fun ht => ?_) (fun ht => ?_)
 ·have hn0 : 0 < n := by have := A0 ht; omega
  obtain ⟨k, rfl⟩ : ∃ k, n = k + 1 := ⟨n - 1, by omega⟩
  rw [show ((k + 1 : Nat) : Int) - 1 = k by omega]
  refine k5 (k1 (k2 (k3 (k3 ?_))))
  refine E9 (X := List Change) (fun l2 => ([(0, E8 Change 4 changeC l2), (1, E8 Int 1 Y8 a), (2, E8 Int 1 Y8 b), (8, C6 k)], [])) (fun l2 => l2.length = l.length ∧ ScFit x y l2 ∧ Y4 a b l2 k = Y4 a b l1 k) (fun l2 => measK l2 a b k) l1 ⟨hl1, hf1, rfl⟩ (Sees.of ⟨le1 rfl, le1 rfl, le1 rfl, le1 rfl, trivial⟩ trivial) ?_
  rintro l2 ⟨hl2, hf2, hs2⟩
  dsimp only at hl2 hf2 hs2 ⊢
  have hok2 := hf2.ok
  rw [← hla, ← hlb] at hok2
  have hk2 : k < l2.length := by omega
  refine k2 (k2 ?_)
  refine A5 (A2 (A3 Z Z) Z (A2 (A3 Z Z) Z (A2 (A3 Z Z) Z (A2 (A3 Z Z) Z (C0 (down10_ok l2 a b k hk2 (by omega) (by omega) (by omega) hok2) Z Z Z ?_))))); rintro _ rfl; refine A6 ?_
  refine k1 ?_
  refine B3 rfl (fun ht => ?_) (fun ht => ?_)
  ·have hg := hok2.get k hk2
   have hst := slideOne_down ia ib hf2 hk2 ht
   have hm := meas_down ia ib hf2 hk2 ht
   obtain ⟨⟨g1, g2⟩, _, ⟨g3, g4⟩, _⟩ := hg
   refine k5 (k1 (k3 ?_))
   refine A5 (A2 (A3 Z Z) Z (A2 (A3 Z Z) Z (C0 (moved10_ok l2 k hk2 (by omega) ⟨by omega, g2⟩ ⟨by omega, g4⟩) Z Z Z ?_))); rintro _ rfl; refine A2 (A4 Z Z) Z (A6 ?_)
   refine k4 (k1 ?_)
   exact ⟨R9 l2 k, ⟨by rw [M8]; exact hl2, hf2.down ia ib hk2 ht, by rw [← hst]; exact hs2⟩, hm, Sees.of ⟨le1 rfl, le1 rfl, le1 rfl, le1 rfl, trivial⟩ trivial⟩
  ·have hst := slideOne_stop (a := a) (b := b) ht
   rw [hst] at hs2
   have hsl : p7 a b (k + 1) l1 = p7 a b k l2 := by rw [hs2]; rfl
   rw [hsl] at hs1
   refine k6 (k7 (k7 (k8 Z (k4 (k1 ?_)))))
   refine A5 (A2 (A3 Z Z) Z (A2 (L8 Z Z (by omega)) Z (A2 (A4 Z Z) Z (A6 ?_))))
   refine k1 ?_
   exact ⟨(k, l2), ⟨by dsimp only; omega, hl2, hf2, hs1⟩, by dsimp only; omega, Sees.of ⟨le1 rfl, le1 rfl, le1 rfl, le1 rfl, trivial⟩ trivial⟩
 ·have hn0 : n = 0 := by have := A1 ht; omega
  subst hn0
  have hs1 : l1 = downOf l a b := hs1
  refine k6 (k2 ?_)
  refine A5 (C8 (f_buildBuf 9 (c := changeC) (ys := []) H1 Z Z Z (by first | rfl | (simp [H5, M4, Ob.free, SV.free, S1.free, TC.free] <;> rfl))) Z ?_); refine A2 (A3 Z Z) Z (C8 (J3 Z Z Z (.pure _ _ _ _) (by (simp; omega)) Z) Z (A2 (A4 Z Z) Z (A2 (A4 Z Z) Z (A6 ?_))))
  simp only [List.nil_append]
  refine k1 (k10 ?_)
  exact B5 (X9 rfl rfl rfl rfl rfl) (by rw [hs1])
end Go.Proofs.YtjjidificdmnmaaGreatDoor
namespace Go.Proofs.YtjjidificdmnmaaGreatDoor
open Go Go.AL
set_option maxRecDepth 100000
set_option maxHeartbeats 1000000
set_option maxHeartbeats 1000000
theorem rmakeD_ok (on nn a b : Str) (ctx : Int) (d : Bool) (ha : a.length ≤ 4096) (hb : b.length ≤ 4096) :
  FnOk Tryz.prog 41 [F6 on, F6 nn, F6 a, F6 b, D2 ctx, D5 d] (fun rs => rs = [pPatch (made12 on nn a b ctx d).1, D2 (made12 on nn a b ctx d).2]) := by
 obtain ⟨x, hx⟩ : ∃ x, x = D9 a := ⟨_, rfl⟩
 obtain ⟨y, hy⟩ : ∃ y, y = D9 b := ⟨_, rfl⟩
 obtain ⟨f1, f2⟩ := U1 a
 obtain ⟨f3, f4⟩ := U1 b
 rw [← hx] at f1 f2
 rw [← hy] at f3 f4
 have hsa := splitOf_small ha
 have hsb := splitOf_small hb
 rw [← hx] at hsa
 rw [← hy] at hsb
 have hxm : ∀ s ∈ x, s ∈ E4 [x, y] := fun s hs => a6 _ _ x (by simp) hs
 have hym : ∀ s ∈ y, s ∈ E4 [x, y] := fun s hs => a6 _ _ y (by simp) hs
 have i1 : (G9 (E4 [x, y]) x).length = x.length := by simp [G9]
 have i2 : (G9 (E4 [x, y]) y).length = y.length := by simp [G9]
 have hs0 := script_fit x y (by omega) (by omega)
 have hs0l := scriptOf_len x y
 have hdf := (scriptD_fit x y d (by omega) (by omega)).1
 have hdl := scriptD_len x y d (by omega) (by omega)
 obtain ⟨l, hl⟩ : ∃ l, l = scriptD x y d := ⟨_, rfl⟩
 rw [← hl] at hdf hdl
 have hmk : made12 on nn a b ctx d = if I9 on = false ∨ I9 nn = false then (patch0, 120) else if ctx < 0 ∨ 1048576 < ctx then (patch0, 3) else (⟨on, nn, O3 l x y ctx⟩, 0) := by rw [hl, hx, hy]; rfl
 have hxl : x.length ≤ 4096 := by omega
 have hyl : y.length ≤ 4096 := by omega
 refine FnOk.intro Tryz.func41 (by decide) Z Z Z Z ?_
 refine k2 ?_
 refine A5 (C8 (H4 12 Z) Z (A2 (A4 Z Z) Z (A6 ?_)))
 refine k1 (k2 (k2 ?_))
 refine A5 (A2 (A3 Z Z) Z (C0 (rname_ok on) Z Z Z ?_)); rintro _ rfl; refine A2 (E5 Z) Z (A2 (A3 Z Z) Z (A8 Z Z Z Z (fun hg => by rw [hg]; exact A3 Z Z) ?_)); refine A8 Z Z Z Z (fun hg => by have hq := hg; (try simp at hq); rw [hg]; exact F9 (rname_ok nn) Z Z) ?_; refine A8 Z Z Z Z (fun hg => by rw [hg]; exact E5 Z) ?_; refine A2 (B2 Z (fun h => by first | rfl | (rw [h]; rfl)) (fun h => by first | rfl | (rw [h]; rfl))) Z ?_; refine A6 ?_
 refine k1 ?_
 refine B3 rfl (fun ht => ?_) (fun ht => ?_)
 ·simp only [notB, or_pick] at ht
  have h := A0 ht
  refine k2 ?_
  refine A5 (A2 (G4 Z) Z (F4 (B9 TySz.out Z Z Z Z Z Z) (A2 (A4 Z Z) Z (A6 ?_))))
  refine k1 ?_
  refine G7 (Sees.listB PatchHunk 3 phunkC 12 2 Z Z) ?_
  refine k10 (k11 ?_)
  exact B5 (rs := [pPatch patch0, D2 120]) (T5 rfl rfl rfl rfl rfl rfl rfl) (by rw [hmk, if_pos h])
 simp only [notB, or_pick] at ht
 have h := A1 ht
 rw [if_neg h] at hmk
 have hn1 : I9 on = true := by cases q : I9 on <;> simp [q] at h ⊢
 have hn2 : I9 nn = true := by cases q : I9 nn <;> simp [q] at h ⊢
 refine k5 (k1 (k2 ?_))
 refine A5 (A2 (A3 Z Z) Z (C0 (rsplit_ok a (by omega)) Z Z Z ?_)); rintro _ rfl; refine A2 (A3 Z Z) Z (A2 (B1 Z Z) Z (A2 (B1 Z Z) Z (A2 (A4 Z Z) Z (A2 (A4 Z Z) Z (A6 ?_)))))
 rw [hsa]
 refine k1 (k2 (k2 ?_))
 refine A5 (A2 (A3 Z Z) Z (A2 (J2 Z Z) Z (A6 ?_)))
 refine k1 ?_
 refine B3 rfl (fun ht => ?_) (fun ht => ?_)
 ·cases ht
 refine k5 (k1 (k2 ?_))
 refine A5 (A2 (A3 Z Z) Z (C0 (rsplit_ok b (by omega)) Z Z Z ?_)); rintro _ rfl; refine A2 (A3 Z Z) Z (A2 (B1 Z Z) Z (A2 (B1 Z Z) Z (A2 (A4 Z Z) Z (A2 (A4 Z Z) Z (A6 ?_)))))
 rw [hsb]
 refine k1 (k2 (k2 ?_))
 refine A5 (A2 (A3 Z Z) Z (A2 (J2 Z Z) Z (A6 ?_)))
 refine k1 ?_
 refine B3 rfl (fun ht => ?_) (fun ht => ?_)
 ·cases ht
 refine k5 (k1 (k2 ?_))
 refine A5 (A2 (A3 Z Z) Z (A2 (A3 Z Z) Z (C0 (rlines9_ok x y hxl hyl) Z Z Z ?_))); rintro _ rfl; refine A2 (A4 Z Z) Z (A6 ?_)
 rw [show walkOf (G9 (E4 [x, y]) x) (G9 (E4 [x, y]) y) = S8 x y from rfl]
 refine J6 ?_
 refine c_cut [(0, N3 on), (1, N3 nn), (4, C6 ctx), (5, J1 (.bool d)), (12, .s (.one (.ref 12 0))), (14, E8 Str 1 K8 x), (16, E8 Str 1 K8 y), (17, E8 Change 4 changeC (S8 x y))] [(12, .box [.p (.v (.string ⟨#[]⟩)), .p (.v (.string ⟨#[]⟩)), .p (.v (.slice none 0 0))])] (Sees.of ⟨le1 rfl, le1 rfl, le1 rfl, le1 rfl, le1 rfl, le1 rfl, le1 rfl, le1 rfl, trivial⟩ ⟨rfl, trivial⟩) ?_
 refine V9 [(0, N3 on), (1, N3 nn), (4, C6 ctx), (12, .s (.one (.ref 12 0))), (14, E8 Str 1 K8 x), (16, E8 Str 1 K8 y), (17, E8 Change 4 changeC l)] [(12, .box [.p (.v (.string ⟨#[]⟩)), .p (.v (.string ⟨#[]⟩)), .p (.v (.slice none 0 0))])] ?_ ?_
 ·refine k2 ?_
  refine A5 (A2 (A3 Z Z) Z (A6 ?_))
  refine k1 ?_
  refine B3 rfl (fun ht => ?_) (fun ht => ?_)
  ·have hd : d = true := ht
   have hl2 : l = downOf (S8 x y) (G9 (E4 [x, y]) x) (G9 (E4 [x, y]) y) := by rw [hl, hd]; rfl
   refine k2 ?_
   refine A5 (A2 (A3 Z Z) Z (A2 (A3 Z Z) Z (A2 (D6 (c := strsC) (ys := [x, y]) (E3 Z Z Z Z (E3 Z Z Z Z H1)) Z Z Z) Z (C0 (ids_ok [x, y] (by simp; omega) (by simp)) Z Z Z ?_)))); rintro _ rfl; refine A2 (A4 Z Z) Z (A6 ?_)
   refine k1 ?_
   refine C2 (by kernel_rfl) (by kernel_rfl) (A9 (A3 Z Z) Z Z (A9 (A3 Z Z) Z Z (A9 (B4 Z (.pure _ _ _ _) Z (by omega) (show ([x, y].map (G9 (E4 [x, y])))[(0 : Int).toNat]? = some (G9 (E4 [x, y]) x) from Z)) Z Z (A9 (B8 Z Z) Z Z (A9 (A3 Z Z) Z Z (A9 (B4 Z (.pure _ _ _ _) Z (by omega) (show ([x, y].map (G9 (E4 [x, y])))[(1 : Int).toNat]? = some (G9 (E4 [x, y]) y) from Z)) Z Z (A9 (B8 Z Z) Z Z (A9 (F9 (rDown10_ok x y (E4 [x, y]) (S8 x y) hs0 (by omega) hxm hym) Z Z) Z Z (A9 (A3 Z Z) Z Z (A9 (B1 Z Z) Z Z (A9 (B1 Z Z) Z Z (A9 (A4 Z Z) Z Z (H3 ?_)))))))))))))
   rw [← hl2]
   refine k1 ?_
   exact Sees.of ⟨le1 rfl, le1 rfl, le1 rfl, le1 rfl, le1 rfl, le1 rfl, le1 rfl, trivial⟩ ⟨rfl, trivial⟩
  ·have hd : d = false := ht
   have hl2 : l = S8 x y := by rw [hl, hd]; rfl
   rw [← hl2]
   refine k5 (k1 ?_)
   exact Sees.of ⟨le1 rfl, le1 rfl, le1 rfl, le1 rfl, le1 rfl, le1 rfl, le1 rfl, trivial⟩ ⟨rfl, trivial⟩
 refine k2 ?_
 refine A5 (A2 (A3 Z Z) Z (A2 (A3 Z Z) Z (A2 (F8 Z (.pure _ _ _ _)) Z (A2 (A3 Z Z) Z (A2 (F8 Z (.pure _ _ _ _)) Z (A2 (A3 Z Z) Z (C0 (group_walk l x.length y.length ctx (by omega)) Z Z Z ?_))))))); rintro _ rfl; refine A2 (A3 Z Z) Z (A2 (B1 Z Z) Z (A2 (B1 Z Z) Z (A2 (A4 Z Z) Z (A2 (A4 Z Z) Z (A6 ?_)))))
 refine k1 (k2 (k2 ?_))
 by_cases hcx : ctx < 0 ∨ 1048576 < ctx
 ·rw [group_err hcx]
  refine A5 (A2 (A3 Z Z) Z (A2 (J2 Z Z) Z (A6 ?_)))
  refine k1 ?_
  refine B3 rfl (fun ht => ?_) (fun ht => ?_)
  ·refine k2 ?_
   refine A5 (A2 (G4 Z) Z (A2 (A3 Z Z) Z (F4 (B9 TySz.out Z Z Z Z Z Z) (A2 (A4 Z Z) Z (A6 ?_)))))
   refine k1 ?_
   refine G7 (Sees.listB PatchHunk 3 phunkC 12 2 Z Z) ?_
   refine k10 (k11 ?_)
   exact B5 (rs := [pPatch patch0, D2 3]) (T5 rfl rfl rfl rfl rfl rfl rfl) (by rw [hmk, if_pos hcx])
  ·cases ht
 rw [group_fit hdf hcx]
 rw [if_neg hcx] at hmk
 have hmd := made12_is on nn a b l ctx hn1 hn2 hcx ha hb (by rw [← hx, ← hy]; exact hdf)
 have hsc := hdf.ok
 have hgo := groupTo_ok hdf.ok (by omega) (ctx := ctx) l.length (Nat.le_refl _)
 have hgl := (o8 l x.length ctx l.length).1
 have hho : O3 l x y ctx = (H8 l x.length ctx l.length).map (M7 l x y) := rfl
 obtain ⟨g, hg⟩ : ∃ g, g = H8 l x.length ctx l.length := ⟨_, rfl⟩
 have hscl := hdl
 rw [← hg] at hgo hgl hho ⊢
 refine A5 (A2 (A3 Z Z) Z (A2 (J2 Z Z) Z (A6 ?_)))
 refine k1 ?_
 refine B3 rfl (fun ht => ?_) (fun ht => ?_)
 ·cases ht
 refine c_cut [(0, N3 on), (1, N3 nn), (12, .s (.one (.ref 12 0))), (14, E8 Str 1 K8 x), (16, E8 Str 1 K8 y), (17, E8 Change 4 changeC l), (19, E8 Hunk 6 hunkC g)] [(12, .box [.p (.v (.string ⟨#[]⟩)), .p (.v (.string ⟨#[]⟩)), .p (.v (.slice none 0 0))])] (Sees.of ⟨le1 rfl, le1 rfl, le1 rfl, le1 rfl, le1 rfl, le1 rfl, le1 rfl, trivial⟩ ⟨rfl, trivial⟩) ?_
 refine k5 (k1 (k2 ?_))
 refine A5 (A2 (A3 Z Z) Z (A2 (A3 Z Z) Z (A2 (G4 Z) Z (C8 (H4 20 Z) Z (F4 (B9 TySz.out Z Z Z Z Z Z) (A6 ?_))))))
 refine k1 (k2 (k2 ?_))
 refine G7 (Sees.adoptB 702 PatchHunk 3 phunkC 29 (kb := 20) (o := 2) Z Z Z) ?_
 skip
 refine A5 (A2 (A4 Z Z) Z (A6 ?_))
 refine k1 (k3 ?_)
 refine E9 (X := Nat) (fun k => ([(12, .s (.one (.ref 12 0))), (14, E8 Str 1 K8 x), (16, E8 Str 1 K8 y), (17, E8 Change 4 changeC l), (19, E8 Hunk 6 hunkC g), (20, .s (.one (.ref 20 0))), (21, C6 k)], [(12, .box [.p (.v (.string ⟨#[]⟩)), .p (.v (.string ⟨#[]⟩)), .p (.v (.slice none 0 0))]), (20, .box [.p (.v (.string ⟨on.toArray⟩)), .p (.v (.string ⟨nn.toArray⟩)), .buf 702 PatchHunk 3 phunkC ((g.take k).map (M7 l x y))]), (702, .spare (((g.take k).map (M7 l x y))).length 3 29)])) (fun k => k ≤ g.length) (fun k => g.length - k) 0 (Nat.zero_le _) (Sees.of ⟨le1 rfl, le1 rfl, le1 rfl, le1 rfl, le1 rfl, le1 rfl, le1 rfl, trivial⟩ ⟨rfl, rfl, rfl, trivial⟩) ?_
 intro k hk
 dsimp only at hk ⊢
 refine k2 (k2 ?_)
 refine A5 (A2 (A3 Z Z) Z (A2 (A3 Z Z) Z (A2 (F8 Z (.pure _ _ _ _)) Z (A2 (F0 Z Z) Z (A6 ?_)))))
 refine k1 ?_
 refine B3 rfl (fun ht => ?_) (fun ht => ?_)
 ·have hlt : k < g.length := by have := A0 ht; omega
  have hv : g[k]? = some g[k] := by simp [hlt]
  have hq := hgo _ (List.getElem_mem hlt)
  have htk : (g.take (k + 1)).map (M7 l x y) = (g.take k).map (M7 l x y) ++ [M7 l x y g[k]] := by rw [List.take_succ_eq_append_getElem hlt, List.map_append]; rfl
  obtain ⟨q, hqe⟩ : ∃ q, q = g[k] := ⟨_, rfl⟩
  rw [← hqe] at hv hq htk
  obtain ⟨hs, hhs⟩ : ∃ hs, hs = (g.take k).map (M7 l x y) := ⟨_, rfl⟩
  have hhl : hs.length = k := by rw [hhs, List.length_map, List.length_take]; omega
  rw [← hhs] at htk ⊢
  obtain ⟨a, b, q1, q2, q3, q4, q5, q6, q7, q8, q9, q10⟩ := hq
  have hgb := hsc.get b q4
  refine k5 (k1 (k2 (k3 (k2 ?_))))
  refine c_region_alloc 13 22 (by kernel_rfl) (by kernel_rfl) Z Z Z (U2 (A3 Z Z) Z (A3 Z Z) (U2 (A3 Z Z) Z (A3 Z Z) (U2 (B4 Z (.pure _ _ _ _) Z (by omega) hv) Z (B4 Z (.pure _ _ _ _) Z (by omega) hv) (U2 (C7 Z) Z (C7 Z) (U2 (C7 Z) Z (C7 Z) (U2 (B8 Z Z) Z (B8 Z Z) (U2 (A3 Z Z) Z (A3 Z Z) (U2 (A3 Z Z) Z (A3 Z Z) (U2 (B4 Z (.pure _ _ _ _) Z (by omega) hv) Z (B4 Z (.pure _ _ _ _) Z (by omega) hv) (U2 (C7 Z) Z (C7 Z) (U2 (C7 Z) Z (C7 Z) (U2 (B8 Z Z) Z (B8 Z Z) (U2 (G4 Z) Z (G4 Z) (b_nil Z (d_eff (B9 TySz.out Z Z Z Z Z Z) Z (H3 ?_))))))))))))))))
  refine k1 (k2 ?_)
  refine G7 (Sees.adoptB 701 PatchLine 2 plineC 36 (kb := 22) (o := 2) Z Z Z) ?_
  refine A5 (A2 (A7 Z) Z (A2 (B0 Z Z Z) Z (A2 (A4 Z Z) Z (A6 ?_))))
  refine k1 (k2 (k2 ?_))
  refine A5 (A2 (A3 Z Z) Z (A2 (A3 Z Z) Z (A2 (B4 Z (.pure _ _ _ _) Z (by omega) hv) Z (A2 (C7 Z) Z (A2 (B8 Z Z) Z (A2 (A4 Z Z) Z (A6 ?_)))))))
  refine k1 (k3 ?_)
  refine E9 (X := Nat) (fun t => ([(12, .s (.one (.ref 12 0))), (14, E8 Str 1 K8 x), (16, E8 Str 1 K8 y), (17, E8 Change 4 changeC l), (19, E8 Hunk 6 hunkC g), (20, .s (.one (.ref 20 0))), (21, C6 k), (22, .s (.one (.ref 22 0))), (23, C6 (X4 l q.Old.From a t)), (24, C6 ((a + t : Nat) : Int))], [(12, .box [.p (.v (.string ⟨#[]⟩)), .p (.v (.string ⟨#[]⟩)), .p (.v (.slice none 0 0))]), (20, .box [.p (.v (.string ⟨on.toArray⟩)), .p (.v (.string ⟨nn.toArray⟩)), .buf 702 PatchHunk 3 phunkC hs]), (702, .spare (hs).length 3 29), (22, .box [.p (.v (.int .i64 q.Old.From)), .p (.v (.int .i64 q.New.From)), .buf 701 PatchLine 2 plineC (R5 l x y q.Old.From a t)]), (701, .spare (R5 l x y q.Old.From a t).length 2 36)])) (fun t => a + t ≤ b + 1) (fun t => b + 1 - (a + t)) 0 (by omega) ?_ ?_
  ·have e1 : X4 l q.Old.From a 0 = q.Old.From := if_pos rfl
   rw [e1, show ((a + 0 : Nat) : Int) = q.First by rw [q1]; simp]
   exact Sees.of ⟨le1 rfl, le1 rfl, le1 rfl, le1 rfl, le1 rfl, le1 rfl, le1 rfl, le1 rfl, le1 rfl, le1 rfl, trivial⟩ ⟨rfl, rfl, rfl, rfl, rfl, trivial⟩
  intro t hat
  dsimp only at hat ⊢
  have hml := madeTo_len l x y q.Old.From a t
  have hml2 : (R5 l x y q.Old.From a t).length ≤ 4097 * 12288 := Nat.le_trans hml (Nat.mul_le_mul (by omega) (by omega))
  refine k2 (k2 ?_)
  refine A5 (A2 (A3 Z Z) Z (A2 (A3 Z Z) Z (A2 (A3 Z Z) Z (A2 (B4 Z (.pure _ _ _ _) Z (by omega) hv) Z (A2 (C7 Z) Z (A2 (B8 Z Z) Z (A2 (F0 Z Z) Z (A6 ?_))))))))
  refine k1 ?_
  refine B3 rfl (fun ht => ?_) (fun ht => ?_)
  ·have hlt2 : a + t ≤ b := by have : ((a + t : Nat) : Int) < q.Last := A0 ht; omega
   obtain ⟨c, hc⟩ : ∃ c, c = cAt l (a + t) := ⟨_, rfl⟩
   have hcv : l[((a + t : Nat) : Int).toNat]? = some c := by rw [hc]; exact cAt_get (by omega)
   have hgc := hsc.get (a + t) (by omega)
   rw [← hc] at hgc
   obtain ⟨⟨g1, g2⟩, ⟨g3, g4⟩, ⟨g5, g6⟩, ⟨g7, g8⟩, g9, g10⟩ := hgc
   obtain ⟨i0, hi0⟩ : ∃ i0, i0 = X4 l q.Old.From a t := ⟨_, rfl⟩
   have hpos : 0 ≤ i0 ∧ i0 ≤ c.Old := by
    rw [hi0, hc]; unfold X4 j8
    split
    ·rename_i h0; subst h0; exact ⟨q5, q6⟩
    ·have h4 := hsc.next (a + t - 1) (by omega)
     have h5 := hsc.get (a + t - 1) (by omega)
     rw [show a + t - 1 + 1 = a + t by omega] at h4
     unfold I8 at h5; omega
   obtain ⟨ls, hls⟩ : ∃ ls, ls = R5 l x y q.Old.From a t := ⟨_, rfl⟩
   obtain ⟨p1, hp1⟩ : ∃ p1, p1 = Q6 32 (sub x i0 c.Old) := ⟨_, rfl⟩
   obtain ⟨p2, hp2⟩ : ∃ p2, p2 = Q6 45 (sub x c.Old (j8 c)) := ⟨_, rfl⟩
   obtain ⟨p3, hp3⟩ : ∃ p3, p3 = Q6 43 (sub y c.New (c.New + c.NewLen)) := ⟨_, rfl⟩
   have hsucc : R5 l x y q.Old.From a (t + 1) = ls ++ p1 ++ p2 ++ p3 := by rw [hls, hp1, hp2, hp3, hi0, hc]; rfl
   have hps : X4 l q.Old.From a (t + 1) = j8 c := by rw [posTo_succ, hc]
   have l1 := sub_len x i0 c.Old
   have l2 := sub_len x c.Old (j8 c)
   have l3 := sub_len y c.New (c.New + c.NewLen)
   have m1 : p1.length = (sub x i0 c.Old).length := by rw [hp1, putOf_len]
   have m2 : p2.length = (sub x c.Old (j8 c)).length := by rw [hp2, putOf_len]
   have hend : j8 c = c.Old + c.OldLen := rfl
   rw [← hls] at hml2 ⊢
   rw [← hi0]
   refine k5 (k1 (k2 (k3 (k2 ?_))))
   refine U7 10 (by kernel_rfl) (by kernel_rfl) Z (A9 (A7 Z) Z Z (A9 (B0 Z Z Z) Z Z (A9 (A3 Z Z) Z Z (A9 (A3 Z Z) Z Z (A9 (A3 Z Z) Z Z (A9 (A3 Z Z) Z Z (A9 (B4 Z (.pure _ _ _ _) Z (by omega) hcv) Z Z (A9 (C7 Z) Z Z (A9 (B8 Z Z) Z Z (A9 (n_slice_lh Z (.pure _ _ _ _) Z Z (by omega) (by omega) (by omega)) Z Z (H3 (met_step (rput_met ls 32 (sub x i0 c.Old) Z (by omega)) Z Z Z ?_)))))))))))); rintro _ _ ⟨rfl, rfl⟩; refine ⟨_, rfl, ?_⟩; refine A9 (A7 Z) Z Z (d_eff (B9 TySz.out Z Z Z Z Z Z) Z (H3 ?_))
   rw [← hp1]
   refine k1 (k2 ?_)
   refine C2 (by kernel_rfl) (by kernel_rfl) (A9 (A3 Z Z) Z Z (A9 (A3 Z Z) Z Z (A9 (B4 Z (.pure _ _ _ _) Z (by omega) hcv) Z Z (A9 (C7 Z) Z Z (A9 (B8 Z Z) Z Z (A9 (A3 Z Z) Z Z (A9 (A3 Z Z) Z Z (A9 (B4 Z (.pure _ _ _ _) Z (by omega) hcv) Z Z (A9 (C7 Z) Z Z (A9 (B8 Z Z) Z Z (A9 (C3 Z Z (by omega)) Z Z (A9 (A4 Z Z) Z Z (H3 ?_)))))))))))))
   rw [show c.Old + c.OldLen = j8 c from rfl]
   refine k1 (k2 ?_)
   refine U7 10 (by kernel_rfl) (by kernel_rfl) Z (A9 (A7 Z) Z Z (A9 (B0 Z Z Z) Z Z (A9 (A3 Z Z) Z Z (A9 (A3 Z Z) Z Z (A9 (A3 Z Z) Z Z (A9 (B4 Z (.pure _ _ _ _) Z (by omega) hcv) Z Z (A9 (C7 Z) Z Z (A9 (B8 Z Z) Z Z (A9 (A3 Z Z) Z Z (A9 (n_slice_lh Z (.pure _ _ _ _) Z Z (by omega) (by omega) (by omega)) Z Z (H3 (met_step (rput_met (ls ++ p1) 45 (sub x c.Old (j8 c)) Z (by simp only [List.length_append]; omega)) Z Z Z ?_)))))))))))); rintro _ _ ⟨rfl, rfl⟩; refine ⟨_, rfl, ?_⟩; refine A9 (A7 Z) Z Z (d_eff (B9 TySz.out Z Z Z Z Z Z) Z (H3 ?_))
   rw [← hp2]
   refine k1 ?_
   refine U7 20 (by kernel_rfl) (by kernel_rfl) Z (A9 (A7 Z) Z Z (A9 (B0 Z Z Z) Z Z (A9 (A3 Z Z) Z Z (A9 (A3 Z Z) Z Z (A9 (A3 Z Z) Z Z (A9 (B4 Z (.pure _ _ _ _) Z (by omega) hcv) Z Z (A9 (C7 Z) Z Z (A9 (B8 Z Z) Z Z (A9 (A3 Z Z) Z Z (A9 (A3 Z Z) Z Z (A9 (B4 Z (.pure _ _ _ _) Z (by omega) hcv) Z Z (A9 (C7 Z) Z Z (A9 (B8 Z Z) Z Z (A9 (A3 Z Z) Z Z (A9 (A3 Z Z) Z Z (A9 (B4 Z (.pure _ _ _ _) Z (by omega) hcv) Z Z (A9 (C7 Z) Z Z (A9 (B8 Z Z) Z Z (A9 (C3 Z Z (by omega)) Z Z (A9 (n_slice_lh Z (.pure _ _ _ _) Z Z (by omega) (by omega) (by omega)) Z Z (H3 (met_step (rput_met (ls ++ p1 ++ p2) 43 (sub y c.New (c.New + c.NewLen)) Z (by simp only [List.length_append]; omega)) Z Z Z ?_)))))))))))))))))))))); rintro _ _ ⟨rfl, rfl⟩; refine ⟨_, rfl, ?_⟩; refine A9 (A7 Z) Z Z (d_eff (B9 TySz.out Z Z Z Z Z Z) Z (H3 ?_))
   rw [← hp3]
   refine k4 (k1 ?_)
   refine A5 (A2 (A3 Z Z) Z (A2 (C3 Z Z (by omega)) Z (A2 (A4 Z Z) Z (A6 ?_))))
   refine k1 ?_
   refine ⟨t + 1, by omega, by omega, ?_⟩
   rw [hsucc, hps, show ((a + (t + 1) : Nat) : Int) = ((a + t : Nat) : Int) + 1 by omega]
   exact Sees.of ⟨le1 rfl, le1 rfl, le1 rfl, le1 rfl, le1 rfl, le1 rfl, le1 rfl, le1 rfl, le1 rfl, le1 rfl, trivial⟩ ⟨rfl, rfl, rfl, rfl, rfl, trivial⟩
  ·have htb : a + t = b + 1 := by
    have h0 : ¬ ((a + t : Nat) : Int) < q.Last := A1 ht
    omega
   obtain ⟨i0, hi0⟩ : ∃ i0, i0 = X4 l q.Old.From a t := ⟨_, rfl⟩
   have hib : i0 = (cAt l b).Old + (cAt l b).OldLen := by
    rw [hi0]; unfold X4 j8
    rw [if_neg (by omega), show a + t - 1 = b by omega]
   unfold I8 at hgb
   obtain ⟨ls, hls⟩ : ∃ ls, ls = R5 l x y q.Old.From a t := ⟨_, rfl⟩
   have hG : M7 l x y q = ⟨q.Old.From, q.New.From, ls ++ Q6 32 (sub x i0 q.Old.To)⟩ := by
    rw [M7, q1, q2, show ((a : Nat) : Int).toNat = a by omega, show ((b : Int) + 1).toNat - a = t by omega, ← hls, ← hi0]
   have l1 := sub_len x i0 q.Old.To
   have hgn : g.length ≤ l.length := hgl
   rw [← hls] at hml2 ⊢
   rw [← hi0]
   refine k6 (k2 ?_)
   refine U7 11 (by kernel_rfl) (by kernel_rfl) Z (A9 (A7 Z) Z Z (A9 (B0 Z Z Z) Z Z (A9 (A3 Z Z) Z Z (A9 (A3 Z Z) Z Z (A9 (A3 Z Z) Z Z (A9 (A3 Z Z) Z Z (A9 (B4 Z (.pure _ _ _ _) Z (by omega) hv) Z Z (A9 (C7 Z) Z Z (A9 (C7 Z) Z Z (A9 (B8 Z Z) Z Z (A9 (n_slice_lh Z (.pure _ _ _ _) Z Z (by omega) (by omega) (by omega)) Z Z (H3 (met_step (rput_met ls 32 (sub x i0 q.Old.To) Z (by omega)) Z Z Z ?_))))))))))))); rintro _ _ ⟨rfl, rfl⟩; refine ⟨_, rfl, ?_⟩; refine A9 (A7 Z) Z Z (d_eff (B9 TySz.out Z Z Z Z Z Z) Z (H3 ?_))
   refine k1 ?_
   refine A5 (A2 (A7 Z) Z (A2 (B0 Z Z Z) Z (A2 (D7 Z Z Z) Z (A2 (D6 (c := phunkC) (ys := [⟨q.Old.From, q.New.From, ls ++ Q6 32 (sub x i0 q.Old.To)⟩]) (E3 Z Z Z Z H1) Z Z Z) Z (C8 (J3 Z Z Z (.pure _ _ _ _) (by (simp only [List.length_cons, List.length_nil]; omega)) Z) Z (A2 (A7 Z) Z (F4 (B9 TySz.out Z Z Z Z Z Z) (A6 ?_))))))))
   rw [← hG, ← htk]
   refine k4 (k1 ?_)
   refine A5 (A2 (A3 Z Z) Z (A2 (C3 Z Z (by omega)) Z (A2 (A4 Z Z) Z (A6 ?_))))
   refine k1 ?_
   exact ⟨k + 1, by omega, by omega, Sees.of ⟨le1 rfl, le1 rfl, le1 rfl, le1 rfl, le1 rfl, le1 rfl, le1 rfl, trivial⟩ ⟨rfl, rfl, rfl, trivial⟩⟩
 ·have hk' : k = g.length := by have := A1 ht; omega
  subst hk'
  rw [List.take_length, ← hho]
  have hsz := hmd.sz
  have hch := hmd.chk
  rw [← hx, ← hy] at hsz hch
  refine k6 (k2 (k2 ?_))
  refine A5 (A2 (D7 Z Z Z) Z (C0 (rcheck12_ok ⟨on, nn, O3 l x y ctx⟩ hsz) Z Z Z ?_)); rintro _ rfl; refine A2 (A4 Z Z) Z (A6 ?_)
  rw [hch]
  refine k1 (k2 ?_)
  refine A5 (A2 (A3 Z Z) Z (A2 (J2 Z Z) Z (A6 ?_)))
  refine k1 ?_
  refine B3 rfl (fun ht => ?_) (fun ht => ?_)
  ·cases ht
  ·refine k5 (k1 (k2 ?_))
   refine A5 (A2 (D7 Z Z Z) Z (F4 (B9 TySz.out Z Z Z Z Z Z) (A2 (A4 Z Z) Z (A6 ?_))))
   refine k1 (k10 ?_)
   exact B5 (rs := [pPatch ⟨on, nn, O3 l x y ctx⟩, D2 0]) (T5 rfl rfl rfl rfl rfl rfl rfl) (by rw [hmk])
theorem check12_names {p : Patch} (h1 : G1 p = 0) : I9 p.OldName = true ∧ I9 p.NewName = true := by
 have h : ¬ (I9 p.OldName = false ∨ I9 p.NewName = false) := fun q => by
  unfold G1 at h1; rw [if_pos q] at h1; exact absurd h1 (by decide)
 exact ⟨by cases q : I9 p.OldName <;> simp [q] at h ⊢, by cases q : I9 p.NewName <;> simp [q] at h ⊢⟩
theorem uformat_ok (p : Patch) (hp : szP p.Hunks ≤ 268435456) : FnOk Tryz.prog 36 [pPatch p] (fun rs => rs = [F6 (if G1 p ≠ 0 then [] else H0 p), D2 (G1 p)]) := by
 refine FnOk.intro Tryz.func36 (by decide) Z Z Z Z ?_
 refine k2 ?_
 refine A5 (C8 (l4 1 Z Z Z) Z (A2 (A4 Z Z) Z (A2 (A4 Z Z) Z (A6 ?_))))
 refine k1 (k2 (k2 ?_))
 refine A5 (A2 (D7 Z Z Z) Z (C0 (ucheck_ok p hp) Z Z Z ?_)); rintro _ rfl; refine A2 (A4 Z Z) Z (A6 ?_)
 refine k1 (k2 ?_)
 refine A5 (A2 (A3 Z Z) Z (A2 (J2 Z Z) Z (A6 ?_)))
 refine k1 ?_
 refine B3 rfl (fun ht => ?_) (fun ht => ?_)
 ·have h1 : G1 p ≠ 0 := A0 ht
  rw [if_pos h1]
  refine k2 ?_
  refine A5 (A2 (A3 Z Z) Z (A2 (A4 Z Z) Z (A2 (A4 Z Z) Z (A6 ?_))))
  refine k1 (k10 (k11 ?_))
  exact B5 (X9 rfl rfl rfl rfl rfl) rfl
 ·have h1 : ¬ G1 p ≠ 0 := A1 ht
  have hr := i8 (check12_good h1)
  obtain ⟨hn1, hn2⟩ := check12_names (Decidable.not_not.1 h1)
  have hn3 := A0 hn1
  have hn4 := A0 hn2
  have hpf : PFit p := ⟨by omega, by omega, hp⟩
  rw [if_neg h1, Decidable.not_not.1 h1]
  refine k5 (k1 (k2 ?_))
  refine A5 (A2 (D7 Z Z Z) Z (C0 (uwritten_ok p hpf (fun x hx => by have := hr x hx; omega)) Z Z Z ?_)); rintro _ rfl; refine A2 (A4 Z Z) Z (A2 (A4 Z Z) Z (A6 ?_))
  refine k1 (k10 ?_)
  exact B5 (X9 rfl rfl rfl rfl rfl) rfl
theorem szP_app (a b : List PatchHunk) : szP (a ++ b) = szP a + szP b := by simp [szP]
theorem szL_app (a b : List PatchLine) : ((a ++ b).map szL).sum = (a.map szL).sum + (b.map szL).sum := by simp
theorem last_split {α : Type} {l : List α} {x : α} (h : l.getLast? = some x) : l = l.dropLast ++ [x] := by
 obtain ⟨ys, hy⟩ := List.getLast?_eq_some_iff.1 h
 rw [hy, List.dropLast_concat]
theorem trimS_len (t : Str) : (j6 t).length ≤ t.length := by
 unfold j6; split
 ·rw [List.length_dropLast]; omega
 ·omega
theorem szP_last {hs : List PatchHunk} {h : PatchHunk} (hl : hs.getLast? = some h) : szP hs = szP hs.dropLast + szH h := by
 conv => lhs; rw [last_split hl, szP_app]
 simp [szP]
theorem step_sz {hs hs' : List PatchHunk} {l : Str} (h : stepP hs l = some hs') : szP hs' ≤ szP hs + l.length + 65 := by
 cases l with
 | nil => cases h
 | cons c r =>
  simp only [stepP] at h
  split at h
  ·cases hh : L4 (c :: r) with
   | none => rw [hh] at h; cases h
   | some q =>
    obtain ⟨a, m, b, n⟩ := q
    rw [hh] at h
    have h : hs ++ [⟨a, b, []⟩] = hs' := Option.some.inj h
    rw [← h, szP_app]; simp [szP, szH]; omega
  ·split at h
   ·unfold addLine at h
    cases hl : hs.getLast? with
    | none => rw [hl] at h; cases h
    | some g =>
     rw [hl] at h
     have h : hs.dropLast ++ [⟨g.Old, g.New, g.Lines ++ [⟨c, r ++ [10]⟩]⟩] = hs' := Option.some.inj h
     rw [← h, szP_app, szP_last hl]
     simp [szP, szH, szL]; omega
   ·split at h
    ·unfold cutLine at h
     cases hl : hs.getLast? with
     | none => rw [hl] at h; cases h
     | some g =>
      rw [hl] at h
      dsimp only at h
      cases hx : g.Lines.getLast? with
      | none => rw [hx] at h; cases h
      | some x =>
       rw [hx] at h
       dsimp only at h
       split at h
       ·have h : hs.dropLast ++ [⟨g.Old, g.New, g.Lines.dropLast ++ [⟨x.Kind, j6 x.Text⟩]⟩] = hs' := Option.some.inj h
        have ht := trimS_len x.Text
        have hg : szH g = 64 + ((g.Lines.dropLast.map szL).sum + szL x) := by
         unfold szH
         conv => lhs; rw [last_split hx, szL_app]
         simp
        rw [← h, szP_app, szP_last hl, hg]
        simp [szP, szH, szL]; omega
       ·cases h
    ·cases h
def wTo60 (R : List Str) (k : Nat) : Nat := ((R.take k).map fun s => s.length + 65).sum
theorem wTo60_succ (R : List Str) (k : Nat) (x : Str) (h : R[k]? = some x) : wTo60 R (k + 1) = wTo60 R k + (x.length + 65) := by
 obtain ⟨hi, rfl⟩ := List.getElem?_eq_some_iff.1 h
 unfold wTo60
 rw [List.take_succ_eq_append_getElem hi, List.map_append, List.sum_append]; simp
theorem wTo60_le (R : List Str) (k : Nat) : wTo60 R k ≤ (R.map fun s => s.length + 65).sum := by
 unfold wTo60
 conv => rhs; rw [← List.take_append_drop k R, List.map_append, List.sum_append]
 omega
def objP (o n : Str) (hs : List PatchHunk) : Obs := match hs.getLast? with
 | some h => (match h.Lines with
  | [] => W3 o n hs
  | _ :: _ => R2 o n hs h.Old h.New h.Lines)
 | none => W3 o n hs
section
variable {P : Program} {nt : Nat} {fr : Fr} {o n : Str} {hs : List PatchHunk}
theorem shutP {h : PatchHunk} (hf : H5 732 fr = true) (hl : hs.getLast? = some h) (hne : h.Lines ≠ []) : Sees P nt fr (R2 o n hs h.Old h.New h.Lines) fr (W3 o n hs) := by
 have h1 := Sees.freezeG (P := P) (nt := nt) (fr := fr) (ob := R2 o n hs h.Old h.New h.Lines) (k := 732) rfl rfl
 rw [mapS_free hf] at h1
 refine h1.trans ?_
 have hset : hs.set (hs.length - 1) h = hs := by
  have h2 := last_split hl
  have hlen : hs.length - 1 = hs.dropLast.length := by rw [List.length_dropLast]
  conv => lhs; rw [hlen]; arg 1; rw [h2]
  rw [List.set_append_right _ _ (Nat.le_refl _), Nat.sub_self, List.set_cons_zero, ← h2]
 have h3 := Sees.closeA (P := P) (nt := nt) (fr := fr) (ob := Obs.mapO (Ob.freeze 732 PatchLine 2 plineC h.Lines) (Obs.drop 732 (R2 o n hs h.Old h.New h.Lines))) 731 h rfl (by
  obtain ⟨a, b, ls⟩ := h
  cases ls with
  | nil => exact absurd rfl hne
  | cons x r => rfl)
 rw [hset] at h3
 refine h3.trans (Sees.fewer (ObIn.spec ⟨rfl, rfl, rfl, trivial⟩))
theorem openP {h : PatchHunk} (hf : H5 732 fr = true) (hl : hs.getLast? = some h) (hne : h.Lines = []) : Sees P nt fr (W3 o n hs) fr (R2 o n hs h.Old h.New []) := by
 have hv : hs[hs.length - 1]? = some h := by rw [← List.getLast?_eq_getElem?]; exact hl
 refine (Sees.openA 731 (hs.length - 1) (v := h) Z hv).trans ?_
 have hcells : (cellsOf phunkN h 0 3).map TC.p = [.p (.v (.int .i64 h.Old)), .p (.v (.int .i64 h.New)), .p (.v (.slice none 0 0))] := by
  obtain ⟨a, b, ls⟩ := h
  have hne : ls = [] := hne
  subst hne; rfl
 rw [hcells]
 refine (Sees.adoptA 732 PatchLine 2 plineC 36 (kb := 731) (o := 2) Z Z (by rw [hf]; rfl)).trans ?_
 exact Sees.fewer (ObIn.spec ⟨rfl, rfl, rfl, rfl, trivial⟩)
theorem toShut (hf : H5 732 fr = true) : Sees P nt fr (objP o n hs) fr (W3 o n hs) := by
 unfold objP
 cases hl : hs.getLast? with
 | none => exact Sees.fewer fun _ _ h => h
 | some h =>
  dsimp only
  cases hh : h.Lines with
  | nil => exact Sees.fewer fun _ _ h => h
  | cons x r =>
   dsimp only
   rw [← hh]
   exact shutP hf hl (by rw [hh]; simp)
theorem toOpen {h : PatchHunk} (hf : H5 732 fr = true) (hl : hs.getLast? = some h) : Sees P nt fr (objP o n hs) fr (R2 o n hs h.Old h.New h.Lines) := by
 unfold objP
 rw [hl]
 dsimp only
 cases hh : h.Lines with
 | nil => dsimp only; exact openP hf hl hh
 | cons x r => exact Sees.fewer fun _ _ h => h
theorem ofShut {a b : Int} : objP o n (hs ++ [⟨a, b, []⟩]) = W3 o n (hs ++ [⟨a, b, []⟩]) := by unfold objP; simp
theorem ofOpen {h : PatchHunk} {ls : List PatchLine} (hl : hs.getLast? = some h) (hne : ls ≠ []) : Sees P nt fr (R2 o n hs h.Old h.New ls) fr (objP o n (hs.dropLast ++ [⟨h.Old, h.New, ls⟩])) := by
 have h2 := last_split hl
 have hlen : (hs.dropLast ++ [(⟨h.Old, h.New, ls⟩ : PatchHunk)]).length = hs.length := by
  conv => rhs; rw [h2]
  simp
 have hO : objP o n (hs.dropLast ++ [⟨h.Old, h.New, ls⟩]) = R2 o n (hs.dropLast ++ [⟨h.Old, h.New, ls⟩]) h.Old h.New ls := by
  unfold objP
  cases ls with
  | nil => exact absurd rfl hne
  | cons x r => simp
 rw [hO]
 have h3 := Sees.reA (P := P) (nt := nt) (fr := fr) (ob := R2 o n hs h.Old h.New ls) 731 (hs.dropLast ++ [⟨h.Old, h.New, ls⟩]) rfl hlen (by
  intro i hi
  have hd : hs.dropLast.length = hs.length - 1 := by rw [List.length_dropLast]
  rcases Nat.lt_or_ge i (hs.length - 1) with h4 | h4
  ·rw [List.getElem?_append_left (by omega)]
   conv => rhs; rw [h2]
   rw [List.getElem?_append_left (by omega)]
  ·rw [List.getElem?_eq_none (by omega), List.getElem?_eq_none (by omega)])
 rw [show (hs.length - 1) = (hs.dropLast ++ [(⟨h.Old, h.New, ls⟩ : PatchHunk)]).length - 1 by rw [hlen]] at h3
 exact h3.trans (Sees.fewer (ObIn.spec ⟨rfl, rfl, rfl, rfl, trivial⟩))
end
def d9 (f : List Str → Option Patch) (l : List Str) : List PV := match f l with
 | some p => [pPatch p, D5 true]
 | none => [pPatch patch0, D5 false]
theorem choose_64 : y7 64 = .func (.func 132) #[] #[] := rfl
theorem choose_txt {c : UInt8} (h : c = 32 ∨ c = 45 ∨ c = 43) : y7 c = .func (.func 133) #[] #[] := by rcases h with rfl | rfl | rfl <;> rfl
theorem choose_92 : y7 92 = .func (.func 134) #[] #[] := rfl
theorem choose_no {c : UInt8} (h1 : c ≠ 64) (h2 : ¬ (c = 32 ∨ c = 45 ∨ c = 43)) (h3 : c ≠ 92) : y7 c = .nilFunc := by
 unfold y7 meths
 have e : ∀ d : UInt8, d ≠ c → decide (d = c) = false := fun d h => decide_eq_false h
 have a1 : (32 : UInt8) ≠ c := fun e => h2 (.inl e.symm)
 have a2 : (45 : UInt8) ≠ c := fun e => h2 (.inr (.inl e.symm))
 have a3 : (43 : UInt8) ≠ c := fun e => h2 (.inr (.inr e.symm))
 simp only [List.find?_cons, e _ (Ne.symm h1), e _ a1, e _ a2, e _ a3, e _ (Ne.symm h3), List.find?_nil]
theorem phunk_cell {x : PatchHunk} (j : Nat) (rd : Rd) (u : Value) (h : (phunkN x j).rep rd u) : (phunkC x j).rep rd u := by
 match j with
 | 0 => exact h
 | 1 => exact h
 | j + 2 =>
  obtain ⟨a, b, ls⟩ := x
  cases ls with
  | nil =>
   have h : (Cell.v (.slice none 0 0)).rep rd u := h
   obtain ⟨rfl, _⟩ := h
   exact W6 _ _ _
  | cons y r => exact h
set_option maxHeartbeats 2000000
theorem stparse_ok (l : List Str) (hw : (l.map fun s => s.length + 65).sum ≤ 134217728) (hsz : ∀ s ∈ l, s.length ≤ 4194304) : FnOk Tryz.prog 59 [Z6 l] (fun rs => rs = d9 N4 l) := by
 have hll : 65 * l.length ≤ (l.map fun s => s.length + 65).sum := by
  clear hw hsz
  induction l with
  | nil => simp
  | cons x r ih => simp only [List.map_cons, List.sum_cons, List.length_cons]; omega
 by_cases hlen : l.length < 2
 ·have hp : N4 l = none := by
   match l, hlen with
   | [], _ => rfl
   | [_], _ => rfl
  refine FnOk.intro Tryz.func59 (by decide) Z Z Z Z ?_
  refine k2 ?_
  refine A5 (C8 (H4 2 Z) Z (A2 (A4 Z Z) Z (A6 ?_)))
  refine k1 (k2 (k2 ?_))
  refine A5 (A2 (A3 Z Z) Z (A2 (F8 Z (.pure _ _ _ _)) Z (A2 (F0 Z Z) Z (A6 ?_))))
  refine k1 ?_
  refine B3 rfl (fun ht => ?_) (fun ht => ?_)
  rotate_left
  ·exact absurd (by omega) (A1 ht)
  refine k2 ?_
  refine A5 (A2 (G4 Z) Z (F4 (B9 TySz.out Z Z Z Z Z Z) (A2 (A4 Z Z) Z (A6 ?_))))
  refine k1 ?_
  refine G7 (Sees.listB PatchHunk 3 phunkC 2 2 Z Z) ?_
  refine k10 (k11 ?_)
  exact B5 (rs := [pPatch patch0, D5 false]) (T5 rfl rfl rfl rfl rfl rfl rfl) (by unfold d9; rw [hp])
 obtain ⟨l0, l1, R, rfl⟩ : ∃ a b r, l = a :: b :: r := by
  match l, hlen with
  | a :: b :: r, _ => exact ⟨a, b, r, rfl⟩
  | [], h => exact absurd (by simp) h
  | [_], h => exact absurd (by simp) h
 have z0 := hsz l0 (by simp)
 have z1 := hsz l1 (by simp)
 have hWR : (R.map fun s => s.length + 65).sum ≤ 134217728 := by simp only [List.map_cons, List.sum_cons] at hw; omega
 have hRl : R.length ≤ 134217728 := by simp only [List.length_cons] at hll; omega
 clear hw hll
 refine FnOk.intro Tryz.func59 (by decide) Z Z Z Z ?_
 refine k2 ?_
 refine A5 (C8 (H4 2 Z) Z (A2 (A4 Z Z) Z (A6 ?_)))
 refine k1 (k2 (k2 ?_))
 refine A5 (A2 (A3 Z Z) Z (A2 (F8 Z (.pure _ _ _ _)) Z (A2 (F0 Z Z) Z (A6 ?_))))
 refine k1 ?_
 refine B3 rfl (fun ht => ?_) (fun ht => ?_)
 ·exact absurd (A0 ht) (by simp only [List.length_cons]; omega)
 refine k5 (k1 (k2 ?_))
 refine A5 (A2 (G4 Z) Z (C8 (l4 730 Z Z Z) Z (A2 (A4 Z Z) Z (A6 ?_))))
 refine k1 (k2 ?_)
 refine A5 (A2 (A4 Z Z) Z (A2 (A4 Z Z) Z (A6 ?_)))
 refine k1 (k2 ?_)
 refine A5 (A2 (A3 Z Z) Z (A2 (A3 Z Z) Z (A2 (B4 Z (.pure _ _ _ _) Z (by omega) (show (l0 :: l1 :: R)[(0 : Int).toNat]? = some l0 from Z)) Z (A2 (B8 Z Z) Z (C0 (stname_ok l0 [45, 45, 45, 32] (by omega)) Z Z Z ?_))))); rintro _ ⟨w0, b0, rfl, h0⟩; refine A2 (A3 Z Z) Z (A2 (B1 Z Z) Z (A2 (B1 Z Z) Z (A2 (B7 Z) Z (A2 (A7 Z) Z (A2 (A7 Z) Z (F4 (B9 TySz.out Z Z Z Z Z Z) (A2 (A4 Z Z) Z (A6 ?_))))))))
 refine k1 (k2 ?_)
 refine A5 (A2 (A3 Z Z) Z (A2 (A3 Z Z) Z (A2 (B4 Z (.pure _ _ _ _) Z (by omega) (show (l0 :: l1 :: R)[(1 : Int).toNat]? = some l1 from Z)) Z (A2 (B8 Z Z) Z (C0 (stname_ok l1 [43, 43, 43, 32] (by omega)) Z Z Z ?_))))); rintro _ ⟨w1, b1, rfl, h1⟩; refine A2 (A3 Z Z) Z (A2 (B1 Z Z) Z (A2 (B1 Z Z) Z (A2 (B7 Z) Z (A2 (A7 Z) Z (A2 (A7 Z) Z (F4 (B9 TySz.out Z Z Z Z Z Z) (A2 (A4 Z Z) Z (A6 ?_))))))))
 refine k1 (k2 (k2 ?_))
 refine A5 (A2 (A3 Z Z) Z (A2 (E5 Z) Z (A2 (A3 Z Z) Z (A8 Z Z Z Z (fun hg => by rw [hg]; exact A3 Z Z) ?_)))); refine A8 Z Z Z Z (fun hg => by rw [hg]; exact E5 Z) ?_; refine A2 (B2 Z (fun h => by first | rfl | (rw [h]; rfl)) (fun h => by first | rfl | (rw [h]; rfl))) Z ?_; refine A6 ?_
 refine k1 ?_
 have hfail : J7 l0 [45, 45, 45, 32] = none ∨ J7 l1 [43, 43, 43, 32] = none → N4 (l0 :: l1 :: R) = none := by
  intro h
  unfold N4
  rcases h with h | h
  ·simp only [h]
  ·simp only [h]
   cases J7 l0 [45, 45, 45, 32] <;> rfl
 by_cases hnm : J7 l0 [45, 45, 45, 32] = none ∨ J7 l1 [43, 43, 43, 32] = none
 ·refine B3 rfl (fun ht => ?_) (fun ht => ?_)
  rotate_left
  ·exfalso
   rcases hnm with h | h
   ·rw [h] at h0; have h0 : b0 = false := h0; rw [h0] at ht; cases ht
   ·rw [h] at h1; have h1 : b1 = false := h1; rw [h1] at ht; cases b0 <;> cases ht
  refine k2 ?_
  refine A5 (A2 (G4 Z) Z (F4 (B9 TySz.out Z Z Z Z Z Z) (A2 (A4 Z Z) Z (A6 ?_))))
  refine k1 ?_
  refine G7 (Sees.listB PatchHunk 3 phunkC 2 2 Z Z) ?_
  refine k10 (k11 ?_)
  exact B5 (rs := [pPatch patch0, D5 false]) (T5 rfl rfl rfl rfl rfl rfl rfl) (by unfold d9; rw [hfail hnm])
 obtain ⟨o, ho⟩ : ∃ o, J7 l0 [45, 45, 45, 32] = some o := by
  cases h : J7 l0 [45, 45, 45, 32] with
  | none => exact absurd (.inl h) hnm
  | some o => exact ⟨o, rfl⟩
 obtain ⟨n, hn⟩ : ∃ n, J7 l1 [43, 43, 43, 32] = some n := by
  cases h : J7 l1 [43, 43, 43, 32] with
  | none => exact absurd (.inr h) hnm
  | some n => exact ⟨n, rfl⟩
 rw [ho] at h0
 rw [hn] at h1
 obtain ⟨rfl, rfl⟩ := h0
 obtain ⟨rfl, rfl⟩ := h1
 have hPs : ∀ hs, P1 [] R = some hs → [pPatch ⟨w0, w1, hs⟩, D5 true] = d9 N4 (l0 :: l1 :: R) := by
  intro hs h
  have : N4 (l0 :: l1 :: R) = some ⟨w0, w1, hs⟩ := by unfold N4; simp only [ho, hn, h]
  unfold d9; rw [this]
 have hnone : P1 [] R = none → [pPatch patch0, D5 false] = d9 N4 (l0 :: l1 :: R) := by
  intro h
  have : N4 (l0 :: l1 :: R) = none := by unfold N4; simp only [ho, hn, h]
  unfold d9; rw [this]
 refine B3 rfl (fun ht => ?_) (fun ht => ?_)
 ·cases ht
 refine k5 (k1 (k2 (k2 ?_)))
 refine A5 (A2 (A3 Z Z) Z (A2 (n_slice_l Z (.pure _ _ _ _) Z (by (first | omega | (simp only [List.length_cons]; omega))) (by (first | omega | (simp only [List.length_cons]; omega)))) Z (A2 (F8 Z (.pure _ _ _ _)) Z (A2 (A3 Z Z) Z (A6 ?_)))))
 refine k1 (k3 ?_)
 refine G7 (Sees.adoptBG 731 PatchHunk 3 phunkN 29 (kb := 730) (o := 2) Z Z Z) ?_
 refine E9 (X := Nat × List PatchHunk) (fun x => ([(4, .s (.one (.ref 730 0))), (2, .s (.one (.ref 2 0))), (46, E8 Str 1 K8 R), (47, C6 R.length), (48, C6 x.1)], objP w0 w1 x.2)) (fun x => x.1 ≤ R.length ∧ szP x.2 ≤ wTo60 R x.1 ∧ P1 x.2 (R.drop x.1) = P1 [] R) (fun x => R.length - x.1) (0, []) ⟨Nat.zero_le _, by simp [szP], rfl⟩ (Sees.of ⟨le1 rfl, le1 rfl, le1 rfl, le1 rfl, le1 rfl, trivial⟩ ⟨rfl, rfl, rfl, trivial⟩) ?_
 rintro ⟨k, hs⟩ ⟨hk, hz, hf⟩
 dsimp only at hk hz hf ⊢
 have hzb := wTo60_le R k
 have hzb2 : szP hs ≤ 134217728 := by omega
 have hsl := z7 hs
 refine k2 ?_
 refine A5 (A2 (F0 Z Z) Z (A6 ?_))
 refine k1 (k2 ?_)
 refine B3 rfl (fun ht => ?_) (fun ht => ?_)
 ·have hlt : k < R.length := by have := A0 ht; omega
  obtain ⟨x, hx⟩ : ∃ x, x = R[k] := ⟨_, rfl⟩
  have hv : R[k]? = some x := by rw [hx]; simp [hlt]
  have hxz := hsz x (by simp [List.mem_of_getElem? hv])
  have hwk := wTo60_succ R k x hv
  rw [List.drop_eq_getElem_cons hlt, ← hx, P1] at hf
  refine k5 (k1 (k2 (k3 (k2 ?_))))
  refine A5 (A2 (B4 Z (.pure _ _ _ _) Z (by omega) hv) Z (A2 (B8 Z Z) Z (A2 (A4 Z Z) Z (A6 ?_))))
  refine k1 (k2 (k2 ?_))
  refine A5 (A2 (A3 Z Z) Z (A2 (W8 Z Z) Z (A6 ?_)))
  refine k1 ?_
  refine B3 rfl (fun ht => ?_) (fun ht => ?_)
  ·have h0 : x = [] := A0 ht
   subst h0
   have hf : none = P1 [] R := hf
   refine k2 ?_
   refine G7 (toShut Z) ?_
   refine A5 (A2 (G4 Z) Z (F4 (B9 TySz.out Z Z Z Z Z Z) (A2 (A4 Z Z) Z (A6 ?_))))
   refine k1 ?_
   refine G7 (Sees.listB PatchHunk 3 phunkC 2 2 Z Z) ?_
   refine k10 (k11 (k12 (k11 (k11 (k12 (k11 ?_))))))
   exact B5 (rs := [pPatch patch0, D5 false]) (T5 rfl rfl rfl rfl rfl rfl rfl) (hnone hf.symm)
  have hne : x ≠ [] := A1 ht
  obtain ⟨c, r, rfl⟩ : ∃ c r, x = c :: r := by
   cases x with
   | nil => exact absurd rfl hne
   | cons c r => exact ⟨c, r, rfl⟩
  simp only [List.length_cons] at hxz hwk
  refine k5 (k1 (k2 ?_))
  refine A5 (A2 (A3 Z Z) Z (A2 (E7 Z Z (by omega) (show (c :: r)[(0 : Int).toNat]? = some c from Z)) Z (C0 (choose_ok c) Z Z Z ?_))); rintro _ rfl; refine A2 (A4 Z Z) Z (A6 ?_)
  refine k1 (k2 ?_)
  by_cases c64 : c = 64
  ·subst c64
   rw [choose_64]
   have hm := fun gf => header_met (gf := gf) w0 w1 hs (64 :: r) (by omega) (by simp only [List.length_cons]; omega)
   have hst : stepP hs (64 :: r) = match L4 (64 :: r) with | none => none | some (a, _, b, _) => some (hs ++ [⟨a, b, []⟩]) := rfl
   refine G7 (toShut Z) ?_
   cases hh : L4 (64 :: r) with
   | none =>
    rw [hh] at hm hst
    rw [hst] at hf
    have hf : none = P1 [] R := hf
    refine A5 (A2 (A3 Z Z) Z (A2 (l9 Z (by kernel_rfl)) Z (A2 (A3 Z Z) Z (E0 Z Z Z Z (A2 (A3 Z Z) Z (E0 Z Z Z Z (A2 (A3 Z Z) Z (E0 Z Z Z Z (A2 (A3 Z Z) Z (E0 Z Z Z Z (l_sees ((Sees.trans (Z0 (t := 61) Z) (Sees.of (ob' := W3 w0 w1 hs) (fr' := [(60, O9 false), (61, .s (.one (.clo 132 [] []))), (62, .s (.one (.ref 730 0))), (63, N3 (64 :: r)), (4, .s (.one (.ref 730 0))), (2, .s (.one (.ref 2 0))), (46, E8 Str 1 K8 R), (47, C6 R.length), (48, C6 k)]) ⟨le1 rfl, le1 rfl, le1 rfl, le1 rfl, le1 rfl, le1 rfl, le1 rfl, le1 rfl, le1 rfl, trivial⟩ ⟨rfl, rfl, rfl, trivial⟩))) (l_metF (hm _) Z Z Z Z ?_)))))))))))); rintro _ _ ⟨rfl, rfl⟩; refine E0 Z Z Z Z (A2 (E5 Z) Z (A2 (L3 Z (rfl) Z) Z (A6 ?_)))
    refine k1 ?_
    refine B3 rfl (fun ht => ?_) (fun ht => ?_)
    ·refine k2 ?_
     refine A5 (A2 (G4 Z) Z (F4 (B9 TySz.out Z Z Z Z Z Z) (A2 (A4 Z Z) Z (A6 ?_))))
     refine k1 ?_
     refine G7 (Sees.listB PatchHunk 3 phunkC 2 2 Z Z) ?_
     refine k10 (k12 (k11 (k11 (k12 (k11 ?_)))))
     exact B5 (rs := [pPatch patch0, D5 false]) (T5 rfl rfl rfl rfl rfl rfl rfl) (hnone hf.symm)
    ·cases ht
   | some q =>
    obtain ⟨a, m, b, e⟩ := q
    rw [hh] at hm hst
    rw [hst] at hf
    have hf : P1 (hs ++ [⟨a, b, []⟩]) (R.drop (k + 1)) = P1 [] R := hf
    have hsz2 := step_sz (hs := hs) (hs' := hs ++ [⟨a, b, []⟩]) (l := 64 :: r) hst
    simp only [List.length_cons] at hsz2
    refine A5 (A2 (A3 Z Z) Z (A2 (l9 Z (by kernel_rfl)) Z (A2 (A3 Z Z) Z (E0 Z Z Z Z (A2 (A3 Z Z) Z (E0 Z Z Z Z (A2 (A3 Z Z) Z (E0 Z Z Z Z (A2 (A3 Z Z) Z (E0 Z Z Z Z (l_sees ((Sees.trans (Z0 (t := 61) Z) (Sees.of (ob' := W3 w0 w1 hs) (fr' := [(60, O9 false), (61, .s (.one (.clo 132 [] []))), (62, .s (.one (.ref 730 0))), (63, N3 (64 :: r)), (4, .s (.one (.ref 730 0))), (2, .s (.one (.ref 2 0))), (46, E8 Str 1 K8 R), (47, C6 R.length), (48, C6 k)]) ⟨le1 rfl, le1 rfl, le1 rfl, le1 rfl, le1 rfl, le1 rfl, le1 rfl, le1 rfl, le1 rfl, trivial⟩ ⟨rfl, rfl, rfl, trivial⟩))) (l_metF (hm _) Z Z Z Z ?_)))))))))))); rintro _ _ ⟨rfl, rfl⟩; refine E0 Z Z Z Z (A2 (E5 Z) Z (A2 (L3 Z (rfl) Z) Z (A6 ?_)))
    refine k1 ?_
    refine B3 rfl (fun ht => ?_) (fun ht => ?_)
    ·cases ht
    refine k5 (k4 (k1 ?_))
    refine A5 (A2 (C3 Z Z (by omega)) Z (A2 (A3 Z Z) Z (A6 ?_)))
    refine k1 ?_
    refine ⟨(k + 1, hs ++ [⟨a, b, []⟩]), ⟨hlt, by dsimp only; omega, hf⟩, by dsimp only; omega, ?_⟩
    dsimp only
    rw [ofShut]
    exact Sees.of ⟨le1 rfl, le1 rfl, le1 rfl, le1 rfl, le1 rfl, trivial⟩ ⟨rfl, rfl, rfl, trivial⟩
  have hst64 : ∀ hs', stepP hs (c :: r) = hs' ↔ (if c = 32 ∨ c = 45 ∨ c = 43 then addLine hs ⟨c, r ++ [10]⟩ else if c = 92 then cutLine hs (c :: r) else none) = hs' := by
   intro hs'
   simp only [stepP]
   rw [if_neg c64]
  by_cases ctx : c = 32 ∨ c = 45 ∨ c = 43
  ·rw [choose_txt ctx]
   simp only [if_pos ctx] at hst64
   cases hl : hs.getLast? with
   | none =>
    have hn0 : hs = [] := List.getLast?_eq_none_iff.1 hl
    subst hn0
    have hst := (hst64 none).2 rfl
    rw [hst] at hf
    have hf : none = P1 [] R := hf
    refine G7 (toShut Z) ?_
    refine A5 (A2 (A3 Z Z) Z (A2 (l9 Z (by kernel_rfl)) Z (A2 (A3 Z Z) Z (E0 Z Z Z Z (A2 (A3 Z Z) Z (E0 Z Z Z Z (A2 (A3 Z Z) Z (E0 Z Z Z Z (A2 (A3 Z Z) Z (E0 Z Z Z Z (l_sees ((Sees.trans (Z0 (t := 61) Z) (Sees.of (ob' := W3 w0 w1 []) (fr' := [(60, O9 false), (61, .s (.one (.clo 133 [] []))), (62, .s (.one (.ref 730 0))), (63, N3 (c :: r)), (4, .s (.one (.ref 730 0))), (2, .s (.one (.ref 2 0))), (46, E8 Str 1 K8 R), (47, C6 R.length), (48, C6 k)]) ⟨le1 rfl, le1 rfl, le1 rfl, le1 rfl, le1 rfl, le1 rfl, le1 rfl, le1 rfl, le1 rfl, trivial⟩ ⟨rfl, rfl, rfl, trivial⟩))) (l_metF (content_shut w0 w1 (c :: r)) Z Z Z Z ?_)))))))))))); rintro _ _ ⟨rfl, rfl⟩; refine E0 Z Z Z Z (A2 (E5 Z) Z (A2 (L3 Z (rfl) Z) Z (A6 ?_)))
    refine k1 ?_
    refine B3 rfl (fun ht => ?_) (fun ht => ?_)
    ·refine k2 ?_
     refine A5 (A2 (G4 Z) Z (F4 (B9 TySz.out Z Z Z Z Z Z) (A2 (A4 Z Z) Z (A6 ?_))))
     refine k1 ?_
     refine G7 (Sees.listB PatchHunk 3 phunkC 2 2 Z Z) ?_
     refine k10 (k12 (k11 (k11 (k12 (k11 ?_)))))
     exact B5 (rs := [pPatch patch0, D5 false]) (T5 rfl rfl rfl rfl rfl rfl rfl) (hnone hf.symm)
    ·cases ht
   | some h =>
    have hst := (hst64 (some (hs.dropLast ++ [⟨h.Old, h.New, h.Lines ++ [⟨c, r ++ [10]⟩]⟩]))).2 (by unfold addLine; rw [hl])
    rw [hst] at hf
    have hf : P1 (hs.dropLast ++ [⟨h.Old, h.New, h.Lines ++ [⟨c, r ++ [10]⟩]⟩]) (R.drop (k + 1)) = P1 [] R := hf
    have hsz2 := step_sz hst
    simp only [List.length_cons] at hsz2
    have hmem := n5 (List.mem_of_getLast? hl)
    have hln := V6 h.Lines
    unfold szH at hmem
    have h0 : 0 < hs.length := List.length_pos_iff.2 (by intro e; rw [e] at hl; cases hl)
    refine G7 (toOpen Z hl) ?_
    refine A5 (A2 (A3 Z Z) Z (A2 (l9 Z (by kernel_rfl)) Z (A2 (A3 Z Z) Z (E0 Z Z Z Z (A2 (A3 Z Z) Z (E0 Z Z Z Z (A2 (A3 Z Z) Z (E0 Z Z Z Z (A2 (A3 Z Z) Z (E0 Z Z Z Z (l_sees ((Sees.trans (Z0 (t := 61) Z) (Sees.of (ob' := R2 w0 w1 hs h.Old h.New h.Lines) (fr' := [(60, O9 false), (61, .s (.one (.clo 133 [] []))), (62, .s (.one (.ref 730 0))), (63, N3 (c :: r)), (4, .s (.one (.ref 730 0))), (2, .s (.one (.ref 2 0))), (46, E8 Str 1 K8 R), (47, C6 R.length), (48, C6 k)]) ⟨le1 rfl, le1 rfl, le1 rfl, le1 rfl, le1 rfl, le1 rfl, le1 rfl, le1 rfl, le1 rfl, trivial⟩ ⟨rfl, rfl, rfl, rfl, trivial⟩))) (l_metF (content_open 133 R k w0 w1 hs h.Old h.New h.Lines c r h0 (by omega) (by omega) (by omega)) Z Z Z Z ?_)))))))))))); rintro _ _ ⟨rfl, rfl⟩; refine E0 Z Z Z Z (A2 (E5 Z) Z (A2 (L3 Z (rfl) Z) Z (A6 ?_)))
    refine k1 ?_
    refine B3 rfl (fun ht => ?_) (fun ht => ?_)
    ·cases ht
    refine k5 (k4 (k1 ?_))
    refine A5 (A2 (C3 Z Z (by omega)) Z (A2 (A3 Z Z) Z (A6 ?_)))
    refine k1 ?_
    refine ⟨(k + 1, hs.dropLast ++ [⟨h.Old, h.New, h.Lines ++ [⟨c, r ++ [10]⟩]⟩]), ⟨hlt, by dsimp only; omega, hf⟩, by dsimp only; omega, ?_⟩
    refine Sees.trans ?_ (ofOpen hl (by simp))
    exact Sees.of ⟨le1 rfl, le1 rfl, le1 rfl, le1 rfl, le1 rfl, trivial⟩ ⟨rfl, rfl, rfl, rfl, trivial⟩
  simp only [if_neg ctx] at hst64
  by_cases c92 : c = 92
  ·subst c92
   rw [choose_92]
   simp only [if_true] at hst64
   cases hl : hs.getLast? with
   | none =>
    have hn0 : hs = [] := List.getLast?_eq_none_iff.1 hl
    subst hn0
    have hst := (hst64 none).2 rfl
    rw [hst] at hf
    have hf : none = P1 [] R := hf
    refine G7 (toShut Z) ?_
    refine A5 (A2 (A3 Z Z) Z (A2 (l9 Z (by kernel_rfl)) Z (A2 (A3 Z Z) Z (E0 Z Z Z Z (A2 (A3 Z Z) Z (E0 Z Z Z Z (A2 (A3 Z Z) Z (E0 Z Z Z Z (A2 (A3 Z Z) Z (E0 Z Z Z Z (l_sees ((Sees.trans (Z0 (t := 61) Z) (Sees.of (ob' := W3 w0 w1 []) (fr' := [(60, O9 false), (61, .s (.one (.clo 134 [] []))), (62, .s (.one (.ref 730 0))), (63, N3 (92 :: r)), (4, .s (.one (.ref 730 0))), (2, .s (.one (.ref 2 0))), (46, E8 Str 1 K8 R), (47, C6 R.length), (48, C6 k)]) ⟨le1 rfl, le1 rfl, le1 rfl, le1 rfl, le1 rfl, le1 rfl, le1 rfl, le1 rfl, le1 rfl, trivial⟩ ⟨rfl, rfl, rfl, trivial⟩))) (l_metF (unended_shut w0 w1 (92 :: r)) Z Z Z Z ?_)))))))))))); rintro _ _ ⟨rfl, rfl⟩; refine E0 Z Z Z Z (A2 (E5 Z) Z (A2 (L3 Z (rfl) Z) Z (A6 ?_)))
    refine k1 ?_
    refine B3 rfl (fun ht => ?_) (fun ht => ?_)
    ·refine k2 ?_
     refine A5 (A2 (G4 Z) Z (F4 (B9 TySz.out Z Z Z Z Z Z) (A2 (A4 Z Z) Z (A6 ?_))))
     refine k1 ?_
     refine G7 (Sees.listB PatchHunk 3 phunkC 2 2 Z Z) ?_
     refine k10 (k12 (k11 (k11 (k12 (k11 ?_)))))
     exact B5 (rs := [pPatch patch0, D5 false]) (T5 rfl rfl rfl rfl rfl rfl rfl) (hnone hf.symm)
    ·cases ht
   | some h =>
    have hmem := n5 (List.mem_of_getLast? hl)
    have hln := V6 h.Lines
    unfold szH at hmem
    have h0 : 0 < hs.length := List.length_pos_iff.2 (by intro e; rw [e] at hl; cases hl)
    have hm := fun gf => unended_open (gf := gf) w0 w1 hs h.Old h.New h.Lines (92 :: r) h0 (by omega) (by omega) (fun y hy => by have := z6 hy; omega)
    refine G7 (toOpen Z hl) ?_
    by_cases hx2 : ∃ y, h.Lines.getLast? = some y ∧ (92 :: r) = p8
    ·obtain ⟨y, hy, hno⟩ := hx2
     have hst := (hst64 (some (hs.dropLast ++ [⟨h.Old, h.New, h.Lines.dropLast ++ [⟨y.Kind, j6 y.Text⟩]⟩]))).2 (by unfold cutLine; rw [hl]; dsimp only; rw [hy]; dsimp only; rw [if_pos hno])
     rw [hst] at hf
     have hf : P1 (hs.dropLast ++ [⟨h.Old, h.New, h.Lines.dropLast ++ [⟨y.Kind, j6 y.Text⟩]⟩]) (R.drop (k + 1)) = P1 [] R := hf
     have hsz2 := step_sz hst
     simp only [List.length_cons] at hsz2
     have hm2 := fun gf => (hm gf).mono (post' := fun rs ob' => rs = [tBo true] ∧ ob' = R2 w0 w1 hs h.Old h.New (h.Lines.dropLast ++ [⟨y.Kind, j6 y.Text⟩])) (fun rs ob' hh => by rw [hy] at hh; dsimp only at hh; rw [if_pos hno] at hh; exact hh)
     refine A5 (A2 (A3 Z Z) Z (A2 (l9 Z (by kernel_rfl)) Z (A2 (A3 Z Z) Z (E0 Z Z Z Z (A2 (A3 Z Z) Z (E0 Z Z Z Z (A2 (A3 Z Z) Z (E0 Z Z Z Z (A2 (A3 Z Z) Z (E0 Z Z Z Z (l_sees ((Sees.trans (Z0 (t := 61) Z) (Sees.of (ob' := R2 w0 w1 hs h.Old h.New h.Lines) (fr' := [(60, O9 false), (61, .s (.one (.clo 134 [] []))), (62, .s (.one (.ref 730 0))), (63, N3 (92 :: r)), (4, .s (.one (.ref 730 0))), (2, .s (.one (.ref 2 0))), (46, E8 Str 1 K8 R), (47, C6 R.length), (48, C6 k)]) ⟨le1 rfl, le1 rfl, le1 rfl, le1 rfl, le1 rfl, le1 rfl, le1 rfl, le1 rfl, le1 rfl, trivial⟩ ⟨rfl, rfl, rfl, rfl, trivial⟩))) (l_metF (hm2 _) Z Z Z Z ?_)))))))))))); rintro _ _ ⟨rfl, rfl⟩; refine E0 Z Z Z Z (A2 (E5 Z) Z (A2 (L3 Z (rfl) Z) Z (A6 ?_)))
     refine k1 ?_
     refine B3 rfl (fun ht => ?_) (fun ht => ?_)
     ·cases ht
     refine k5 (k4 (k1 ?_))
     refine A5 (A2 (C3 Z Z (by omega)) Z (A2 (A3 Z Z) Z (A6 ?_)))
     refine k1 ?_
     refine ⟨(k + 1, hs.dropLast ++ [⟨h.Old, h.New, h.Lines.dropLast ++ [⟨y.Kind, j6 y.Text⟩]⟩]), ⟨hlt, by dsimp only; omega, hf⟩, by dsimp only; omega, ?_⟩
     refine Sees.trans ?_ (ofOpen hl (by simp))
     exact Sees.of ⟨le1 rfl, le1 rfl, le1 rfl, le1 rfl, le1 rfl, trivial⟩ ⟨rfl, rfl, rfl, rfl, trivial⟩
    ·have hst := (hst64 none).2 (by
      unfold cutLine; rw [hl]; dsimp only
      cases hy : h.Lines.getLast? with
      | none => rfl
      | some y => dsimp only; rw [if_neg (fun e => hx2 ⟨y, hy, e⟩)])
     rw [hst] at hf
     have hf : none = P1 [] R := hf
     have hm2 := fun gf => (hm gf).mono (post' := fun rs ob' => rs = [tBo false] ∧ ob' = [(2, u3)]) (fun rs ob' hh => by
      cases hy : h.Lines.getLast? with
      | none => rw [hy] at hh; exact hh
      | some y => rw [hy] at hh; dsimp only at hh; rw [if_neg (fun e => hx2 ⟨y, hy, e⟩)] at hh; exact hh)
     refine A5 (A2 (A3 Z Z) Z (A2 (l9 Z (by kernel_rfl)) Z (A2 (A3 Z Z) Z (E0 Z Z Z Z (A2 (A3 Z Z) Z (E0 Z Z Z Z (A2 (A3 Z Z) Z (E0 Z Z Z Z (A2 (A3 Z Z) Z (E0 Z Z Z Z (l_sees ((Sees.trans (Z0 (t := 61) Z) (Sees.of (ob' := R2 w0 w1 hs h.Old h.New h.Lines) (fr' := [(60, O9 false), (61, .s (.one (.clo 134 [] []))), (62, .s (.one (.ref 730 0))), (63, N3 (92 :: r)), (4, .s (.one (.ref 730 0))), (2, .s (.one (.ref 2 0))), (46, E8 Str 1 K8 R), (47, C6 R.length), (48, C6 k)]) ⟨le1 rfl, le1 rfl, le1 rfl, le1 rfl, le1 rfl, le1 rfl, le1 rfl, le1 rfl, le1 rfl, trivial⟩ ⟨rfl, rfl, rfl, rfl, trivial⟩))) (l_metF (hm2 _) Z Z Z Z ?_)))))))))))); rintro _ _ ⟨rfl, rfl⟩; refine E0 Z Z Z Z (A2 (E5 Z) Z (A2 (L3 Z (rfl) Z) Z (A6 ?_)))
     refine k1 ?_
     refine B3 rfl (fun ht => ?_) (fun ht => ?_)
     ·refine k2 ?_
      refine A5 (A2 (G4 Z) Z (F4 (B9 TySz.out Z Z Z Z Z Z) (A2 (A4 Z Z) Z (A6 ?_))))
      refine k1 ?_
      refine G7 (Sees.listB PatchHunk 3 phunkC 2 2 Z Z) ?_
      refine k10 (k12 (k11 (k11 (k12 (k11 ?_)))))
      exact B5 (rs := [pPatch patch0, D5 false]) (T5 rfl rfl rfl rfl rfl rfl rfl) (hnone hf.symm)
     ·cases ht
  rw [choose_no c64 ctx c92]
  have hst := (hst64 none).2 (by rw [if_neg c92])
  rw [hst] at hf
  have hf : none = P1 [] R := hf
  refine G7 (toShut Z) ?_
  refine A5 (A2 (A3 Z Z) Z (A2 (n_eql_fn0 Z (by kernel_rfl)) Z (A2 (A3 Z Z) Z (G3 Z Z Z (by simp) Z (G3 Z Z Z (by simp) Z (G3 Z Z Z (by simp) Z (G3 Z Z Z (by simp) Z (G3 Z Z Z (by simp) Z (A2 (S4 Z (rfl) Z) Z (A6 ?_))))))))))
  refine k1 ?_
  refine B3 rfl (fun ht => ?_) (fun ht => ?_)
  ·refine k2 ?_
   refine A5 (A2 (G4 Z) Z (F4 (B9 TySz.out Z Z Z Z Z Z) (A2 (A4 Z Z) Z (A6 ?_))))
   refine k1 ?_
   refine G7 (Sees.listB PatchHunk 3 phunkC 2 2 Z Z) ?_
   refine k10 (k12 (k11 (k11 (k12 (k11 ?_)))))
   exact B5 (rs := [pPatch patch0, D5 false]) (T5 rfl rfl rfl rfl rfl rfl rfl) (hnone hf.symm)
  ·cases ht
 ·have hk2 : k = R.length := by have := A1 ht; omega
  subst hk2
  rw [List.drop_eq_nil_of_le (Nat.le_refl _)] at hf
  have hf : some hs = P1 [] R := hf
  refine k6 (k2 ?_)
  refine G7 (toShut Z) ?_
  refine G7 (Sees.recell 731 phunkC Z (fun x _ j _ rd u => phunk_cell j rd u)) ?_
  refine G7 (Sees.freezeG (k := 731) Z Z) ?_
  refine c_cut [(4, .s (.one (.ref 730 0))), (2, .s (.one (.ref 2 0)))] [(730, .box [.p (.v (.string ⟨w0.toArray⟩)), .p (.v (.string ⟨w1.toArray⟩)), .p (.list PatchHunk 3 phunkC hs)]), (2, u3)] (Sees.of ⟨le1 rfl, le1 rfl, trivial⟩ ⟨rfl, rfl, trivial⟩) ?_
  refine A5 (A2 (A3 Z Z) Z (A2 (B7 Z) Z (A2 (A7 Z) Z (A2 (D7 Z Z Z) Z (F4 (B9 TySz.out Z Z Z Z Z Z) (A2 (A4 Z Z) Z (A6 ?_)))))))
  refine k1 (k10 ?_)
  exact B5 (rs := [pPatch ⟨w0, w1, hs⟩, D5 true]) (T5 rfl rfl rfl rfl rfl rfl rfl) (hPs hs hf.symm)
theorem linesS_sz {s : Str} {l : List Str} (h : j5 s = some l) : (l.map fun t => t.length + 65).sum ≤ 66 * s.length ∧ ∀ t ∈ l, t.length ≤ s.length := by
 unfold j5 at h
 split at h
 ·cases h; simp
 ·split at h
  ·have h : (D9 s).map List.dropLast = l := Option.some.inj h
   obtain ⟨f1, f2⟩ := U1 s
   have hl := W4 s
   have hsum : ∀ L : List Str, ((L.map List.dropLast).map fun t => t.length + 65).sum ≤ L.flatten.length + 65 * L.length := by
    intro L
    induction L with
    | nil => simp
    | cons x r ih =>
     simp only [List.map_cons, List.sum_cons, List.flatten_cons, List.length_append, List.length_cons, List.length_dropLast] at ih ⊢
     omega
   have hs := hsum (D9 s)
   rw [h] at hs
   have hs2 : (l.map fun (t : Str) => t.length + 65).sum ≤ (D9 s).flatten.length + 65 * (D9 s).length := hs
   refine ⟨by omega, fun t ht => ?_⟩
   rw [← h] at ht
   obtain ⟨x, hx, rfl⟩ := List.mem_map.1 ht
   have := (List.sublist_flatten_of_mem hx).length_le
   rw [List.length_dropLast]; omega
  ·cases h
theorem fold_sz {R : List Str} : ∀ {hs hs' : List PatchHunk}, P1 hs R = some hs' → szP hs' ≤ szP hs + (R.map fun t => t.length + 65).sum := by
 induction R with
 | nil => intro hs hs' h; cases h; simp
 | cons x r ih =>
  intro hs hs' h
  rw [P1] at h
  cases hx : stepP hs x with
  | none => rw [hx] at h; cases h
  | some g =>
   rw [hx] at h
   have h1 := step_sz hx
   have h2 := ih h
   simp only [List.map_cons, List.sum_cons]; omega
theorem parseP_sz {l : List Str} {p : Patch} (h : N4 l = some p) : szP p.Hunks ≤ (l.map fun t => t.length + 65).sum := by
 unfold N4 at h
 match l with
 | [] => cases h
 | [_] => cases h
 | a :: b :: r =>
  dsimp only at h
  cases h1 : J7 a [45, 45, 45, 32] with
  | none => rw [h1] at h; cases h
  | some o =>
   cases h2 : J7 b [43, 43, 43, 32] with
   | none => rw [h1, h2] at h; cases h
   | some n =>
    rw [h1, h2] at h
    dsimp only at h
    cases h3 : P1 [] r with
    | none => rw [h3] at h; cases h
    | some hs =>
     rw [h3] at h
     have h : (⟨o, n, hs⟩ : Patch) = p := Option.some.inj h
     rw [← h]
     have := fold_sz h3
     simp only [List.map_cons, List.sum_cons]
     have e : szP ([] : List PatchHunk) = 0 := rfl
     first | omega | (dsimp only; omega)
def T8 (f : List Str → Option Patch) (s : Str) : List PV := [pPatch (H9 f s).1, D2 (H9 f s).2]
theorem stParse_ok (s : Str) (hs : s.length ≤ 1048576) : FnOk Tryz.prog 30 [F6 s] (fun rs => rs = T8 N4 s) := by
 have h16 : ¬ 16777216 < s.length := by omega
 have hL := stLines_ok s (by omega)
 have hfail : ∀ {x : Patch × Int}, H9 N4 s = x → x = (patch0, 4) → [pPatch patch0, D2 4] = T8 N4 s := by
  intro x h1 h2
  unfold T8; rw [h1, h2]
 refine FnOk.intro Tryz.func30 (by decide) Z Z Z Z ?_
 refine k2 ?_
 refine A5 (C8 (H4 2 Z) Z (A2 (A4 Z Z) Z (A6 ?_)))
 refine k1 (k2 (k2 ?_))
 refine A5 (A2 (A3 Z Z) Z (A2 (D8 Z) Z (A2 (L9 Z Z) Z (A6 ?_))))
 refine k1 ?_
 refine B3 rfl (fun ht => ?_) (fun ht => ?_)
 ·exact absurd (A0 ht) (by omega)
 cases hl : j5 s with
 | none =>
  unfold w9 at hL
  rw [hl] at hL
  refine k5 (k1 (k2 ?_))
  refine A5 (A2 (A3 Z Z) Z (C0 (hL) Z Z Z ?_)); rintro _ rfl; refine A2 (A3 Z Z) Z (A2 (B1 Z Z) Z (A2 (B1 Z Z) Z (A2 (A4 Z Z) Z (A2 (A4 Z Z) Z (A6 ?_)))))
  refine k1 (k2 (k2 ?_))
  refine A5 (A2 (A3 Z Z) Z (A2 (E5 Z) Z (A6 ?_)))
  refine k1 ?_
  refine B3 rfl (fun ht => ?_) (fun ht => ?_)
  ·refine k2 ?_
   refine A5 (A2 (G4 Z) Z (F4 (B9 TySz.out Z Z Z Z Z Z) (A2 (A4 Z Z) Z (A6 ?_))))
   refine k1 ?_
   refine G7 (Sees.listB PatchHunk 3 phunkC 2 2 Z Z) ?_
   refine k10 (k11 ?_)
   exact B5 (rs := [pPatch patch0, D2 4]) (T5 rfl rfl rfl rfl rfl rfl rfl) (hfail rfl (by unfold H9; rw [if_neg h16, hl]))
  ·cases ht
 | some l =>
  unfold w9 at hL
  rw [hl] at hL
  obtain ⟨z1, z2⟩ := linesS_sz hl
  have hP := stparse_ok l (by omega) (fun t ht => by have := z2 t ht; omega)
  cases hp : N4 l with
  | none =>
   unfold d9 at hP
   rw [hp] at hP
   refine k5 (k1 (k2 ?_))
   refine A5 (A2 (A3 Z Z) Z (C0 (hL) Z Z Z ?_)); rintro _ rfl; refine A2 (A3 Z Z) Z (A2 (B1 Z Z) Z (A2 (B1 Z Z) Z (A2 (A4 Z Z) Z (A2 (A4 Z Z) Z (A6 ?_)))))
   refine k1 (k2 (k2 ?_))
   refine A5 (A2 (A3 Z Z) Z (A2 (E5 Z) Z (A6 ?_)))
   refine k1 ?_
   refine B3 rfl (fun ht => ?_) (fun ht => ?_)
   ·cases ht
   refine k5 (k1 (k2 ?_))
   refine A5 (A2 (A3 Z Z) Z (C0 (hP) Z Z Z ?_)); rintro _ rfl; refine A2 (A3 Z Z) Z (A2 (B1 Z Z) Z (A2 (B1 Z Z) Z (C8 (H4 6 Z) Z (F4 (B9 TySz.out Z Z Z Z Z Z) (A2 (A4 Z Z) Z (A6 ?_))))))
   refine k1 (k2 (k2 ?_))
   refine A5 (A2 (A3 Z Z) Z (A2 (E5 Z) Z (A6 ?_)))
   refine k1 ?_
   refine B3 rfl (fun ht => ?_) (fun ht => ?_)
   ·refine k2 ?_
    refine A5 (A2 (G4 Z) Z (F4 (B9 TySz.out Z Z Z Z Z Z) (A2 (A4 Z Z) Z (A6 ?_))))
    refine k1 ?_
    refine G7 (Sees.listB PatchHunk 3 phunkC 2 2 Z Z) ?_
    refine k10 (k11 ?_)
    exact B5 (rs := [pPatch patch0, D2 4]) (T5 rfl rfl rfl rfl rfl rfl rfl) (hfail rfl (by unfold H9; rw [if_neg h16, hl]; dsimp only; rw [hp]))
   ·cases ht
  | some p =>
   unfold d9 at hP
   rw [hp] at hP
   have hsz := parseP_sz hp
   have hF := uformat_ok p (by omega)
   have hS : H9 N4 s = if G1 p ≠ 0 ∨ H0 p ≠ s then (patch0, 4) else (p, 0) := by unfold H9; rw [if_neg h16, hl]; dsimp only; rw [hp]
   obtain ⟨w, hw⟩ : ∃ w, w = if G1 p ≠ 0 then [] else H0 p := ⟨_, rfl⟩
   rw [← hw] at hF
   refine k5 (k1 (k2 ?_))
   refine A5 (A2 (A3 Z Z) Z (C0 (hL) Z Z Z ?_)); rintro _ rfl; refine A2 (A3 Z Z) Z (A2 (B1 Z Z) Z (A2 (B1 Z Z) Z (A2 (A4 Z Z) Z (A2 (A4 Z Z) Z (A6 ?_)))))
   refine k1 (k2 (k2 ?_))
   refine A5 (A2 (A3 Z Z) Z (A2 (E5 Z) Z (A6 ?_)))
   refine k1 ?_
   refine B3 rfl (fun ht => ?_) (fun ht => ?_)
   ·cases ht
   refine k5 (k1 (k2 ?_))
   refine A5 (A2 (A3 Z Z) Z (C0 (hP) Z Z Z ?_)); rintro _ rfl; refine A2 (A3 Z Z) Z (A2 (B1 Z Z) Z (A2 (B1 Z Z) Z (C8 (H4 6 Z) Z (F4 (B9 TySz.out Z Z Z Z Z Z) (A2 (A4 Z Z) Z (A6 ?_))))))
   refine k1 (k2 (k2 ?_))
   refine A5 (A2 (A3 Z Z) Z (A2 (E5 Z) Z (A6 ?_)))
   refine k1 ?_
   refine B3 rfl (fun ht => ?_) (fun ht => ?_)
   ·cases ht
   refine k5 (k1 (k2 (k2 ?_)))
   refine A5 (A2 (D7 Z Z Z) Z (C0 (hF) Z Z Z ?_)); rintro _ rfl; refine A2 (A3 Z Z) Z (A2 (B1 Z Z) Z (A2 (B1 Z Z) Z (A2 (A4 Z Z) Z (A2 (A4 Z Z) Z (A6 ?_)))))
   refine k1 (k2 ?_)
   refine A5 (A2 (A3 Z Z) Z (A2 (J2 Z Z) Z (A2 (A3 Z Z) Z (A8 Z Z Z Z (fun hg => by rw [hg]; exact A3 Z Z) ?_)))); refine A8 Z Z Z Z (fun hg => by rw [hg]; exact A3 Z Z) ?_; refine A8 Z Z Z Z (fun hg => by rw [hg]; exact V2 Z Z) ?_; refine A2 (B2 Z (fun h => by first | rfl | (rw [h]; rfl)) (fun h => by first | rfl | (rw [h]; rfl))) Z ?_; refine A6 ?_
   simp only [or_pick]
   refine k1 ?_
   by_cases hb : G1 p ≠ 0 ∨ H0 p ≠ s
   ·rw [if_pos hb] at hS
    refine B3 rfl (fun ht => ?_) (fun ht => ?_)
    rotate_left
    ·exfalso
     have h1 := A1 ht
     by_cases hc : G1 p = 0
     ·rw [if_neg (by simp [hc])] at hw
      rcases hb with h | h
      ·exact h hc
      ·exact h1 (.inr (by rw [hw]; exact h))
     ·exact h1 (.inl hc)
    refine k2 ?_
    refine A5 (A2 (G4 Z) Z (F4 (B9 TySz.out Z Z Z Z Z Z) (A2 (A4 Z Z) Z (A6 ?_))))
    refine k1 ?_
    refine G7 (Sees.listB PatchHunk 3 phunkC 2 2 Z Z) ?_
    refine k10 (k11 ?_)
    exact B5 (rs := [pPatch patch0, D2 4]) (T5 rfl rfl rfl rfl rfl rfl rfl) (hfail hS rfl)
   ·rw [if_neg hb] at hS
    have hc : G1 p = 0 := Decidable.not_not.1 fun h => hb (.inl h)
    have hws : H0 p = s := Decidable.not_not.1 fun h => hb (.inr h)
    rw [if_neg (by simp [hc])] at hw
    refine B3 rfl (fun ht => ?_) (fun ht => ?_)
    ·exfalso
     rcases A0 ht with h | h
     ·exact h hc
     ·exact h (by rw [hw]; exact hws)
    refine k5 (k1 (k2 ?_))
    refine A5 (A2 (D7 Z Z Z) Z (F4 (B9 TySz.out Z Z Z Z Z Z) (A2 (A4 Z Z) Z (A6 ?_))))
    refine k1 (k10 ?_)
    exact B5 (rs := [pPatch p, D2 0]) (T5 rfl rfl rfl rfl rfl rfl rfl) (by unfold T8; rw [hS])
set_option maxHeartbeats 1000000
theorem made_rt (on nn a b : Str) (c : Int) (hon : I9 on = true) (hnn : I9 nn = true) (ha : a.length ≤ 200) (hb : b.length ≤ 200) (hc : 0 ≤ c ∧ c ≤ 1048576) : ∃ hs : List PatchHunk,
  made12 on nn a b c false = (⟨on, nn, hs⟩, 0) ∧ G1 ⟨on, nn, hs⟩ = 0 ∧ szP hs ≤ 65536 ∧ (H0 ⟨on, nn, hs⟩).length ≤ 131072 ∧ apply14 ⟨on, nn, hs⟩ a = (b, 0) := by
 obtain ⟨f1, h1⟩ := U1 a
 obtain ⟨f2, h2⟩ := U1 b
 obtain ⟨hf, _⟩ := scriptD_fit (D9 a) (D9 b) false (by omega) (by omega)
 have hm := made12_is on nn a b _ c hon hnn (by omega) (by omega) (by omega) hf
 have hz := hf.size hc.1 (Z2 a).1 (Z2 b).1
 have hch := hf.chain0 hc.1
 obtain ⟨hs, hhs⟩ : ∃ hs, hs = O3 (scriptD (D9 a) (D9 b) false) (D9 a) (D9 b) c := ⟨_, rfl⟩
 have hck := hm.chk
 rw [← hhs] at hz hch hck
 have o1 := A0 (show decide (1 ≤ on.length ∧ on.length ≤ 200) = true from hon)
 have o2 := A0 (show decide (1 ≤ nn.length ∧ nn.length ≤ 200) = true from hnn)
 have hw : (H0 ⟨on, nn, hs⟩).length ≤ (W5 ⟨on, nn, hs⟩).flatten.length + szP hs := by
  unfold H0 writePs
  rw [List.flatten_append, List.length_append]
  have := i7 hs
  show _ + ((hs).map Q2).flatten.flatten.length ≤ _
  omega
 have hw2 : (W5 ⟨on, nn, hs⟩).flatten.length ≤ 4 * on.length + 4 * nn.length + 14 := o9 ⟨on, nn, hs⟩
 refine ⟨hs, ?_, hck, by omega, by omega, apply14_chain hck (by omega) (by omega) hch⟩
 unfold made12
 rw [if_neg (by rw [hon, hnn]; decide), if_neg (by omega), hhs]
theorem parse_written {p : Patch} (hc : G1 p = 0) (hw : (H0 p).length ≤ 1048576) : FnOk Tryz.prog 30 [F6 (H0 p)] (fun rs => rs = [pPatch p, D2 0]) := by
 have h := stParse_ok (H0 p) hw
 unfold T8 at h
 rw [strictBy_of (fun p hg => parseP_back hg) hc] at h
 exact h
theorem awake13_ok : FnOk Tryz.prog 32 [] (fun rs => rs = [D5 true]) := by
 have e1 : H0 ⟨[97], [98], []⟩ = [45, 45, 45, 32, 97, 10, 43, 43, 43, 32, 98, 10] := by decide
 have hp1 := parse_written (p := ⟨[97], [98], []⟩) (by decide) (by rw [e1]; decide)
 rw [e1] at hp1
 have hp2 := stParse_ok [] (by simp)
 have e2 : H9 N4 [] = (patch0, 4) := rfl
 unfold T8 at hp2
 rw [e2] at hp2
 refine FnOk.intro Tryz.func32 (by decide) Z Z Z Z ?_
 refine k2 ?_
 refine A5 (A2 (A4 Z Z) Z (A6 ?_))
 refine k1 (k2 ?_)
 refine A5 (C0 (hp1) Z Z Z ?_); rintro _ rfl; refine A2 (A3 Z Z) Z (A2 (B1 Z Z) Z (A2 (B1 Z Z) Z (C8 (H4 1 Z) Z (F4 (B9 TySz.out Z Z Z Z Z Z) (A2 (A4 Z Z) Z (A6 ?_))))))
 refine k1 (k2 ?_)
 refine A5 (C0 (hp2) Z Z Z ?_); rintro _ rfl; refine A2 (A3 Z Z) Z (A2 (B1 Z Z) Z (A2 (B1 Z Z) Z (C8 (H4 3 Z) Z (F4 (B9 TySz.out Z Z Z Z Z Z) (A2 (A4 Z Z) Z (A6 ?_))))))
 refine k1 (k2 ?_)
 refine A5 (A2 (A3 Z Z) Z (A2 (G6 Z Z) Z (A2 (A3 Z Z) Z (A8 Z Z Z Z (fun hg => by rw [hg]; exact A7 Z) ?_)))); refine A8 Z Z Z Z (fun hg => by rw [hg]; exact B0 Z Z Z) ?_; refine A8 Z Z Z Z (fun hg => by rw [hg]; exact W8 Z Z) ?_; refine A2 (B2 Z (fun h => by first | rfl | (rw [h]; rfl)) (fun h => by first | rfl | (rw [h]; rfl))) Z ?_; refine A2 (A3 Z Z) Z (A8 Z Z Z Z (fun hg => by rw [hg]; exact A7 Z) ?_); refine A8 Z Z Z Z (fun hg => by rw [hg]; exact B0 Z Z Z) ?_; refine A8 Z Z Z Z (fun hg => by rw [hg]; exact W8 Z Z) ?_; refine A2 (B2 Z (fun h => by first | rfl | (rw [h]; rfl)) (fun h => by first | rfl | (rw [h]; rfl))) Z ?_; refine A2 (A3 Z Z) Z (A8 Z Z Z Z (fun hg => by rw [hg]; exact A7 Z) ?_); refine A8 Z Z Z Z (fun hg => by rw [hg]; exact B0 Z Z Z) ?_; refine A8 Z Z Z Z (fun hg => by rw [hg]; exact F8 Z (.pure _ _ _ _)) ?_; refine A8 Z Z Z Z (fun hg => by rw [hg]; exact G6 Z Z) ?_; refine A2 (B2 Z (fun h => by first | rfl | (rw [h]; rfl)) (fun h => by first | rfl | (rw [h]; rfl))) Z ?_; refine A2 (A3 Z Z) Z (A8 Z Z Z Z (fun hg => by rw [hg]; exact A3 Z Z) ?_); refine A8 Z Z Z Z (fun hg => by rw [hg]; exact G6 Z Z) ?_; refine A2 (B2 Z (fun h => by first | rfl | (rw [h]; rfl)) (fun h => by first | rfl | (rw [h]; rfl))) Z ?_; refine A2 (A4 Z Z) Z (A6 ?_)
 refine k1 (k10 ?_)
 exact B5 (G8 rfl rfl rfl) rfl
def s9 (raw : List Int) (ctx : Int) : Patch := (made12 [111, 32, 120] [110] (pickA raw) (pickB raw) (W0 ctx 3) false).1
theorem madeS_facts (raw : List Int) (ctx : Int) : made12 [111, 32, 120] [110] (pickA raw) (pickB raw) (W0 ctx 3) false = (s9 raw ctx, 0) ∧ G1 (s9 raw ctx) = 0 ∧ szP (s9 raw ctx).Hunks ≤ 65536 ∧ (H0 (s9 raw ctx)).length ≤ 131072 := by
 have h1 := pickA_len raw
 have h2 := pickB_len raw
 obtain ⟨h3, h4⟩ := w7 ctx (n := 3) (by omega)
 obtain ⟨hs, e, c, z, w, _⟩ := made_rt [111, 32, 120] [110] (pickA raw) (pickB raw) (W0 ctx 3) (by decide) (by decide) (by omega) (by omega) (by omega)
 unfold s9
 rw [e]
 exact ⟨rfl, c, z, w⟩
theorem write_good {p : Patch} (hc : G1 p = 0) (hz : szP p.Hunks ≤ 65536) (ho : p.OldName.length ≤ 200) (hn : p.NewName.length ≤ 200) : FnOk Tryz.prog 58 [pPatch p] (fun rs => rs = [F6 (H0 p)]) :=
 rwrite_ok p ⟨by omega, by omega, by omega⟩ (fun h hm => by have := i8 (Go.AL.check12_good hc) h hm; omega)
set_option maxHeartbeats 1000000
theorem made13_ok (raw : List Int) (ctx : Int) : FnOk Tryz.prog 28 [Y0 raw, D2 ctx] (fun rs => rs = [pPatch (s9 raw ctx), F6 (H0 (s9 raw ctx))]) := by
 have hal := pickA_len raw
 have hbl := pickB_len raw
 obtain ⟨m1, m2, m3, m4⟩ := madeS_facts raw ctx
 have hnames : (s9 raw ctx).OldName.length ≤ 200 ∧ (s9 raw ctx).NewName.length ≤ 200 := by
  unfold G1 at m2
  split at m2
  ·cases m2
  ·rename_i h
   have h1 : I9 (s9 raw ctx).OldName = true := by cases q : I9 (s9 raw ctx).OldName <;> simp [q] at h ⊢
   have h2 : I9 (s9 raw ctx).NewName = true := by cases q : I9 (s9 raw ctx).NewName <;> simp [q] at h ⊢
   exact ⟨(A0 h1).2, (A0 h2).2⟩
 have hM := rmakeD_ok [111, 32, 120] [110] (pickA raw) (pickB raw) (W0 ctx 3) false (by omega) (by omega)
 rw [m1] at hM
 have hW := write_good m2 m3 hnames.1 hnames.2
 obtain ⟨p, hp⟩ : ∃ p, p = s9 raw ctx := ⟨_, rfl⟩
 obtain ⟨w, hw⟩ : ∃ w, w = H0 (s9 raw ctx) := ⟨_, rfl⟩
 rw [← hw] at hW
 rw [← hp] at hM hW
 rw [← hw, ← hp]
 refine FnOk.intro Tryz.func28 (by decide) Z Z Z Z ?_
 refine k2 ?_
 refine A5 (C8 (H4 4 Z) Z (A2 (A4 Z Z) Z (A6 ?_)))
 refine k1 (k2 ?_)
 refine A5 (A2 (A3 Z Z) Z (C0 (blob_ok raw 0 9 5 (by omega) (by omega) (by omega)) Z Z Z ?_)); rintro _ rfl; refine A2 (A4 Z Z) Z (A6 ?_)
 rw [show blobOf raw 0 9 5 = pickA raw from rfl]
 refine k1 (k2 ?_)
 refine A5 (A2 (A3 Z Z) Z (A2 (A3 Z Z) Z (A2 (A3 Z Z) Z (C0 (near_ok (pickA raw) raw 100 (by omega) (by omega)) Z Z Z ?_)))); rintro _ rfl; refine A2 (A3 Z Z) Z (C0 (mod_ok ctx 3 (by omega) (by omega)) Z Z Z ?_); rintro _ rfl; refine C0 (hM) Z Z Z ?_; rintro _ rfl; refine A2 (A3 Z Z) Z (A2 (B1 Z Z) Z (A2 (B1 Z Z) Z (C8 (H4 7 Z) Z (F4 (B9 TySz.out Z Z Z Z Z Z) (A2 (A4 Z Z) Z (A6 ?_))))))
 refine k1 (k2 ?_)
 refine C2 (by kernel_rfl) (by kernel_rfl) (A9 (D7 Z Z Z) Z Z (A9 (D7 Z Z Z) Z Z (A9 (F9 (hW) Z Z) Z Z (d_eff (B9 TySz.out Z Z Z Z Z Z) Z (A9 (A4 Z Z) Z Z (H3 ?_))))))
 refine k1 (k10 ?_)
 exact B5 (rs := [pPatch p, F6 w]) (T5 rfl rfl rfl rfl rfl rfl rfl) rfl
theorem bodyR_end {l : List Str} {i : Nat} {m n : Int} {acc : List PatchLine} (h : ¬ (0 < m ∨ 0 < n)) : R0 l i m n acc = some (acc, i) := by rw [R0, if_neg h]
theorem bodyR_out {l : List Str} {i : Nat} {m n : Int} {acc : List PatchLine} (h : 0 < m ∨ 0 < n) (h2 : l.length ≤ i) : R0 l i m n acc = none := by rw [R0, if_pos h, dif_neg (by omega)]
theorem bodyR_nil {l : List Str} {i : Nat} {m n : Int} {acc : List PatchLine} (h : 0 < m ∨ 0 < n) (h2 : l[i]? = some []) : R0 l i m n acc = none := by
 obtain ⟨hi, he⟩ := List.getElem?_eq_some_iff.1 h2
 rw [R0, if_pos h, dif_pos hi, he]
theorem bodyR_mark {l : List Str} {i : Nat} {m n : Int} {acc : List PatchLine} {c : UInt8} {t : Str} (h : 0 < m ∨ 0 < n) (h2 : l[i]? = some (c :: t)) (h3 : l[i + 1]? = some p8) :
  R0 l i m n acc = R0 l (i + 2) (if c = 43 then m else m - 1) (if c = 45 then n else n - 1) (acc ++ [⟨c, t⟩]) := by
 obtain ⟨hi, he⟩ := List.getElem?_eq_some_iff.1 h2
 rw [R0, if_pos h, dif_pos hi, he]
 dsimp only
 rw [if_pos h3]
theorem bodyR_line {l : List Str} {i : Nat} {m n : Int} {acc : List PatchLine} {c : UInt8} {t : Str} (h : 0 < m ∨ 0 < n) (h2 : l[i]? = some (c :: t)) (h3 : l[i + 1]? ≠ some p8) :
  R0 l i m n acc = R0 l (i + 1) (if c = 43 then m else m - 1) (if c = 45 then n else n - 1) (acc ++ [⟨c, t ++ [10]⟩]) := by
 obtain ⟨hi, he⟩ := List.getElem?_eq_some_iff.1 h2
 rw [R0, if_pos h, dif_pos hi, he]
 dsimp only
 rw [if_neg h3]
theorem hunksR_end {l : List Str} {i : Nat} {hs : List PatchHunk} (h : l.length ≤ i) : T3 l i hs = some hs := by rw [T3, dif_neg (by omega)]
theorem hunksR_bad {l : List Str} {i : Nat} {hs : List PatchHunk} {x : Str} (h : l[i]? = some x) (h2 : L4 x = none) : T3 l i hs = none := by
 obtain ⟨hi, he⟩ := List.getElem?_eq_some_iff.1 h
 rw [T3, dif_pos hi, he, h2]
theorem hunksR_none {l : List Str} {i : Nat} {hs : List PatchHunk} {x : Str} {a m b n : Int} (h : l[i]? = some x) (h2 : L4 x = some (a, m, b, n)) (h3 : R0 l (i + 1) m n [] = none) : T3 l i hs = none := by
 obtain ⟨hi, he⟩ := List.getElem?_eq_some_iff.1 h
 rw [T3, dif_pos hi, he, h2]
 dsimp only
 rw [h3]
theorem hunksR_step {l : List Str} {i j : Nat} {hs : List PatchHunk} {ls : List PatchLine} {x : Str} {a m b n : Int} (h : l[i]? = some x) (h2 : L4 x = some (a, m, b, n)) (h3 : R0 l (i + 1) m n [] = some (ls, j)) (hj : i + 1 ≤ j) :
  T3 l i hs = T3 l j (hs ++ [⟨a, b, ls⟩]) := by
 obtain ⟨hi, he⟩ := List.getElem?_eq_some_iff.1 h
 rw [T3, dif_pos hi, he, h2]
 dsimp only
 rw [h3]
 dsimp only
 rw [show max j (i + 1) = j by omega]
theorem headAt_cnt {x : Str} {a m b n : Int} (h : L4 x = some (a, m, b, n)) : (0 ≤ m ∧ m ≤ 2147483647) ∧ (0 ≤ n ∧ n ≤ 2147483647) := by
 have hr : ∀ {s : Str} {a n : Int} {e : Nat}, Q3 s = some (a, n, e) → 0 ≤ n ∧ n ≤ 2147483647 := by
  intro s a n e h
  have hf : ∀ {s : Str} {a c e : Nat} {r : Int × Int × Nat}, s7 s a c e = some r → r.2.1 = c := by
   intro s a c e r h
   unfold s7 at h
   obtain ⟨st, hst⟩ : ∃ st : Int, st = if 0 < c then (a : Int) - 1 else a := ⟨_, rfl⟩
   rw [← hst] at h
   by_cases hc : G5 st c = s.take e
   ·rw [if_pos hc] at h; cases h; rfl
   ·rw [if_neg hc] at h; cases h
  unfold Q3 at h
  cases h1 : R7 s with
  | none => rw [h1] at h; cases h
  | some p =>
   obtain ⟨v, k⟩ := p
   rw [h1] at h
   dsimp only at h
   split at h
   ·cases h2 : R7 (s.drop (k + 1)) with
    | none => rw [h2] at h; cases h
    | some q =>
     obtain ⟨c, k'⟩ := q
     rw [h2] at h
     have := hf h
     have := (m6 h2).2.2.2.2
     dsimp only at *; omega
   ·have := hf h
    dsimp only at this; omega
 have hs : ∀ {l pre : Str} {i : Nat} {a n : Int} {e : Nat}, K5 l i pre = some (a, n, e) → 0 ≤ n ∧ n ≤ 2147483647 := by
  intro l pre i a n e h
  unfold K5 at h
  split at h
  ·cases h3 : Q3 (l.drop (i + pre.length)) with
   | none => rw [h3] at h; cases h
   | some q =>
    obtain ⟨x, y, z⟩ := q
    rw [h3] at h
    have := hr h3
    simp at h; omega
  ·cases h
 unfold L4 at h
 cases h1 : K5 x 0 [64, 64, 32, 45] with
 | none => rw [h1] at h; cases h
 | some q =>
  obtain ⟨a1, m1, i1⟩ := q
  rw [h1] at h
  dsimp only at h
  cases h2 : K5 x i1 [32, 43] with
  | none => rw [h2] at h; cases h
  | some q2 =>
   obtain ⟨b1, n1, j1⟩ := q2
   rw [h2] at h
   dsimp only at h
   have := hs h1
   have := hs h2
   split at h
   ·cases h; omega
   ·cases h
abbrev pBox (o n : Str) (hs : List PatchHunk) : Ob := .box [.p (.v (.string ⟨o.toArray⟩)), .p (.v (.string ⟨n.toArray⟩)), .buf 701 PatchHunk 3 phunkC hs]
abbrev hBox (a b : Int) (ls : List PatchLine) : Ob := .box [.p (.v (.int .i64 a)), .p (.v (.int .i64 b)), .buf 702 PatchLine 2 plineC ls]
set_option maxHeartbeats 2000000
theorem rread_ok (l : List Str) (hll : l.length ≤ 134217728) (hsz : ∀ s ∈ l, s.length ≤ 4194304) : FnOk Tryz.prog 60 [Z6 l]
  (fun rs => ∃ (p : Patch) (ok : Bool), rs = [pPatch p, D5 ok] ∧ match p9 l with
   | some p' => ok = true ∧ p = p'
   | none => ok = false) := by
 have hR : ∀ (x y : Option Str), (if 0 < l.length then J7 (l.getD 0 []) [45, 45, 45, 32] else none) = x → (if 1 < l.length then J7 (l.getD 1 []) [43, 43, 43, 32] else none) = y → p9 l = match x, y with
   | some o, some n => (match T3 l 2 [] with | some hs => some ⟨o, n, hs⟩ | none => none)
   | _, _ => none := by
  intro x y h1 h2
  have e1 : J7 (l.getD 0 []) [45, 45, 45, 32] = x := by
   rw [← h1]
   by_cases h : 0 < l.length
   ·rw [if_pos h]
   ·rw [if_neg h, List.getD_eq_getElem?_getD, List.getElem?_eq_none (by omega)]; rfl
  have e2 : J7 (l.getD 1 []) [43, 43, 43, 32] = y := by
   rw [← h2]
   by_cases h : 1 < l.length
   ·rw [if_pos h]
   ·rw [if_neg h, List.getD_eq_getElem?_getD, List.getElem?_eq_none (by omega)]; rfl
  unfold p9
  rw [e1, e2]
  rfl
 have hn0 := rnamed_ok l 0 [45, 45, 45, 32] hsz (by omega)
 have hn1 := rnamed_ok l 1 [43, 43, 43, 32] hsz (by omega)
 obtain ⟨x0, hx0⟩ : ∃ x, x = (if 0 < l.length then J7 (l.getD 0 []) [45, 45, 45, 32] else none) := ⟨_, rfl⟩
 obtain ⟨x1, hx1⟩ : ∃ x, x = (if 1 < l.length then J7 (l.getD 1 []) [43, 43, 43, 32] else none) := ⟨_, rfl⟩
 have hR := hR x0 x1 hx0.symm hx1.symm
 have hl2 : x1 ≠ none → 1 < l.length := by
  intro h
  rw [hx1] at h
  by_cases h2 : 1 < l.length
  ·exact h2
  ·rw [if_neg h2] at h; exact absurd rfl h
 rw [← hx0] at hn0
 rw [← hx1] at hn1
 refine FnOk.intro Tryz.func60 (by decide) Z Z Z Z ?_
 refine k2 ?_
 refine A5 (C8 (H4 2 Z) Z (A2 (A4 Z Z) Z (A6 ?_)))
 refine k1 (k2 ?_)
 refine A5 (A2 (A3 Z Z) Z (C0 (hn0) Z Z Z ?_)); rintro _ ⟨w0, b0, rfl, h0⟩; refine A2 (A3 Z Z) Z (A2 (B1 Z Z) Z (A2 (B1 Z Z) Z (A2 (A4 Z Z) Z (A2 (A4 Z Z) Z (A6 ?_)))))
 refine k1 (k2 ?_)
 refine A5 (A2 (A3 Z Z) Z (C0 (hn1) Z Z Z ?_)); rintro _ ⟨w1, b1, rfl, h1⟩; refine A2 (A3 Z Z) Z (A2 (B1 Z Z) Z (A2 (B1 Z Z) Z (A2 (A4 Z Z) Z (A2 (A4 Z Z) Z (A6 ?_)))))
 refine k1 (k2 ?_)
 refine A5 (A2 (A3 Z Z) Z (A2 (A3 Z Z) Z (A2 (G4 Z) Z (C8 (H4 8 Z) Z (F4 (B9 TySz.out Z Z Z Z Z Z) (A6 ?_))))))
 refine k1 (k2 (k2 ?_))
 refine A5 (A2 (A3 Z Z) Z (A2 (E5 Z) Z (A2 (A3 Z Z) Z (A8 Z Z Z Z (fun hg => by rw [hg]; exact A3 Z Z) ?_)))); refine A8 Z Z Z Z (fun hg => by rw [hg]; exact E5 Z) ?_; refine A2 (B2 Z (fun h => by first | rfl | (rw [h]; rfl)) (fun h => by first | rfl | (rw [h]; rfl))) Z ?_; refine A6 ?_
 refine k1 ?_
 by_cases hbad : x0 = none ∨ x1 = none
 ·have hRn : p9 l = none := by
   rw [hR]
   rcases hbad with h | h
   ·rw [h]
   ·rw [h]; cases x0 <;> rfl
  rw [hRn]
  refine B3 rfl (fun ht => ?_) (fun ht => ?_)
  ·refine k2 ?_
   refine A5 (A2 (D7 Z Z Z) Z (F4 (B9 TySz.out Z Z Z Z Z Z) (A2 (A4 Z Z) Z (A6 ?_))))
   refine k1 ?_
   refine G7 (Sees.listB PatchHunk 3 phunkC 2 2 Z Z) ?_
   refine k10 (k11 ?_)
   exact B5 (rs := [pPatch ⟨w0, w1, []⟩, D5 false]) (T5 rfl rfl rfl rfl rfl rfl rfl) ⟨_, false, rfl, rfl⟩
  ·exfalso
   rcases hbad with h | h
   ·rw [h] at h0; have h0 : b0 = false := h0; rw [h0] at ht; cases ht
   ·rw [h] at h1; have h1 : b1 = false := h1; rw [h1] at ht; cases b0 <;> cases ht
 obtain ⟨o, ho⟩ : ∃ o, x0 = some o := by
  cases h : x0 with
  | none => exact absurd (.inl h) hbad
  | some o => exact ⟨o, rfl⟩
 obtain ⟨n', hn'⟩ : ∃ n, x1 = some n := by
  cases h : x1 with
  | none => exact absurd (.inr h) hbad
  | some n => exact ⟨n, rfl⟩
 have hlen2 := hl2 (by rw [hn']; simp)
 rw [ho] at h0
 rw [hn'] at h1
 obtain ⟨rfl, rfl⟩ := h0
 obtain ⟨rfl, rfl⟩ := h1
 have hRn : T3 l 2 [] = none → p9 l = none := by intro h; rw [hR, ho, hn']; dsimp only; rw [h]
 have hRs : ∀ hs, T3 l 2 [] = some hs → p9 l = some ⟨w0, w1, hs⟩ := by intro hs h; rw [hR, ho, hn']; dsimp only; rw [h]
 clear hR hx0 hx1 hn0 hn1 hl2
 refine B3 rfl (fun ht => ?_) (fun ht => ?_)
 ·cases ht
 refine c_cut [(0, E8 Str 1 K8 l), (2, .s (.one (.ref 2 0))), (8, .s (.one (.ref 8 0)))] [(2, u3), (8, .box [.p (.v (.string ⟨w0.toArray⟩)), .p (.v (.string ⟨w1.toArray⟩)), .p (.v (.slice none 0 0))])] (Sees.of ⟨le1 rfl, le1 rfl, le1 rfl, trivial⟩ ⟨rfl, rfl, trivial⟩) ?_
 refine k5 (k1 (k2 ?_))
 refine G7 (Sees.adoptB 701 PatchHunk 3 phunkC 29 (kb := 8) (o := 2) Z Z Z) ?_
 refine A5 (A2 (A4 Z Z) Z (A6 ?_))
 refine k1 (k2 (k3 ?_))
 refine E9 (X := Nat × List PatchHunk) (fun x => ([(0, E8 Str 1 K8 l), (2, .s (.one (.ref 2 0))), (8, .s (.one (.ref 8 0))), (9, C6 x.1)], [(2, u3), (8, pBox w0 w1 x.2), (701, .spare x.2.length 3 29)])) (fun x => x.1 ≤ l.length ∧ x.2.length ≤ x.1 ∧ T3 l x.1 x.2 = T3 l 2 []) (fun x => l.length - x.1) (2, []) ⟨hlen2, Nat.zero_le _, rfl⟩ (Sees.of ⟨le1 rfl, le1 rfl, le1 rfl, le1 rfl, trivial⟩ ⟨rfl, rfl, rfl, trivial⟩) ?_
 rintro ⟨i, hs⟩ ⟨hi, hhl, hf⟩
 dsimp only at hi hhl hf ⊢
 refine k2 (k2 ?_)
 refine A5 (A2 (A3 Z Z) Z (A2 (A3 Z Z) Z (A2 (F8 Z (.pure _ _ _ _)) Z (A2 (F0 Z Z) Z (A6 ?_)))))
 refine k1 ?_
 refine B3 rfl (fun ht => ?_) (fun ht => ?_)
 rotate_left
 ·have he : l.length ≤ i := by have := A1 ht; omega
  rw [hunksR_end he] at hf
  refine k6 (k2 ?_)
  refine A5 (A2 (D7 Z Z Z) Z (F4 (B9 TySz.out Z Z Z Z Z Z) (A2 (A4 Z Z) Z (A6 ?_))))
  refine k1 (k10 ?_)
  exact B5 (rs := [pPatch ⟨w0, w1, hs⟩, D5 true]) (T5 rfl rfl rfl rfl rfl rfl rfl) ⟨_, true, rfl, by rw [hRs hs hf.symm]; exact ⟨rfl, rfl⟩⟩
 have hlt : i < l.length := by have := A0 ht; omega
 obtain ⟨x, hx⟩ : ∃ x, x = l[i] := ⟨_, rfl⟩
 have hv : l[i]? = some x := by rw [hx]; simp [hlt]
 have hxz := hsz x (List.mem_of_getElem? hv)
 refine k5 (k1 (k3 (k2 ?_)))
 refine A5 (A2 (A3 Z Z) Z (A2 (A3 Z Z) Z (A2 (B4 Z (.pure _ _ _ _) Z (by omega) hv) Z (A2 (B8 Z Z) Z (C0 (rheader_ok x (by omega)) Z Z Z ?_))))); rintro _ ⟨a, m0, b, n0, ok, rfl, hh⟩; refine A2 (A3 Z Z) Z (A2 (B1 Z Z) Z (A2 (B1 Z Z) Z (A2 (B1 Z Z) Z (A2 (B1 Z Z) Z (A2 (B1 Z Z) Z (A2 (A4 Z Z) Z (A2 (A4 Z Z) Z (A2 (A4 Z Z) Z (A2 (A4 Z Z) Z (A2 (A4 Z Z) Z (A6 ?_)))))))))))
 refine k1 (k2 (k2 ?_))
 refine A5 (A2 (A3 Z Z) Z (A2 (E5 Z) Z (A6 ?_)))
 refine k1 ?_
 cases hH : L4 x with
 | none =>
  rw [hH] at hh
  have hh : ok = false := hh
  subst hh
  rw [hunksR_bad hv hH] at hf
  refine B3 rfl (fun ht => ?_) (fun ht => ?_)
  ·refine k2 ?_
   refine A5 (A2 (D7 Z Z Z) Z (F4 (B9 TySz.out Z Z Z Z Z Z) (A2 (A4 Z Z) Z (A6 ?_))))
   refine k1 (k10 (k11 (k12 (k11 (k12 (k11 ?_))))))
   exact B5 (rs := [pPatch ⟨w0, w1, hs⟩, D5 false]) (T5 rfl rfl rfl rfl rfl rfl rfl) ⟨_, false, rfl, by rw [hRn hf.symm]⟩
  ·cases ht
 | some q =>
  obtain ⟨a', m', b', n''⟩ := q
  rw [hH] at hh
  obtain ⟨rfl, rfl, rfl, rfl, rfl⟩ := hh
  have hcnt := headAt_cnt hH
  refine B3 rfl (fun ht => ?_) (fun ht => ?_)
  ·cases ht
  refine k5 (k1 (k2 ?_))
  refine A5 (A2 (A3 Z Z) Z (A2 (C3 Z Z (by omega)) Z (A2 (A4 Z Z) Z (A6 ?_))))
  refine k1 (k2 ?_)
  refine A5 (A2 (A3 Z Z) Z (A2 (A3 Z Z) Z (A2 (G4 Z) Z (C8 (H4 15 Z) Z (F4 (B9 TySz.out Z Z Z Z Z Z) (A6 ?_))))))
  refine J6 ?_
  refine c_cut [(0, E8 Str 1 K8 l), (2, .s (.one (.ref 2 0))), (8, .s (.one (.ref 8 0))), (9, C6 ((i : Int) + 1)), (11, C6 m0), (13, C6 n0), (15, .s (.one (.ref 15 0)))] [(2, u3), (8, pBox w0 w1 hs), (701, .spare hs.length 3 29), (15, .box [.p (.v (.int .i64 a)), .p (.v (.int .i64 b)), .p (.v (.slice none 0 0))])] (Sees.of ⟨le1 rfl, le1 rfl, le1 rfl, le1 rfl, le1 rfl, le1 rfl, le1 rfl, trivial⟩ ⟨rfl, rfl, rfl, rfl, trivial⟩) ?_
  refine G7 (Sees.adoptB 702 PatchLine 2 plineC 36 (kb := 15) (o := 2) Z Z Z) ?_
  refine k2 (k3 ?_)
  refine E9 (X := Nat × Int × Int × List PatchLine) (fun z => ([(0, E8 Str 1 K8 l), (2, .s (.one (.ref 2 0))), (8, .s (.one (.ref 8 0))), (9, C6 z.1), (11, C6 z.2.1), (13, C6 z.2.2.1), (15, .s (.one (.ref 15 0)))], [(2, u3), (8, pBox w0 w1 hs), (701, .spare hs.length 3 29), (15, hBox a b z.2.2.2), (702, .spare z.2.2.2.length 2 36)])) (fun z => i + 1 ≤ z.1 ∧ z.1 ≤ l.length ∧ (-(z.1 : Int) ≤ z.2.1 ∧ z.2.1 ≤ 2147483647) ∧ (-(z.1 : Int) ≤ z.2.2.1 ∧ z.2.2.1 ≤ 2147483647) ∧ z.2.2.2.length ≤ z.1 ∧ R0 l z.1 z.2.1 z.2.2.1 z.2.2.2 = R0 l (i + 1) m0 n0 []) (fun z => l.length - z.1) (i + 1, m0, n0, []) ⟨Nat.le_refl _, hlt, by dsimp only; omega, by dsimp only; omega, Nat.zero_le _, rfl⟩ (Sees.of ⟨le1 rfl, le1 rfl, le1 rfl, le1 rfl, le1 rfl, le1 rfl, le1 rfl, trivial⟩ ⟨rfl, rfl, rfl, rfl, rfl, trivial⟩) ?_
  rintro ⟨j, m, n, ls⟩ ⟨hj1, hj2, hm, hn, hls, hb⟩
  dsimp only at hj1 hj2 hm hn hls hb ⊢
  refine k2 (k2 ?_)
  refine A5 (A2 (A3 Z Z) Z (A2 (L9 Z Z) Z (A2 (A3 Z Z) Z (A8 Z Z Z Z (fun hg => by rw [hg]; exact A3 Z Z) ?_)))); refine A8 Z Z Z Z (fun hg => by rw [hg]; exact L9 Z Z) ?_; refine A2 (B2 Z (fun h => by first | rfl | (rw [h]; rfl)) (fun h => by first | rfl | (rw [h]; rfl))) Z ?_; refine A6 ?_
  simp only [or_pick]
  refine k1 ?_
  refine B3 rfl (fun ht => ?_) (fun ht => ?_)
  rotate_left
  ·have hend : ¬ (0 < m ∨ 0 < n) := A1 ht
   rw [bodyR_end hend] at hb
   rw [hunksR_step hv hH hb.symm hj1] at hf
   refine k6 (k7 (k7 (k8 Z (k1 ?_))))
   refine A5 (A2 (A7 Z) Z (A2 (B0 Z Z Z) Z (A2 (D7 Z Z Z) Z (A2 (D6 (c := phunkC) (ys := [⟨a, b, ls⟩]) (E3 Z Z Z Z H1) Z Z Z) Z (C8 (J3 Z Z Z (.pure _ _ _ _) (by (simp; omega)) Z) Z (A2 (A7 Z) Z (F4 (B9 TySz.out Z Z Z Z Z Z) (A6 ?_))))))))
   refine k4 (k1 ?_)
   exact ⟨(j, hs ++ [⟨a, b, ls⟩]), ⟨hj2, by simp; omega, hf⟩, by dsimp only; omega, Sees.of ⟨le1 rfl, le1 rfl, le1 rfl, le1 rfl, trivial⟩ ⟨rfl, rfl, rfl, trivial⟩⟩
  have hpos : 0 < m ∨ 0 < n := A0 ht
  obtain ⟨y, hy⟩ : ∃ y, y = l.getD j [] := ⟨_, rfl⟩
  have hvy : j < l.length → l[j]? = some y := fun h => by rw [hy]; simp [h]
  refine k5 (k1 (k3 (k2 (k2 ?_))))
  refine A5 (A2 (A3 Z Z) Z (A2 (A3 Z Z) Z (A2 (F8 Z (.pure _ _ _ _)) Z (A2 (V1 Z Z) Z (A2 (A3 Z Z) Z (A8 Z Z Z Z (fun hg => by rw [hg]; exact A3 Z Z) ?_)))))); refine A8 Z Z Z Z (fun hg => by rw [hg]; exact A3 Z Z) ?_; refine A8 Z Z Z Z (fun hg => by have hq := hg; (try simp at hq); rw [hg]; exact B4 Z (.pure _ _ _ _) Z (by omega) (hvy (by omega))) ?_; refine A8 Z Z Z Z (fun hg => by rw [hg]; exact B8 Z Z) ?_; refine A8 Z Z Z Z (fun hg => by rw [hg]; exact W8 Z Z) ?_; refine A2 (B2 Z (fun h => by first | rfl | (rw [h]; rfl)) (fun h => by first | rfl | (rw [h]; rfl))) Z ?_; refine A6 ?_
  simp only [or_pick]
  refine k1 ?_
  refine B3 rfl (fun ht => ?_) (fun ht => ?_)
  ·have hbad2 := A0 ht
   have hbn : R0 l (i + 1) m0 n0 [] = none := by
    rw [← hb]
    by_cases h : l.length ≤ j
    ·exact bodyR_out hpos h
    ·rcases hbad2 with h2 | h2
     ·omega
     ·exact bodyR_nil hpos (by rw [hvy (by omega), h2])
   rw [hunksR_none hv hH hbn] at hf
   refine k2 ?_
   refine A5 (A2 (D7 Z Z Z) Z (F4 (B9 TySz.out Z Z Z Z Z Z) (A2 (A4 Z Z) Z (A6 ?_))))
   refine k1 (k10 (k11 (k12 (k11 (k12 (k11 (k12 (k11 (k12 (k11 ?_))))))))))
   exact B5 (rs := [pPatch ⟨w0, w1, hs⟩, D5 false]) (T5 rfl rfl rfl rfl rfl rfl rfl) ⟨_, false, rfl, by rw [hRn hf.symm]⟩
  have hgood := A1 ht
  have hjl : j < l.length := by
   by_cases h : j < l.length
   ·exact h
   ·exact absurd (.inl (by omega)) hgood
  have hne : y ≠ [] := fun h => hgood (.inr h)
  have hvy := hvy hjl
  have hyz := hsz y (List.mem_of_getElem? hvy)
  clear hy
  obtain ⟨c, t, rfl⟩ : ∃ c t, y = c :: t := by
   cases y with
   | nil => exact absurd rfl hne
   | cons c t => exact ⟨c, t, rfl⟩
  simp only [List.length_cons] at hyz
  refine k5 (k1 (k2 ?_))
  refine c_cut [(0, E8 Str 1 K8 l), (2, .s (.one (.ref 2 0))), (8, .s (.one (.ref 8 0))), (9, C6 j), (11, C6 m), (13, C6 n), (15, .s (.one (.ref 15 0)))] [(2, u3), (8, pBox w0 w1 hs), (701, .spare hs.length 3 29), (15, hBox a b ls), (702, .spare ls.length 2 36)] (Sees.of ⟨le1 rfl, le1 rfl, le1 rfl, le1 rfl, le1 rfl, le1 rfl, le1 rfl, trivial⟩ ⟨rfl, rfl, rfl, rfl, rfl, trivial⟩) ?_
  skip
  refine c_region_alloc 12 16 (by kernel_rfl) (by kernel_rfl) Z Z Z (U2 (A3 Z Z) Z (A3 Z Z) (U2 (A3 Z Z) Z (A3 Z Z) (U2 (B4 Z (.pure _ _ _ _) Z (by omega) hvy) Z (B4 Z (.pure _ _ _ _) Z (by omega) hvy) (U2 (B8 Z Z) Z (B8 Z Z) (U2 (E7 Z Z (by omega) (show (c :: t)[(0 : Int).toNat]? = some c from Z)) Z (E7 Z Z (by omega) (show (c :: t)[(0 : Int).toNat]? = some c from Z)) (U2 (A3 Z Z) Z (A3 Z Z) (U2 (A3 Z Z) Z (A3 Z Z) (U2 (B4 Z (.pure _ _ _ _) Z (by omega) hvy) Z (B4 Z (.pure _ _ _ _) Z (by omega) hvy) (U2 (B8 Z Z) Z (B8 Z Z) (U2 (Q8 Z Z (by (first | omega | (simp only [List.length_cons]; omega))) (by (first | omega | (simp only [List.length_cons]; omega)))) Z (Q8 Z Z (by (first | omega | (simp only [List.length_cons]; omega))) (by (first | omega | (simp only [List.length_cons]; omega)))) (U2 (F5 Z Z (by (simp; omega))) Z (F5 Z Z (by (simp; omega))) (U2 (G4 Z) Z (G4 Z) (b_nil Z (d_eff (B9 TySz.out Z Z Z Z Z Z) Z (H3 ?_)))))))))))))))
  obtain ⟨m2, hm2⟩ : ∃ m2 : Int, m2 = if c = 43 then m else m - 1 := ⟨_, rfl⟩
  obtain ⟨n2, hn2⟩ : ∃ n2 : Int, n2 = if c = 45 then n else n - 1 := ⟨_, rfl⟩
  have hm2b : m - 1 ≤ m2 ∧ m2 ≤ m := by rw [hm2]; split <;> omega
  have hn2b : n - 1 ≤ n2 ∧ n2 ≤ n := by rw [hn2]; split <;> omega
  refine J6 ?_
  refine V9 [(0, E8 Str 1 K8 l), (2, .s (.one (.ref 2 0))), (8, .s (.one (.ref 8 0))), (9, C6 j), (11, C6 m2), (13, C6 n), (15, .s (.one (.ref 15 0))), (16, .s (.one (.ref 16 0)))] [(2, u3), (8, pBox w0 w1 hs), (701, .spare hs.length 3 29), (15, hBox a b ls), (702, .spare ls.length 2 36), (16, .box [.p (.v (.int .u8 c.toNat)), .p (.v (.string ⟨(t ++ [10]).toArray⟩))])] ?_ ?_
  ·refine k2 ?_
   refine A5 (A2 (A7 Z) Z (A2 (B0 Z Z Z) Z (A2 (J2 Z Z) Z (A6 ?_))))
   simp only [kn43]
   refine k1 ?_
   refine B3 rfl (fun ht => ?_) (fun ht => ?_)
   ·have h := A0 ht
    rw [if_neg h] at hm2
    skip
    refine A5 (A2 (A3 Z Z) Z (A2 (L8 Z Z (by omega)) Z (A2 (A4 Z Z) Z (A6 ?_))))
    rw [← hm2]
    refine k1 ?_
    exact Sees.of ⟨le1 rfl, le1 rfl, le1 rfl, le1 rfl, le1 rfl, le1 rfl, le1 rfl, le1 rfl, trivial⟩ ⟨rfl, rfl, rfl, rfl, rfl, rfl, trivial⟩
   ·have h := A1 ht
    rw [if_pos (Decidable.not_not.1 h)] at hm2
    rw [hm2]
    refine k5 (k1 ?_)
    exact Sees.of ⟨le1 rfl, le1 rfl, le1 rfl, le1 rfl, le1 rfl, le1 rfl, le1 rfl, le1 rfl, trivial⟩ ⟨rfl, rfl, rfl, rfl, rfl, rfl, trivial⟩
  refine V9 [(0, E8 Str 1 K8 l), (2, .s (.one (.ref 2 0))), (8, .s (.one (.ref 8 0))), (9, C6 j), (11, C6 m2), (13, C6 n2), (15, .s (.one (.ref 15 0))), (16, .s (.one (.ref 16 0)))] [(2, u3), (8, pBox w0 w1 hs), (701, .spare hs.length 3 29), (15, hBox a b ls), (702, .spare ls.length 2 36), (16, .box [.p (.v (.int .u8 c.toNat)), .p (.v (.string ⟨(t ++ [10]).toArray⟩))])] ?_ ?_
  ·refine k2 ?_
   refine A5 (A2 (A7 Z) Z (A2 (B0 Z Z Z) Z (A2 (J2 Z Z) Z (A6 ?_))))
   simp only [kn45]
   refine k1 ?_
   refine B3 rfl (fun ht => ?_) (fun ht => ?_)
   ·have h := A0 ht
    rw [if_neg h] at hn2
    skip
    refine A5 (A2 (A3 Z Z) Z (A2 (L8 Z Z (by omega)) Z (A2 (A4 Z Z) Z (A6 ?_))))
    rw [← hn2]
    refine k1 ?_
    exact Sees.of ⟨le1 rfl, le1 rfl, le1 rfl, le1 rfl, le1 rfl, le1 rfl, le1 rfl, le1 rfl, trivial⟩ ⟨rfl, rfl, rfl, rfl, rfl, rfl, trivial⟩
   ·have h := A1 ht
    rw [if_pos (Decidable.not_not.1 h)] at hn2
    rw [hn2]
    refine k5 (k1 ?_)
    exact Sees.of ⟨le1 rfl, le1 rfl, le1 rfl, le1 rfl, le1 rfl, le1 rfl, le1 rfl, le1 rfl, trivial⟩ ⟨rfl, rfl, rfl, rfl, rfl, rfl, trivial⟩
  refine k2 ?_
  refine A5 (A2 (A3 Z Z) Z (A2 (C3 Z Z (by omega)) Z (A2 (A4 Z Z) Z (A6 ?_))))
  obtain ⟨u, hu⟩ : ∃ u, u = l.getD (j + 1) [] := ⟨_, rfl⟩
  have hvu : j + 1 < l.length → l[j + 1]? = some u := fun h => by rw [hu]; simp [h]
  obtain ⟨j2, tx, hj2x⟩ : ∃ (j2 : Nat) (tx : Str), (l[j + 1]? = some p8 ∧ j2 = j + 2 ∧ tx = t) ∨ (l[j + 1]? ≠ some p8 ∧ j2 = j + 1 ∧ tx = t ++ [10]) := by
   by_cases h : l[j + 1]? = some p8
   ·exact ⟨_, _, .inl ⟨h, rfl, rfl⟩⟩
   ·exact ⟨_, _, .inr ⟨h, rfl, rfl⟩⟩
  have hmark : decide ((((j : Int) + 1) < (l.length : Int)) ∧ u = p8) = decide (l[j + 1]? = some p8) := by
   congr 1
   apply propext; constructor
   ·intro h; rw [hvu (by omega), h.2]
   ·intro h
    have h2 := (List.getElem?_eq_some_iff.1 h).1
    rw [hvu h2] at h
    exact ⟨by omega, Option.some.inj h⟩
  refine J6 ?_
  refine V9 [(0, E8 Str 1 K8 l), (2, .s (.one (.ref 2 0))), (8, .s (.one (.ref 8 0))), (9, C6 j2), (11, C6 m2), (13, C6 n2), (15, .s (.one (.ref 15 0))), (16, .s (.one (.ref 16 0)))] [(2, u3), (8, pBox w0 w1 hs), (701, .spare hs.length 3 29), (15, hBox a b ls), (702, .spare ls.length 2 36), (16, .box [.p (.v (.int .u8 c.toNat)), .p (.v (.string ⟨(tx).toArray⟩))])] ?_ ?_
  ·refine k2 ?_
   refine A5 (A2 (A3 Z Z) Z (A2 (A3 Z Z) Z (A2 (F8 Z (.pure _ _ _ _)) Z (A2 (F0 Z Z) Z (A2 (A3 Z Z) Z (A8 Z Z Z Z (fun hg => by rw [hg]; exact A3 Z Z) ?_)))))); refine A8 Z Z Z Z (fun hg => by rw [hg]; exact A3 Z Z) ?_; refine A8 Z Z Z Z (fun hg => by have hq := hg; (try simp at hq); rw [hg]; exact B4 Z (.pure _ _ _ _) Z (by omega) (hvu (by omega))) ?_; refine A8 Z Z Z Z (fun hg => by rw [hg]; exact B8 Z Z) ?_; refine A8 Z Z Z Z (fun hg => by rw [hg]; exact W8 Z Z) ?_; refine A2 (B2 Z (fun h => by first | rfl | (rw [h]; rfl)) (fun h => by first | rfl | (rw [h]; rfl))) Z ?_; refine A6 ?_
   simp only [H2]
   rw [show ([92, 32, 78, 111, 32, 110, 101, 119, 108, 105, 110, 101, 32, 97, 116, 32, 101, 110, 100, 32, 111, 102, 32, 102, 105, 108, 101] : Str) = p8 from rfl, hmark]
   refine k1 ?_
   refine B3 rfl (fun ht => ?_) (fun ht => ?_)
   ·have h := A0 ht
    rcases hj2x with ⟨_, e1, e2⟩ | ⟨h2, _⟩
    ·have htk : (t ++ [10]).take ((((t ++ [10]).length : Int) - 1).toNat) = t := by
      have hz : (((t ++ [10] : Str).length : Int) - 1).toNat = t.length := by simp
      rw [hz]; simp
     refine k2 ?_
     refine A5 (A2 (A7 Z) Z (A2 (B0 Z Z Z) Z (A2 (A7 Z) Z (A2 (B0 Z Z Z) Z (A2 (D8 Z) Z (A2 (L8 Z Z (by (simp; omega))) Z (A2 (m9 Z Z (by (first | omega | (simp; done) | (simp; omega))) (by (first | omega | (simp; done) | (simp; omega)))) Z (A2 (A7 Z) Z (F4 (B9 TySz.out Z Z Z Z Z Z) (A6 ?_))))))))))
     rw [htk]
     refine k1 ?_
     refine A5 (A2 (A3 Z Z) Z (A2 (C3 Z Z (by omega)) Z (A2 (A4 Z Z) Z (A6 ?_))))
     refine k1 ?_
     rw [e1, e2, show ((j + 2 : Nat) : Int) = (j : Int) + 1 + 1 by omega]
     exact Sees.of ⟨le1 rfl, le1 rfl, le1 rfl, le1 rfl, le1 rfl, le1 rfl, le1 rfl, le1 rfl, trivial⟩ ⟨rfl, rfl, rfl, rfl, rfl, rfl, trivial⟩
    ·exact absurd h h2
   ·have h := A1 ht
    rcases hj2x with ⟨h2, _⟩ | ⟨_, e1, e2⟩
    ·exact absurd h2 h
    ·refine k5 (k1 ?_)
     rw [e1, e2]
     exact Sees.of ⟨le1 rfl, le1 rfl, le1 rfl, le1 rfl, le1 rfl, le1 rfl, le1 rfl, le1 rfl, trivial⟩ ⟨rfl, rfl, rfl, rfl, rfl, rfl, trivial⟩
  have hb2 : R0 l j2 m2 n2 (ls ++ [⟨c, tx⟩]) = R0 l (i + 1) m0 n0 [] ∧ j + 1 ≤ j2 ∧ j2 ≤ l.length := by
   rcases hj2x with ⟨h, e1, e2⟩ | ⟨h, e1, e2⟩
   ·have h2 := (List.getElem?_eq_some_iff.1 h).1
    rw [e1, e2, hm2, hn2, ← bodyR_mark hpos hvy h]
    exact ⟨hb, by omega, by omega⟩
   ·rw [e1, e2, hm2, hn2, ← bodyR_line hpos hvy h]
    exact ⟨hb, by omega, by omega⟩
  obtain ⟨hb2, hj3, hj4⟩ := hb2
  skip
  refine A5 (A2 (A7 Z) Z (A2 (B0 Z Z Z) Z (A2 (D7 Z Z Z) Z (A2 (D6 (c := plineC) (ys := [⟨c, tx⟩]) (E3 Z Z Z Z H1) Z Z Z) Z (C8 (J3 Z Z Z (.pure _ _ _ _) (by (simp; omega)) Z) Z (A2 (A7 Z) Z (F4 (B9 TySz.out Z Z Z Z Z Z) (A6 ?_))))))))
  refine k4 (k1 ?_)
  exact ⟨(j2, m2, n2, ls ++ [⟨c, tx⟩]), ⟨by dsimp only; omega, hj4, by dsimp only; omega, by dsimp only; omega, by simp; omega, hb2⟩, by dsimp only; omega, Sees.of ⟨le1 rfl, le1 rfl, le1 rfl, le1 rfl, le1 rfl, le1 rfl, le1 rfl, trivial⟩ ⟨rfl, rfl, rfl, rfl, rfl, trivial⟩⟩
end Go.Proofs.YtjjidificdmnmaaGreatDoor
