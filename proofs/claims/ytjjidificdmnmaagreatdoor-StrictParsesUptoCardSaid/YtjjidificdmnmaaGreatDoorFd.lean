/- Walks of the program's functions. -/
import Derived.Test.YtjjidificdmnmaaGreatDoorFc
import Derived.Test.YtjjidificdmnmaaGreatDoorFs
import Derived.Test.YtjjidificdmnmaaGreatDoorAn
namespace Go.Proofs.YtjjidificdmnmaaGreatDoor
open Go Go.AL
set_option maxRecDepth 100000
end Go.Proofs.YtjjidificdmnmaaGreatDoor
namespace Go.Proofs.YtjjidificdmnmaaGreatDoor
open Go Go.AL
set_option maxRecDepth 100000
def pickA (raw : List Int) : Str := blobOf raw 0 9 5
def pickB (raw : List Int) : Str := nearOf (pickA raw) raw 100
theorem pickA_len (raw : List Int) : (pickA raw).length ≤ 36 := by
 have := blobOf_len raw 0 9 5 (by omega)
 unfold pickA; omega
theorem near_len (b : Str) (raw : List Int) (f : Int) : (nearOf b raw f).length ≤ 5 * b.length := by
 unfold nearOf
 have h1 := nearGo_len raw f (D9 b) 0 []
 have h2 := W4 b
 rw [linesOf_flatten] at h1
 simp at h1; omega
theorem pickB_len (raw : List Int) : (pickB raw).length ≤ 180 := by
 have := near_len (pickA raw) raw 100
 have := pickA_len raw
 unfold pickB; omega
end Go.Proofs.YtjjidificdmnmaaGreatDoor
namespace Go.Proofs.YtjjidificdmnmaaGreatDoor
open Go Go.AL
set_option maxRecDepth 100000
abbrev plineV (q : PatchLine) : List Value := [.int .u8 q.Kind.toNat, .string ⟨q.Text.toArray⟩]
theorem pline_eq (q q' : PatchLine) : eqVs (plineV q) (plineV q') = decide (q = q') := by
 rw [Bool.eq_iff_iff]
 simp only [eqVs, eqV, ByteArray.toList_mk, Bool.and_eq_true, beq_iff_eq, decide_eq_true_eq, Bool.and_true]
 constructor
 ·rintro ⟨h1, h2⟩
  obtain ⟨k, t⟩ := q
  obtain ⟨k', t'⟩ := q'
  obtain rfl : k = k' := UInt8.toNat_inj.1 (by have h1 : (k.toNat : Int) = k'.toNat := h1; omega)
  obtain rfl : t = t' := h2
  rfl
 ·rintro rfl; exact ⟨rfl, rfl⟩
theorem take_all_eq {α : Type} {a b : List α} {k : Nat} (hl : a.length = b.length) (hk : k = a.length) (h : a.take k = b.take k) : a = b := by
 subst hk; rw [List.take_length, hl, List.take_length] at h; exact h
theorem take_step_eq {α : Type} {a b : List α} {k : Nat} (h1 : k < a.length) (h2 : k < b.length) (h : a.take k = b.take k) (he : a[k] = b[k]) : a.take (k + 1) = b.take (k + 1) := by
 rw [List.take_succ_eq_append_getElem h1, List.take_succ_eq_append_getElem h2, h, he]
theorem gpatch_ok (a b : Patch) (ha : szP a.Hunks ≤ 1099511627776) : FnOk Tryz.prog 23 [pPatch a, pPatch b] (fun rs => rs = [D5 (decide (a = b))]) := by
 have hsl := z7 a.Hunks
 refine FnOk.intro Tryz.func23 (by decide) Z Z Z Z ?_
 refine k2 ?_
 refine A5 (C8 (l4 2 Z Z Z) Z (C8 (l4 3 Z Z Z) Z (A2 (A4 Z Z) Z (A6 ?_))))
 refine k1 (k2 (k2 ?_))
 refine A5 (A2 (A7 Z) Z (A2 (B0 Z Z Z) Z (A2 (A7 Z) Z (A2 (B0 Z Z Z) Z (A2 (V2 Z Z) Z (A2 (A3 Z Z) Z (A8 Z Z Z Z (fun hg => by rw [hg]; exact A7 Z) ?_))))))); refine A8 Z Z Z Z (fun hg => by rw [hg]; exact B0 Z Z Z) ?_; refine A8 Z Z Z Z (fun hg => by rw [hg]; exact A7 Z) ?_; refine A8 Z Z Z Z (fun hg => by rw [hg]; exact B0 Z Z Z) ?_; refine A8 Z Z Z Z (fun hg => by rw [hg]; exact V2 Z Z) ?_; refine A2 (B2 Z (fun h => by first | rfl | (rw [h]; rfl)) (fun h => by first | rfl | (rw [h]; rfl))) Z ?_; refine A2 (A3 Z Z) Z (A8 Z Z Z Z (fun hg => by rw [hg]; exact A7 Z) ?_); refine A8 Z Z Z Z (fun hg => by rw [hg]; exact B0 Z Z Z) ?_; refine A8 Z Z Z Z (fun hg => by rw [hg]; exact F8 Z (.pure _ _ _ _)) ?_; refine A8 Z Z Z Z (fun hg => by rw [hg]; exact A7 Z) ?_; refine A8 Z Z Z Z (fun hg => by rw [hg]; exact B0 Z Z Z) ?_; refine A8 Z Z Z Z (fun hg => by rw [hg]; exact F8 Z (.pure _ _ _ _)) ?_; refine A8 Z Z Z Z (fun hg => by rw [hg]; exact J2 Z Z) ?_; refine A2 (B2 Z (fun h => by first | rfl | (rw [h]; rfl)) (fun h => by first | rfl | (rw [h]; rfl))) Z ?_; refine A6 ?_
 refine k1 ?_
 refine B3 rfl (fun ht => ?_) (fun ht => ?_)
 ·simp only [or_pick] at ht
  have h := A0 ht
  refine k2 ?_
  refine A5 (A2 (A4 Z Z) Z (A6 ?_))
  refine k1 (k10 (k11 ?_))
  refine B5 (rs := [D5 false]) (G8 Z Z Z) ?_
  rw [decide_eq_false]
  rintro rfl
  simp at h
 simp only [or_pick] at ht
 have h := A1 ht
 have h1 : a.OldName = b.OldName := Decidable.not_not.1 fun q => h (.inl (.inl q))
 have h2 : a.NewName = b.NewName := Decidable.not_not.1 fun q => h (.inl (.inr q))
 have h3 : a.Hunks.length = b.Hunks.length := by
  have : (a.Hunks.length : Int) = b.Hunks.length := Decidable.not_not.1 fun q => h (.inr q)
  omega
 refine k5 (k1 (k2 (k2 ?_)))
 refine A5 (A2 (A4 Z Z) Z (A6 ?_))
 refine k1 (k3 ?_)
 refine E9 (X := Nat) (fun k => ([(2, .s (.one (.ref 2 0))), (3, .s (.one (.ref 3 0))), (5, C6 k)], [(2, .box (pPatch a).s1.cells), (3, .box (pPatch b).s1.cells)])) (fun k => k ≤ a.Hunks.length ∧ a.Hunks.take k = b.Hunks.take k) (fun k => a.Hunks.length - k) 0 ⟨Nat.zero_le _, rfl⟩ (Sees.of ⟨le1 rfl, le1 rfl, le1 rfl, trivial⟩ ⟨rfl, rfl, trivial⟩) ?_
 rintro k ⟨hk, he⟩
 dsimp only at hk he ⊢
 refine k2 (k2 ?_)
 refine A5 (A2 (A3 Z Z) Z (A2 (A7 Z) Z (A2 (B0 Z Z Z) Z (A2 (F8 Z (.pure _ _ _ _)) Z (A2 (F0 Z Z) Z (A6 ?_))))))
 refine k1 ?_
 refine B3 rfl (fun ht => ?_) (fun ht => ?_)
 ·have hlt : k < a.Hunks.length := by have := A0 ht; omega
  have hlt' : k < b.Hunks.length := by omega
  have hv : a.Hunks[k]? = some a.Hunks[k] := by simp [hlt]
  have hv' : b.Hunks[k]? = some b.Hunks[k] := by simp [hlt']
  have hszx : 64 * (a.Hunks[k].Lines.length) ≤ szP a.Hunks := by
   have h3 := n5 (List.getElem_mem hlt)
   have h4 := V6 a.Hunks[k].Lines
   unfold szH at h3; omega
  have hnext := fun q => take_step_eq hlt hlt' he q
  have hno : a.Hunks[k] ≠ b.Hunks[k] → decide (a = b) = false := fun q => by
   rw [decide_eq_false]; rintro rfl; exact q rfl
  obtain ⟨x, hx⟩ : ∃ x, x = a.Hunks[k] := ⟨_, rfl⟩
  obtain ⟨y, hy⟩ : ∃ y, y = b.Hunks[k] := ⟨_, rfl⟩
  rw [← hx] at hv hszx
  rw [← hy] at hv'
  rw [← hx, ← hy] at hnext hno
  refine k5 (k1 (k2 (k3 (k2 ?_))))
  refine c_region_any [13, 12, 11, 10] [[], [10], [11], [11, 10], [12, 11, 10], [13, 12, 11, 10]] [(0, [10]), (0, [11]), (0, [11, 10]), (1, [10]), (1, [11]), (1, [11, 10]), (2, [10]), (2, [11]), (2, [11, 10]), (3, [10]), (3, [11]), (3, [11, 10]), (4, [10]), (4, [11]), (4, [11, 10]), (5, [10]), (5, [11]), (5, [11, 10]), (5, [12, 11, 10]), (6, [10]), (6, [11]), (6, [11, 10]), (6, [12, 11, 10]), (7, [10]), (7, [11]), (7, [11, 10]), (7, [12, 11, 10]), (8, [10]), (8, [11]), (8, [11, 10]), (8, [12, 11, 10]), (9, [10]), (9, [11]), (9, [11, 10]), (9, [12, 11, 10]), (10, [11]), (11, [])] (by kernel_rfl) (by kernel_rfl) (a_neu Z (A7 Z) (a_neu Z (B0 Z Z Z) (a_neu Z (A3 Z Z) (a_neu Z (B4 Z (.pure _ _ _ _) Z (by omega) hv) (a_neu Z (F2 Z Z) (a_neu Z (A7 Z) (a_neu Z (B0 Z Z Z) (a_neu Z (A3 Z Z) (a_neu Z (B4 Z (.pure _ _ _ _) Z (by omega) hv') (a_neu Z (F2 Z Z) (a_alloc 6 Z Z (a_alloc 7 Z Z (a_store (u_store_ref TySz.out Z Z Z Z Z Z) (a_store (u_store_ref TySz.out Z Z Z Z Z Z) ?_)))))))))))))); refine a_nil rfl ?_ ?_
  ·refine N7 Z Z (A7 Z) (N7 Z Z (A7 Z) (N7 Z Z (A7 Z) (N7 Z Z (B0 Z Z Z) (N7 Z Z (B0 Z Z Z) (N7 Z Z (B0 Z Z Z) (N7 Z Z (A3 Z Z) (N7 Z Z (A3 Z Z) (N7 Z Z (A3 Z Z) (N7 Z Z (B4 Z (.pure _ _ _ _) Z (by omega) hv) (N7 Z Z (B4 Z (.pure _ _ _ _) Z (by omega) hv) (N7 Z Z (B4 Z (.pure _ _ _ _) Z (by omega) hv) (N7 Z Z (F2 Z Z) (N7 Z Z (F2 Z Z) (N7 Z Z (F2 Z Z) (N7 Z Z (A7 Z) (N7 Z Z (A7 Z) (N7 Z Z (A7 Z) (N7 Z Z (A7 Z) (N7 Z Z (B0 Z Z Z) (N7 Z Z (B0 Z Z Z) (N7 Z Z (B0 Z Z Z) (N7 Z Z (B0 Z Z Z) (N7 Z Z (A3 Z Z) ?_))))))))))))))))))))))); refine N7 Z Z (A3 Z Z) (N7 Z Z (A3 Z Z) (N7 Z Z (A3 Z Z) (N7 Z Z (B4 Z (.pure _ _ _ _) Z (by omega) hv') (N7 Z Z (B4 Z (.pure _ _ _ _) Z (by omega) hv') (N7 Z Z (B4 Z (.pure _ _ _ _) Z (by omega) hv') (N7 Z Z (B4 Z (.pure _ _ _ _) Z (by omega) hv') (N7 Z Z (F2 Z Z) (N7 Z Z (F2 Z Z) (N7 Z Z (F2 Z Z) (N7 Z Z (F2 Z Z) (o_alloc Z Z Z Z Z (o_alloc Z Z Z Z Z ?_)))))))))))); exact o_nil
  refine k1 (k2 (k2 ?_))
  refine A5 (A2 (A7 Z) Z (A2 (B0 Z Z Z) Z (A2 (A7 Z) Z (A2 (B0 Z Z Z) Z (A2 (J2 Z Z) Z (A2 (A3 Z Z) Z (A8 Z Z Z Z (fun hg => by rw [hg]; exact A7 Z) ?_))))))); refine A8 Z Z Z Z (fun hg => by rw [hg]; exact B0 Z Z Z) ?_; refine A8 Z Z Z Z (fun hg => by rw [hg]; exact A7 Z) ?_; refine A8 Z Z Z Z (fun hg => by rw [hg]; exact B0 Z Z Z) ?_; refine A8 Z Z Z Z (fun hg => by rw [hg]; exact J2 Z Z) ?_; refine A2 (B2 Z (fun h => by first | rfl | (rw [h]; rfl)) (fun h => by first | rfl | (rw [h]; rfl))) Z ?_; refine A2 (A3 Z Z) Z (A8 Z Z Z Z (fun hg => by rw [hg]; exact A7 Z) ?_); refine A8 Z Z Z Z (fun hg => by rw [hg]; exact B0 Z Z Z) ?_; refine A8 Z Z Z Z (fun hg => by rw [hg]; exact F8 Z (.pure _ _ _ _)) ?_; refine A8 Z Z Z Z (fun hg => by rw [hg]; exact A7 Z) ?_; refine A8 Z Z Z Z (fun hg => by rw [hg]; exact B0 Z Z Z) ?_; refine A8 Z Z Z Z (fun hg => by rw [hg]; exact F8 Z (.pure _ _ _ _)) ?_; refine A8 Z Z Z Z (fun hg => by rw [hg]; exact J2 Z Z) ?_; refine A2 (B2 Z (fun h => by first | rfl | (rw [h]; rfl)) (fun h => by first | rfl | (rw [h]; rfl))) Z ?_; refine A6 ?_
  refine k1 ?_
  refine B3 rfl (fun ht => ?_) (fun ht => ?_)
  ·simp only [or_pick] at ht
   have h := A0 ht
   refine k2 ?_
   refine A5 (A2 (A4 Z Z) Z (A6 ?_))
   refine k1 (k10 (k11 (k12 (k11 (k11 (k12 (k11 ?_)))))))
   refine B5 (rs := [D5 false]) (G8 Z Z Z) ?_
   rw [hno]
   rintro rfl
   simp at h
  simp only [or_pick] at ht
  have g := A1 ht
  have g1 : x.Old = y.Old := Decidable.not_not.1 fun q => g (.inl (.inl q))
  have g2 : x.New = y.New := Decidable.not_not.1 fun q => g (.inl (.inr q))
  have g3 : x.Lines.length = y.Lines.length := by
   have : (x.Lines.length : Int) = y.Lines.length := Decidable.not_not.1 fun q => g (.inr q)
   omega
  refine k5 (k1 (k2 ?_))
  refine A5 (A2 (A4 Z Z) Z (A6 ?_))
  refine k1 (k3 ?_)
  refine E9 (X := Nat) (fun i => ([(2, .s (.one (.ref 2 0))), (3, .s (.one (.ref 3 0))), (5, C6 k), (6, .s (.one (.ref 6 0))), (7, .s (.one (.ref 7 0))), (8, C6 i)], [(2, .box (pPatch a).s1.cells), (3, .box (pPatch b).s1.cells), (6, .box (pPhunk x).s1.cells), (7, .box (pPhunk y).s1.cells)])) (fun i => i ≤ x.Lines.length ∧ x.Lines.take i = y.Lines.take i) (fun i => x.Lines.length - i) 0 ⟨Nat.zero_le _, rfl⟩ (Sees.of ⟨le1 rfl, le1 rfl, le1 rfl, le1 rfl, le1 rfl, le1 rfl, trivial⟩ ⟨rfl, rfl, rfl, rfl, trivial⟩) ?_
  rintro i ⟨hi, hie⟩
  dsimp only at hi hie ⊢
  refine k2 (k2 ?_)
  refine A5 (A2 (A3 Z Z) Z (A2 (A7 Z) Z (A2 (B0 Z Z Z) Z (A2 (F8 Z (.pure _ _ _ _)) Z (A2 (F0 Z Z) Z (A6 ?_))))))
  refine k1 ?_
  refine B3 rfl (fun ht => ?_) (fun ht => ?_)
  ·have hlt2 : i < x.Lines.length := by have := A0 ht; omega
   have hlt2' : i < y.Lines.length := by omega
   have w : x.Lines[i]? = some x.Lines[i] := by simp [hlt2]
   have w' : y.Lines[i]? = some y.Lines[i] := by simp [hlt2']
   have inext := fun q => take_step_eq hlt2 hlt2' hie q
   have ino : x.Lines[i] ≠ y.Lines[i] → x ≠ y := fun q e => by subst e; exact q rfl
   obtain ⟨u, hu⟩ : ∃ u, u = x.Lines[i] := ⟨_, rfl⟩
   obtain ⟨v, hv2⟩ : ∃ v, v = y.Lines[i] := ⟨_, rfl⟩
   rw [← hu] at w
   rw [← hv2] at w'
   rw [← hu, ← hv2] at inext ino
   refine k5 (k1 (k2 (k3 (k2 ?_))))
   refine C2 (by kernel_rfl) (by kernel_rfl) (A9 (A7 Z) Z Z (A9 (B0 Z Z Z) Z Z (A9 (A3 Z Z) Z Z (A9 (B4 Z (.pure _ _ _ _) Z (by omega) w) Z Z (A9 (F2 Z Z) Z Z (A9 (A7 Z) Z Z (A9 (B0 Z Z Z) Z Z (A9 (A3 Z Z) Z Z (A9 (B4 Z (.pure _ _ _ _) Z (by omega) w') Z Z (A9 (F2 Z Z) Z Z (A9 (n_neq_st (plineV u) (plineV v) Z Z Z Z (pline_eq u v)) Z Z (H3 ?_))))))))))))
   refine k1 ?_
   refine B3 rfl (fun ht => ?_) (fun ht => ?_)
   ·have e : u ≠ v := by simpa using ht
    refine k2 ?_
    refine A5 (A2 (A4 Z Z) Z (A6 ?_))
    refine k1 (k10 (k12 (k11 (k11 (k12 (k12 (k11 (k11 (k12 (k11 ?_))))))))))
    exact B5 (rs := [D5 false]) (G8 rfl rfl rfl) (by rw [hno (ino e)])
   ·have e : u = v := by simpa using ht
    refine k5 (k4 (k1 ?_))
    refine A5 (A2 (A3 Z Z) Z (A2 (C3 Z Z (by omega)) Z (A2 (A4 Z Z) Z (A6 ?_))))
    refine k1 ?_
    exact ⟨i + 1, ⟨by omega, inext e⟩, by omega, Sees.of ⟨le1 rfl, le1 rfl, le1 rfl, le1 rfl, le1 rfl, le1 rfl, trivial⟩ ⟨rfl, rfl, rfl, rfl, trivial⟩⟩
  ·have hi' : i = x.Lines.length := by have := A1 ht; omega
   have hxy : x = y := by
    have h5 := take_all_eq g3 hi' hie
    clear hno hnext hv hv' hx hy
    obtain ⟨x1, x2, x3⟩ := x
    obtain ⟨y1, y2, y3⟩ := y
    simp only at g1 g2 h5
    subst g1 g2 h5
    rfl
   refine k6 (k7 (k7 (k8 Z (k4 (k1 ?_)))))
   refine A5 (A2 (A3 Z Z) Z (A2 (C3 Z Z (by omega)) Z (A2 (A4 Z Z) Z (A6 ?_))))
   refine k1 ?_
   exact ⟨k + 1, ⟨by omega, hnext hxy⟩, by omega, Sees.of ⟨le1 rfl, le1 rfl, le1 rfl, trivial⟩ ⟨rfl, rfl, trivial⟩⟩
 ·have hk' : k = a.Hunks.length := by have := A1 ht; omega
  have hab : a = b := by
   have h5 := take_all_eq h3 hk' he
   obtain ⟨a1, a2, a3⟩ := a
   obtain ⟨b1, b2, b3⟩ := b
   simp only at h1 h2 h5
   subst h1 h2 h5
   rfl
  refine k6 (k2 ?_)
  refine A5 (A2 (A4 Z Z) Z (A6 ?_))
  refine k1 (k10 ?_)
  exact B5 (rs := [D5 true]) (G8 rfl rfl rfl) (by rw [decide_eq_true hab])
end Go.Proofs.YtjjidificdmnmaaGreatDoor
namespace Go.Proofs.YtjjidificdmnmaaGreatDoor
open Go Go.AL
set_option maxRecDepth 100000
end Go.Proofs.YtjjidificdmnmaaGreatDoor
namespace Go.Proofs.YtjjidificdmnmaaGreatDoor
open Go Go.AL
set_option maxRecDepth 100000
end Go.Proofs.YtjjidificdmnmaaGreatDoor
namespace Go.Proofs.YtjjidificdmnmaaGreatDoor
open Go Go.AL
set_option maxRecDepth 100000
end Go.Proofs.YtjjidificdmnmaaGreatDoor
namespace Go.Proofs.YtjjidificdmnmaaGreatDoor
open Go Go.AL
set_option maxRecDepth 100000
theorem script_cs {l : List Change} {m n : Int} (hok : ScOk 0 0 l m n) : ∀ c ∈ l, c.Old ≤ 4096 ∧ 0 ≤ c.OldLen ∧ c.OldLen ≤ 4096 ∧ 0 ≤ c.NewLen ∧ c.NewLen ≤ 4096 := by
 intro c hc
 obtain ⟨k, hk, rfl⟩ := List.mem_iff_getElem.1 hc
 have := hok.get k hk
 have e : cAt l k = l[k] := by unfold cAt; simp [hk]
 rw [e] at this
 obtain ⟨⟨_, h1⟩, ⟨h2, h3⟩, _, ⟨h4, h5⟩, _⟩ := this
 exact ⟨h1, h2, h3, h4, h5⟩
theorem matched_len {l : List Change} {m n : Int} (hm : m ≤ 4096) (hok : ScOk 0 0 l m n) : (U8 l m).length ≤ 4096 := by
 have := matchedGo_length l 0 0 m (by omega) 4096 (by omega) (fun c hc => ⟨by have := (script_cs hok c hc).1; omega, (script_cs hok c hc).2.1⟩)
 unfold U8; omega
def PairAt (a b : List Int) (p : Span) : Prop := 0 ≤ p.From ∧ 0 ≤ p.To ∧ ∃ v, a[p.From.toNat]? = some v ∧ b[p.To.toNat]? = some v
theorem rPairs8_ok (l : List Change) (m n : Int) (hl : l.length ≤ 32768) (hc : Z1 l m n = 0) :
  FnOk Tryz.prog 162 [pChanges l, D2 m, D2 n] (fun rs => rs = [pSpans (U8 l m), D2 0]) := by
 obtain ⟨⟨_, hm⟩, _, hok⟩ := check8_ok hc
 have hcs : ∀ c ∈ l, c.Old ≤ 536870911 ∧ 0 ≤ c.OldLen ∧ c.OldLen ≤ 1048576 ∧ 0 ≤ c.NewLen ∧ c.NewLen ≤ 1048576 := by
  intro c hc
  have := script_cs hok c hc
  omega
 refine FnOk.intro Tryz.func162 (by decide) Z Z Z Z ?_
 refine k2 ?_
 refine A5 (A2 (A4 Z Z) Z (A2 (A4 Z Z) Z (A6 ?_)))
 refine k1 (k2 (k2 ?_))
 refine A5 (A2 (A3 Z Z) Z (A2 (A3 Z Z) Z (A2 (A3 Z Z) Z (C0 (check8_walk l m n (by omega)) Z Z Z ?_)))); rintro _ rfl; refine A2 (A4 Z Z) Z (A6 ?_)
 rw [hc]
 refine k1 (k2 ?_)
 refine A5 (A2 (A3 Z Z) Z (A2 (J2 Z Z) Z (A6 ?_)))
 refine k1 ?_
 refine B3 rfl (fun ht => ?_) (fun ht => ?_)
 ·cases ht
 refine k5 (k1 (k2 ?_))
 refine A5 (A2 (A3 Z Z) Z (A2 (A3 Z Z) Z (C0 (matched_ok l m (by omega) (by omega) hcs) Z Z Z ?_))); rintro _ rfl; refine A2 (A4 Z Z) Z (A2 (A4 Z Z) Z (A6 ?_))
 refine k1 (k10 ?_)
 exact B5 (X9 rfl rfl rfl rfl rfl) rfl
theorem rFits8_ok (l : List Change) (a b : List Int) (hl : l.length ≤ 32768) (hc : Z1 l a.length b.length = 0) (hp : ∀ p ∈ U8 l a.length, PairAt a b p) :
  FnOk Tryz.prog 120 [pChanges l, Y0 a, Y0 b] (fun rs => rs = [D5 true]) := by
 obtain ⟨⟨_, ha⟩, ⟨_, hb⟩, hok⟩ := check8_ok hc
 have hpl := matched_len (by omega) hok
 obtain ⟨ps, hps⟩ : ∃ ps, ps = U8 l a.length := ⟨_, rfl⟩
 rw [← hps] at hpl
 refine FnOk.intro Tryz.func120 (by decide) Z Z Z Z ?_
 refine k2 ?_
 refine A5 (A2 (A4 Z Z) Z (A6 ?_))
 refine k1 (k2 ?_)
 refine A5 (A2 (A3 Z Z) Z (A2 (A3 Z Z) Z (A2 (F8 Z (.pure _ _ _ _)) Z (A2 (A3 Z Z) Z (A2 (F8 Z (.pure _ _ _ _)) Z (C0 (rPairs8_ok l a.length b.length hl hc) Z Z Z ?_)))))); rintro _ rfl; refine A2 (A3 Z Z) Z (A2 (B1 Z Z) Z (A2 (B1 Z Z) Z (A2 (A4 Z Z) Z (A2 (A4 Z Z) Z (A6 ?_)))))
 rw [← hps] at hp ⊢
 refine k1 (k2 (k2 ?_))
 refine A5 (A2 (A3 Z Z) Z (A2 (J2 Z Z) Z (A6 ?_)))
 refine k1 ?_
 refine B3 rfl (fun ht => ?_) (fun ht => ?_)
 ·cases ht
 refine k5 (k1 (k2 (k2 ?_)))
 refine A5 (A2 (A4 Z Z) Z (A6 ?_))
 refine k1 (k3 ?_)
 refine E9 (X := Nat) (fun k => ([(1, E8 Int 1 Y8 a), (2, E8 Int 1 Y8 b), (7, E8 Span 2 spanC ps), (9, C6 k)], [])) (fun k => k ≤ ps.length) (fun k => ps.length - k) 0 (Nat.zero_le _) (Sees.of ⟨le1 rfl, le1 rfl, le1 rfl, le1 rfl, trivial⟩ trivial) ?_
 intro k hk
 dsimp only at hk ⊢
 refine k2 (k2 ?_)
 refine A5 (A2 (A3 Z Z) Z (A2 (A3 Z Z) Z (A2 (F8 Z (.pure _ _ _ _)) Z (A2 (F0 Z Z) Z (A6 ?_)))))
 refine k1 ?_
 refine B3 rfl (fun ht => ?_) (fun ht => ?_)
 ·have hlt : k < ps.length := by have := A0 ht; omega
  obtain ⟨p, hpd⟩ : ∃ p, p = ps[k] := ⟨_, rfl⟩
  have hv : ps[k]? = some p := by rw [hpd]; simp [hlt]
  obtain ⟨h1, h2, v, h3, h4⟩ := hp p (List.mem_of_getElem? hv)
  have h5 := (List.getElem?_eq_some_iff.1 h3).1
  have h6 := (List.getElem?_eq_some_iff.1 h4).1
  refine k5 (k1 (k2 (k3 (k2 ?_))))
  refine C2 (by kernel_rfl) (by kernel_rfl) (A9 (A3 Z Z) Z Z (A9 (A3 Z Z) Z Z (A9 (A3 Z Z) Z Z (A9 (B4 Z (.pure _ _ _ _) Z (by omega) hv) Z Z (A9 (C7 Z) Z Z (A9 (B8 Z Z) Z Z (A9 (B4 Z (.pure _ _ _ _) Z (by omega) h3) Z Z (A9 (B8 Z Z) Z Z (A9 (A3 Z Z) Z Z (A9 (A3 Z Z) Z Z (A9 (A3 Z Z) Z Z (A9 (B4 Z (.pure _ _ _ _) Z (by omega) hv) Z Z (A9 (C7 Z) Z Z (A9 (B8 Z Z) Z Z (A9 (B4 Z (.pure _ _ _ _) Z (by omega) h4) Z Z (A9 (B8 Z Z) Z Z (A9 (J2 Z Z) Z Z (H3 ?_))))))))))))))))))
  refine k1 ?_
  refine B3 rfl (fun ht => ?_) (fun ht => ?_)
  ·exact absurd (A0 ht) (by simp)
  refine k5 (k4 (k1 ?_))
  refine A5 (A2 (A3 Z Z) Z (A2 (C3 Z Z (by omega)) Z (A2 (A4 Z Z) Z (A6 ?_))))
  refine k1 ?_
  exact ⟨k + 1, hlt, by omega, Sees.of ⟨le1 rfl, le1 rfl, le1 rfl, le1 rfl, trivial⟩ trivial⟩
 ·refine k6 (k2 ?_)
  refine A5 (A2 (A4 Z Z) Z (A6 ?_))
  refine k1 (k10 ?_)
  exact B5 (G8 rfl rfl rfl) rfl
end Go.Proofs.YtjjidificdmnmaaGreatDoor
