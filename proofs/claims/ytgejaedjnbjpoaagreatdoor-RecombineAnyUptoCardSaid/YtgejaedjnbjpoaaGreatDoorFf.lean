/- Walks of the program's functions. -/
import Derived.Test.YtgejaedjnbjpoaaGreatDoorFe
import Derived.Test.YtgejaedjnbjpoaaGreatDoorFb
import Derived.Test.YtgejaedjnbjpoaaGreatDoorFd
import Derived.Test.YtgejaedjnbjpoaaGreatDoorFs
import Derived.Test.YtgejaedjnbjpoaaGreatDoorFc
namespace Go.Proofs.YtgejaedjnbjpoaaGreatDoor
open Go Go.AL
set_option maxRecDepth 100000
theorem cnamed_ok (s : Str) : FnOk Tryz.prog 93 [E6 s] (fun rs => rs = [C4 (d9 s)]) := by
 refine FnOk.intro Tryz.func93 (by decide) Z Z Z Z ?_
 refine k2 ?_
 refine A3 (A2 (A5 Z Z) Z (A6 ?_))
 refine k1 (k2 ?_)
 refine A3 (A2 (A4 Z Z) Z (A2 (C6 Z) Z (A2 (W6 Z Z) Z (A2 (A4 Z Z) Z (A8 Z Z Z Z (fun hg => by rw [hg]; exact A4 Z Z) ?_))))); refine A8 Z Z Z Z (fun hg => by rw [hg]; exact C6 Z) ?_; refine A8 Z Z Z Z (fun hg => by rw [hg]; exact o3 Z Z) ?_; refine A2 (B3 Z (fun h => by first | rfl | (rw [h]; rfl)) (fun h => by first | rfl | (rw [h]; rfl))) Z ?_; refine A2 (A5 Z Z) Z (A6 ?_)
 refine k1 (k10 ?_)
 refine B5 (F3 Z Z Z) ?_
 rw [I3]
 unfold d9
 congr 4
 apply decide_eq_decide.2
 omega
theorem ctitle_ok (c : Comb) (hp : c.Path.length ≤ 16777216) : FnOk Tryz.prog 89 [I7 c] (fun rs => rs = [E6 (titleS c)]) := by
 have hq := quote_lenC c.Path
 have hf := fmt_len c.Parents
 refine FnOk.intro Tryz.func89 (by decide) Z Z Z Z ?_
 refine k2 ?_
 refine A3 (C0 (R0 1 Z Z Z) Z (A2 (A5 Z Z) Z (A6 ?_)))
 refine k1 (k2 ?_)
 refine A3 (A2 (A5 Z Z) Z (A6 ?_))
 refine k1 (k2 (k2 ?_))
 refine A3 (A2 (A7 Z) Z (A2 (B0 Z Z Z) Z (A6 ?_)))
 refine k1 ?_
 refine B2 rfl (fun ht => ?_) (fun ht => ?_)
 ·have hd : c.Dense = true := ht
  skip
  refine A3 (A2 (A5 Z Z) Z (A6 ?_))
  refine k1 (k2 ?_)
  refine D1 (by kernel_rfl) (by kernel_rfl) (B1 (A4 Z Z) Z Z (B1 (D8 Z Z (by (simp only [List.length_append, List.length_cons, List.length_nil]; omega))) Z Z (B1 (D8 Z Z (by (simp only [List.length_append, List.length_cons, List.length_nil]; omega))) Z Z (B1 (A7 Z) Z Z (B1 (B0 Z Z Z) Z Z (B1 (G4 (squote_ok c.Path (by omega)) Z Z) Z Z (B1 (D8 Z Z (by (simp only [List.length_append, List.length_cons, List.length_nil]; omega))) Z Z (B1 (D8 Z Z (by (simp only [List.length_append, List.length_cons, List.length_nil]; omega))) Z Z (B1 (A7 Z) Z Z (B1 (B0 Z Z Z) Z Z (B1 (G4 (a6 c.Parents) Z Z) Z Z (B1 (D8 Z Z (by (simp only [List.length_append, List.length_cons, List.length_nil]; omega))) Z Z (B1 (D8 Z Z (by (simp only [List.length_append, List.length_cons, List.length_nil]; omega))) Z Z (B1 (A5 Z Z) Z Z (J4 ?_)))))))))))))))
  refine k1 (k10 ?_)
  exact B5 (F3 rfl rfl rfl) (by unfold titleS Q5; rw [if_pos hd]; simp [ccS, parS])
 ·have hd : c.Dense = false := ht
  refine k5 (k1 (k2 ?_))
  refine D1 (by kernel_rfl) (by kernel_rfl) (B1 (A4 Z Z) Z Z (B1 (D8 Z Z (by (simp only [List.length_append, List.length_cons, List.length_nil]; omega))) Z Z (B1 (D8 Z Z (by (simp only [List.length_append, List.length_cons, List.length_nil]; omega))) Z Z (B1 (A7 Z) Z Z (B1 (B0 Z Z Z) Z Z (B1 (G4 (squote_ok c.Path (by omega)) Z Z) Z Z (B1 (D8 Z Z (by (simp only [List.length_append, List.length_cons, List.length_nil]; omega))) Z Z (B1 (D8 Z Z (by (simp only [List.length_append, List.length_cons, List.length_nil]; omega))) Z Z (B1 (A7 Z) Z Z (B1 (B0 Z Z Z) Z Z (B1 (G4 (a6 c.Parents) Z Z) Z Z (B1 (D8 Z Z (by (simp only [List.length_append, List.length_cons, List.length_nil]; omega))) Z Z (B1 (D8 Z Z (by (simp only [List.length_append, List.length_cons, List.length_nil]; omega))) Z Z (B1 (A5 Z Z) Z Z (J4 ?_)))))))))))))))
  refine k1 (k10 ?_)
  exact B5 (F3 rfl rfl rfl) (by unfold titleS Q5; rw [hd, if_neg (by decide)]; simp [combS, parS])
theorem cheader_ok (h : CHunk) (n : Nat) (hn : n ≤ 32) (hr : L0 h.Rows) (hl : h.Rows.length ≤ 268435456) (ha : h.At.length = n + 1) (hb : ∀ a ∈ h.At, -4611686018427387904 ≤ a ∧ a ≤ 4611686018427387904) :
  FnOk Tryz.prog 90 [pChunk h, E2 n] (fun rs => rs = [E6 (O8 n h ++ [10])]) := by
 have hrep : FnOk Tryz.prog 167 [E6 [64], E2 ((n : Int) + 1)] (fun rs => rs = [E6 (atS (n + 1))]) := by
  have := repeat_ok 64 (n + 1) (by omega)
  rwa [show ((n + 1 : Nat) : Int) = (n : Int) + 1 by omega] at this
 obtain ⟨A, hA⟩ : ∃ A, A = atS (n + 1) := ⟨_, rfl⟩
 have hAl : A.length = n + 1 := by rw [hA, Y7]
 have hend : O8 n h ++ [10] = A ++ N6 n h n ++ ([32, 43] ++ E9 (h.At.getD n 0) (K4 h.Rows n n) ++ [32] ++ A ++ [10]) := by
  unfold O8
  rw [q9, hA]
  unfold p9 J2
  rw [if_pos rfl]; simp
 rw [hend]
 rw [← hA] at hrep
 have hsl := fun k => sidesW_len n h k
 have hcnt := fun k => cnt_le h.Rows n k
 have hgA : ∀ k, k < n + 1 → h.At[k]? = some (h.At.getD k 0) := fun k hk => getI (by omega)
 have hgC : ∀ k, k < n + 1 → (K5 h.Rows n)[k]? = some (K4 h.Rows n k) := fun k hk => counts_get h.Rows n k hk
 have hrA : ∀ k, k < n + 1 → -4611686018427387904 ≤ h.At.getD k 0 ∧ h.At.getD k 0 ≤ 4611686018427387904 := fun k hk => hb _ (List.mem_of_getElem? (hgA k hk))
 refine FnOk.intro Tryz.func90 (by decide) Z Z Z Z ?_
 refine k2 ?_
 refine A3 (C0 (R0 2 Z Z Z) Z (A2 (A5 Z Z) Z (A6 ?_)))
 refine k1 (k2 ?_)
 refine A3 (A2 (A7 Z) Z (A2 (B0 Z Z Z) Z (A2 (A4 Z Z) Z (l_new (ccounts_new h.Rows n hn hr hl) Z Z Z Z ?_)))); rintro _ _ ⟨rfl, rfl⟩; refine ⟨rfl, ?_⟩; refine A2 (A5 Z Z) Z (A6 ?_)
 refine k1 (k2 ?_)
 refine F6 (Sees.freeze (k := 720) Z) ?_
 refine A3 (A2 (A4 Z Z) Z (A2 (B9 Z Z (by omega)) Z (B7 (hrep) Z Z Z ?_))); rintro _ rfl; refine A2 (A5 Z Z) Z (A6 ?_)
 refine k1 (k2 ?_)
 refine A3 (C0 (f_allocT 700 Z) Z (A6 ?_))
 refine k1 (k2 ?_)
 refine F6 (Sees.adoptT 701 UInt8 1 u8C 5 (kb := 700) (o := 1) Z Z Z) ?_
 refine A3 (A2 (A4 Z Z) Z (R7 (M6 (xs := []) (s := A) ⟨⟨_, .inl rfl, rfl⟩, rfl⟩ (by simp only [List.length_nil]; omega)) Z Z Z ?_)); rintro _ _ ⟨rfl, rfl⟩; refine A6 ?_
 refine k1 (k2 (k2 ?_))
 refine A3 (A2 (A4 Z Z) Z (A2 (A4 Z Z) Z (A6 ?_)))
 refine k1 (k3 ?_)
 refine E0 (X := Nat) (fun p => ([(1, C3 n), (2, .s (.one (.ref 2 0))), (5, F4 Int 1 H7 (K5 h.Rows n)), (6, F9 A), (7, .s (.one (.ref 700 0))), (18, C3 n), (19, C3 p)], [(2, .box (pChunk h).s1.cells), (700, .tbx 144 [.ref 700 0, .buf 701 UInt8 1 u8C (A ++ N6 n h p)]), (701, .spare (A ++ N6 n h p).length 1 5)])) (fun p => p ≤ n) (fun p => n - p) 0 (Nat.zero_le _) ?_ ?_
 ·rw [show N6 n h 0 = [] from rfl, List.append_nil]
  exact Sees.of ⟨le1 rfl, le1 rfl, le1 rfl, le1 rfl, le1 rfl, le1 rfl, le1 rfl, trivial⟩ ⟨rfl, rfl, rfl, trivial⟩
 intro p hp
 dsimp only at hp ⊢
 have hsp := hsl p
 have hsucc := q9 n h p
 refine k2 ?_
 refine A3 (A2 (D5 Z Z) Z (A6 ?_))
 refine k1 (k2 ?_)
 refine B2 rfl (fun ht => ?_) (fun ht => ?_)
 ·have hlt : p < n := by have := A0 ht; omega
  have hga := hgA p (by omega)
  have hgc := hgC p (by omega)
  have hra := hrA p (by omega)
  have hcp := hcnt p
  have hsw : p9 n h p = [32, 45] ++ E9 (h.At.getD p 0) (K4 h.Rows n p) := by
   unfold p9 J2; rw [if_neg (by omega)]
  have hrl := p5 (h.At.getD p 0) (K4 h.Rows n p)
  rw [hsw] at hsucc
  obtain ⟨a, haa⟩ : ∃ a, a = h.At.getD p 0 := ⟨_, rfl⟩
  obtain ⟨q, hqq⟩ : ∃ q, q = K4 h.Rows n p := ⟨_, rfl⟩
  rw [← haa] at hga hra hrl hsucc
  rw [← hqq] at hgc hcp hrl hsucc
  have hlb : (A ++ N6 n h p).length ≤ 1000 := by rw [List.length_append]; omega
  obtain ⟨B, hB⟩ : ∃ B, B = A ++ N6 n h p := ⟨_, rfl⟩
  rw [← hB] at hlb ⊢
  refine k5 (k1 (k2 (k3 (k2 ?_))))
  refine A3 (A2 (A4 Z Z) Z (A2 (A5 Z Z) Z (A6 ?_)))
  refine k1 ?_
  refine r7 11 (by kernel_rfl) (by kernel_rfl) Z (B1 (A7 Z) Z Z (B1 (B0 Z Z Z) Z Z (B1 (A4 Z Z) Z Z (B1 (B8 Z (.pure _ _ _ _) Z (by omega) hga) Z Z (B1 (C2 Z Z) Z Z (B1 (A4 Z Z) Z Z (B1 (A4 Z Z) Z Z (B1 (B8 Z (.pure _ _ _ _) Z (by omega) hgc) Z Z (B1 (C2 Z Z) Z Z (B1 (G4 (srange_ok a q hra (by omega)) Z Z) Z Z (B1 (D8 Z Z (by (simp only [List.length_append, List.length_cons, List.length_nil]; omega))) Z Z (J4 (met_step (M6 (xs := B) (s := [32, 45] ++ E9 a q) ⟨⟨_, .inr rfl, rfl⟩, rfl⟩ (by simp only [List.length_append, List.length_cons, List.length_nil]; omega)) Z Z Z ?_))))))))))))); rintro _ _ ⟨rfl, rfl⟩; refine ⟨_, rfl, ?_⟩; refine J4 ?_
  refine k4 (k1 ?_)
  refine A3 (A2 (B9 Z Z (by omega)) Z (A2 (A4 Z Z) Z (A6 ?_)))
  refine k1 ?_
  refine ⟨p + 1, by omega, by omega, ?_⟩
  have hs2 : A ++ N6 n h (p + 1) = B ++ ([32, 45] ++ E9 a q) := by rw [hsucc, hB, List.append_assoc]
  rw [hs2]
  exact Sees.of ⟨le1 rfl, le1 rfl, le1 rfl, le1 rfl, le1 rfl, le1 rfl, le1 rfl, trivial⟩ ⟨rfl, rfl, rfl, trivial⟩
 ·have hpn : p = n := by have := A1 ht; omega
  subst hpn
  have hga := hgA p (by omega)
  have hgc := hgC p (by omega)
  have hra := hrA p (by omega)
  have hcp := hcnt p
  have hrl := p5 (h.At.getD p 0) (K4 h.Rows p p)
  obtain ⟨a, haa⟩ : ∃ a, a = h.At.getD p 0 := ⟨_, rfl⟩
  obtain ⟨q, hqq⟩ : ∃ q, q = K4 h.Rows p p := ⟨_, rfl⟩
  rw [← haa] at hga hra hrl ⊢
  rw [← hqq] at hgc hcp hrl ⊢
  have hlb : (A ++ N6 p h p).length ≤ 1000 := by rw [List.length_append]; omega
  obtain ⟨B, hB⟩ : ∃ B, B = A ++ N6 p h p := ⟨_, rfl⟩
  rw [← hB] at hlb ⊢
  refine k6 (k2 ?_)
  refine r7 15 (by kernel_rfl) (by kernel_rfl) Z (B1 (A7 Z) Z Z (B1 (B0 Z Z Z) Z Z (B1 (A4 Z Z) Z Z (B1 (B8 Z (.pure _ _ _ _) Z (by omega) hga) Z Z (B1 (C2 Z Z) Z Z (B1 (A4 Z Z) Z Z (B1 (A4 Z Z) Z Z (B1 (B8 Z (.pure _ _ _ _) Z (by omega) hgc) Z Z (B1 (C2 Z Z) Z Z (B1 (G4 (srange_ok a q hra (by omega)) Z Z) Z Z (B1 (D8 Z Z (by (simp only [List.length_append, List.length_cons, List.length_nil]; omega))) Z Z (B1 (D8 Z Z (by (simp only [List.length_append, List.length_cons, List.length_nil]; omega))) Z Z (B1 (A4 Z Z) Z Z (B1 (D8 Z Z (by (simp only [List.length_append, List.length_cons, List.length_nil]; omega))) Z Z (B1 (D8 Z Z (by (simp only [List.length_append, List.length_cons, List.length_nil]; omega))) Z Z (J4 (met_step (M6 (xs := B) (s := [32, 43] ++ E9 a q ++ [32] ++ A ++ [10]) ⟨⟨_, .inr rfl, rfl⟩, rfl⟩ (by simp only [List.length_append, List.length_cons, List.length_nil]; omega)) Z Z Z ?_))))))))))))))))); rintro _ _ ⟨rfl, rfl⟩; refine ⟨_, rfl, ?_⟩; refine J4 ?_
  refine k1 (k2 ?_)
  refine A3 (l_bstring (k := 700) (k' := 701) ⟨_, rfl, rfl, rfl⟩ r8 Z Z Z Z Z (.inr Z) Z (A2 (A5 Z Z) Z (A6 ?_)))
  refine k1 (k10 ?_)
  exact B5 (F3 rfl rfl rfl) rfl
def markC (r : Row) : UInt8 := if r.Lost then 45 else 43
theorem crow_ok (r : Row) (n : Nat) (hn : n ≤ 32) (hm : 0 ≤ r.Marks ∧ r.Marks < 4294967296) (hx : r.Text.length ≤ 268435456) :
  FnOk Tryz.prog 91 [pRow r, E2 n] (fun rs => rs = [E6 (P8 n r).flatten]) := by
 rw [rowPs_flat]
 refine FnOk.intro Tryz.func91 (by decide) Z Z Z Z ?_
 refine k2 ?_
 refine A3 (C0 (R0 2 Z Z Z) Z (A2 (A5 Z Z) Z (A6 ?_)))
 refine k1 (k2 ?_)
 refine A3 (A2 (A5 Z Z) Z (A6 ?_))
 refine H8 ?_
 refine U7 [(1, C3 n), (2, .s (.one (.ref 2 0))), (5, H1 (.int .u8 (markC r).toNat))] [(2, .box (pRow r).s1.cells)] ?_ ?_
 ·refine k2 ?_
  refine A3 (A2 (A7 Z) Z (A2 (B0 Z Z Z) Z (A6 ?_)))
  refine k1 ?_
  refine B2 rfl (fun ht => ?_) (fun ht => ?_)
  ·have h : r.Lost = true := ht
   skip
   refine A3 (A2 (A5 Z Z) Z (A6 ?_))
   refine k1 ?_
   rw [show markC r = 45 by unfold markC; rw [h]; rfl]
   exact Sees.of ⟨le1 rfl, le1 rfl, le1 rfl, trivial⟩ ⟨rfl, trivial⟩
  ·have h : r.Lost = false := ht
   refine k5 (k1 ?_)
   rw [show markC r = 43 by unfold markC; rw [h]; rfl]
   exact Sees.of ⟨le1 rfl, le1 rfl, le1 rfl, trivial⟩ ⟨rfl, trivial⟩
 refine k2 ?_
 refine A3 (A2 (A4 Z Z) Z (A2 (A7 Z) Z (A2 (B0 Z Z Z) Z (A2 (C6 Z) Z (A2 (B9 Z Z (by omega)) Z (A2 (B9 Z Z (by omega)) Z (C0 (f_makeCap 730 UInt8 u8C Z Z (by omega) (by omega) (by first | rfl | (simp [J6, N1, Ob.free, SV.free, S1.free, TC.free] <;> rfl))) Z ?_))))))); refine A2 (A5 Z Z) Z (A6 ?_)
 refine k1 (k2 (k2 ?_))
 refine A3 (A2 (A4 Z Z) Z (A2 (A4 Z Z) Z (A6 ?_)))
 refine k1 (k3 ?_)
 refine E0 (X := Nat) (fun p => ([(1, C3 n), (2, .s (.one (.ref 2 0))), (5, H1 (.int .u8 (markC r).toNat)), (6, .s (.one (.buf 730 UInt8 1 u8C (H9 p r)))), (17, C3 n), (18, C3 p)], [(2, .box (pRow r).s1.cells), (730, .spare (H9 p r).length 1 5)])) (fun p => p ≤ n) (fun p => n - p) 0 (Nat.zero_le _) (Sees.of ⟨le1 rfl, le1 rfl, le1 rfl, le1 rfl, le1 rfl, le1 rfl, trivial⟩ ⟨rfl, rfl, trivial⟩) ?_
 intro p hp
 dsimp only at hp ⊢
 have hml := Q7 p r
 have hsucc := marksS_succ p r
 refine k2 ?_
 refine A3 (A2 (D5 Z Z) Z (A6 ?_))
 refine k1 (k2 ?_)
 refine B2 rfl (fun ht => ?_) (fun ht => ?_)
 ·have hlt : p < n := by have := A0 ht; omega
  refine k5 (k1 (k2 (k3 (k2 ?_))))
  refine A3 (A2 (A4 Z Z) Z (A2 (A5 Z Z) Z (A6 ?_)))
  refine k1 (k2 ?_)
  refine A3 (A2 (A7 Z) Z (A2 (B0 Z Z Z) Z (A2 (A4 Z Z) Z (A2 (n_shr Z Z (by omega)) Z (A2 (X1 Z Z Z (fun _ => rfl)) Z (A2 (E8 Z Z) Z (A6 ?_)))))))
  refine k1 ?_
  have h3 : 0 ≤ r.Marks / 2 ^ p := Int.ediv_nonneg hm.1 (Int.pow_nonneg (by decide))
  have h4 : r.Marks / 2 ^ p ≤ r.Marks := Int.ediv_le_self _ hm.1
  have e32 : r.Marks.fdiv (2 ^ (min (p : Int).toNat IntKind.u32.bits)) = r.Marks / 2 ^ p := shr32 r.Marks p (by omega)
  have e1 := and1_u32 (r.Marks / 2 ^ p) (by omega)
  refine B2 rfl (fun ht => ?_) (fun ht => ?_)
  ·rw [e32, e1] at ht
   have hb : o8 r.Marks p = true := by unfold o8; simpa using ht
   have hmk : W7 r p = markC r := by unfold W7 markC; rw [hb, if_neg (by decide)]
   rw [hmk] at hsucc
   skip
   refine A3 (A2 (A4 Z Z) Z (A2 (A4 Z Z) Z (A2 (D9 (c := u8C) (ys := [markC r]) (F8 Z Z Z Z H5) Z Z Z) Z (C0 (J0 Z Z Z (.pure _ _ _ _) (by (simp only [List.length_cons, List.length_nil]; omega)) Z) Z (A2 (A5 Z Z) Z (A6 ?_))))))
   refine k4 (k1 ?_)
   refine A3 (A2 (B9 Z Z (by omega)) Z (A2 (A4 Z Z) Z (A6 ?_)))
   refine k1 ?_
   refine ⟨p + 1, by omega, by omega, ?_⟩
   rw [hsucc]
   exact Sees.of ⟨le1 rfl, le1 rfl, le1 rfl, le1 rfl, le1 rfl, le1 rfl, trivial⟩ ⟨rfl, rfl, trivial⟩
  ·rw [e32, e1] at ht
   have hb : o8 r.Marks p = false := by unfold o8; simpa using ht
   have hmk : W7 r p = 32 := by unfold W7; rw [if_pos hb]
   rw [hmk] at hsucc
   skip
   refine A3 (A2 (A4 Z Z) Z (A2 (D9 (c := u8C) (ys := [32]) (F8 Z Z Z Z H5) Z Z Z) Z (C0 (J0 Z Z Z (.pure _ _ _ _) (by (simp only [List.length_cons, List.length_nil]; omega)) Z) Z (A2 (A5 Z Z) Z (A6 ?_)))))
   refine k4 (k1 ?_)
   refine A3 (A2 (B9 Z Z (by omega)) Z (A2 (A4 Z Z) Z (A6 ?_)))
   refine k1 ?_
   refine ⟨p + 1, by omega, by omega, ?_⟩
   rw [hsucc]
   exact Sees.of ⟨le1 rfl, le1 rfl, le1 rfl, le1 rfl, le1 rfl, le1 rfl, trivial⟩ ⟨rfl, rfl, trivial⟩
 ·have hpn : p = n := by have := A1 ht; omega
  subst hpn
  refine k6 (k2 ?_)
  refine A3 (A2 (A4 Z Z) Z (A2 (A7 Z) Z (A2 (B0 Z Z Z) Z (C0 (w8 TyStr.out Z Z Z (by omega) Z) Z (A2 (A5 Z Z) Z (A6 ?_))))))
  refine k1 (k2 (k2 ?_))
  refine A3 (A2 (A7 Z) Z (A2 (B0 Z Z Z) Z (B7 (tended_ok r.Text (by omega)) Z Z Z ?_))); rintro _ rfl; refine A2 (D3 Z) Z (A6 ?_)
  refine k1 ?_
  refine B2 rfl (fun ht => ?_) (fun ht => ?_)
  ·have h : ended r.Text = false := by simpa using ht
   skip
   refine A3 (A2 (A4 Z Z) Z (C0 (w8 TyStr.out Z Z Z (by (simp only [List.length_append, List.length_cons, List.length_nil]; omega)) Z) Z (A2 (A5 Z Z) Z (A6 ?_))))
   refine k1 (k2 ?_)
   refine A3 (A2 (A4 Z Z) Z (A2 (L7 TyStr.out Z (.buf _ _ _ _ _)) Z (A2 (A5 Z Z) Z (A6 ?_))))
   refine k1 (k10 ?_)
   exact B5 (F3 rfl rfl rfl) (by rw [h, if_neg (by decide)]; rfl)
  ·have h : ended r.Text = true := by simpa using ht
   refine k5 (k1 (k2 ?_))
   refine A3 (A2 (A4 Z Z) Z (A2 (L7 TyStr.out Z (.buf _ _ _ _ _)) Z (A2 (A5 Z Z) Z (A6 ?_))))
   refine k1 (k10 ?_)
   exact B5 (F3 rfl rfl rfl) (by rw [if_pos h, List.append_nil])
structure CFit (c : Comb) : Prop where
 par : 0 ≤ c.Parents ∧ c.Parents ≤ 32
 path : c.Path.length ≤ 4194304
 sz : szC c.Hunks ≤ 268435456
 rows : ∀ h ∈ c.Hunks, L0 h.Rows
 ats : ∀ h ∈ c.Hunks, h.At.length = c.Parents.toNat + 1 ∧ ∀ a ∈ h.At, -4611686018427387904 ≤ a ∧ a ≤ 4611686018427387904
theorem csize_ok (c : Comb) (hc : CFit c) : FnOk Tryz.prog 96 [I7 c] (fun rs => rs = [E2 (N7 c).length]) := by
 obtain ⟨h1, h2, h3, h4, h5⟩ := hc
 have hzl := j7 c.Hunks
 have hm29 : markS.length = 29 := rfl
 obtain ⟨n, hN⟩ : ∃ n, n = c.Parents.toNat := ⟨_, rfl⟩
 have hNc : c.Parents = (n : Int) := by omega
 have hn : n ≤ 32 := by omega
 have hct := fun k => cTo_len c (by omega) k
 have hcs := fun k h => cTo_succ c k h
 rw [← hN] at h5 hcs
 refine FnOk.intro Tryz.func96 (by decide) Z Z Z Z ?_
 refine k2 ?_
 refine A3 (C0 (R0 1 Z Z Z) Z (A2 (A5 Z Z) Z (A6 ?_)))
 refine k1 (k2 ?_)
 refine A3 (A2 (C1 Z Z Z) Z (B7 (ctitle_ok c (by omega)) Z Z Z ?_)); rintro _ rfl; refine A2 (C6 Z) Z (A2 (A5 Z Z) Z (A6 ?_))
 refine k1 (k2 (k2 ?_))
 refine A3 (A2 (A7 Z) Z (A2 (B0 Z Z Z) Z (A2 (I2 Z (.pure _ _ _ _)) Z (A2 (A4 Z Z) Z (A6 ?_)))))
 refine k1 (k3 ?_)
 refine E0 (X := Nat) (fun k => ([(1, .s (.one (.ref 1 0))), (3, C3 (cTo c k).length), (12, F4 CHunk 2 J7 c.Hunks), (13, C3 c.Hunks.length), (14, C3 k)], [(1, r9 c)])) (fun k => k ≤ c.Hunks.length) (fun k => c.Hunks.length - k) 0 (Nat.zero_le _) (by rw [cTo_zero]; exact Sees.of ⟨le1 rfl, le1 rfl, le1 rfl, le1 rfl, le1 rfl, trivial⟩ ⟨rfl, trivial⟩) ?_
 intro k hk
 dsimp only at hk ⊢
 have hck := hct k
 refine k2 ?_
 refine A3 (A2 (D5 Z Z) Z (A6 ?_))
 refine k1 (k2 ?_)
 refine B2 rfl (fun ht => ?_) (fun ht => ?_)
 ·have hlt : k < c.Hunks.length := by have := A0 ht; omega
  have hv : c.Hunks[k]? = some c.Hunks[k] := by simp [hlt]
  have hmem := List.getElem_mem hlt
  have hrw := h4 _ hmem
  have hat := h5 _ hmem
  have hzm := q8 hmem
  have hsucc := hcs k hlt
  obtain ⟨h, hx⟩ : ∃ x, x = c.Hunks[k] := ⟨_, rfl⟩
  rw [← hx] at hv hrw hat hzm hsucc
  have hz1 := S2 h.Rows
  have hz2 := szRow_text h.Rows
  unfold s8 at hzm
  have hh := cheader_ok h n hn hrw (by omega) hat.1 hat.2
  rw [← hNc] at hh
  have hhl := headC_len hn h
  obtain ⟨base, hbase⟩ : ∃ base, base = (cTo c k).length := ⟨_, rfl⟩
  have hcl := congrArg List.length hsucc
  rw [List.length_append, chunk_rTo, List.length_append, ← hbase] at hcl
  rw [← hbase] at hck ⊢
  obtain ⟨hd, hhd⟩ : ∃ hd, hd = O8 n h ++ [10] := ⟨_, rfl⟩
  have hdl : hd.length ≤ 926 := by rw [hhd, List.length_append]; simp only [List.length_cons, List.length_nil]; omega
  rw [← hhd] at hh hcl
  refine k5 (k1 (k2 (k3 (k2 ?_))))
  refine A3 (A2 (B8 Z (.pure _ _ _ _) Z (by omega) hv) Z (A2 (H2 Z Z) Z (C0 (F0 5 Z) Z (D7 (B6 TySz.out Z Z Z Z Z Z) (A6 ?_)))))
  refine k1 (k2 ?_)
  refine A3 (A2 (A4 Z Z) Z (A2 (C1 Z Z Z) Z (A2 (A7 Z) Z (A2 (B0 Z Z Z) Z (B7 (hh) Z Z Z ?_))))); rintro _ rfl; refine A2 (C6 Z) Z (A2 (B9 Z Z (by omega)) Z (A2 (A5 Z Z) Z (A6 ?_)))
  refine k1 (k2 ?_)
  refine A3 (A2 (A7 Z) Z (A2 (B0 Z Z Z) Z (A2 (I2 Z (.pure _ _ _ _)) Z (A2 (A4 Z Z) Z (A6 ?_)))))
  refine k1 (k3 ?_)
  refine E0 (X := Nat) (fun j => ([(1, .s (.one (.ref 1 0))), (3, C3 (base + hd.length + (rTo n h.Rows j).length : Nat)), (12, F4 CHunk 2 J7 c.Hunks), (13, C3 c.Hunks.length), (14, C3 k), (26, F4 Row 3 rowC h.Rows), (27, C3 h.Rows.length), (28, C3 j)], [(1, r9 c)])) (fun j => j ≤ h.Rows.length) (fun j => h.Rows.length - j) 0 (Nat.zero_le _) ?_ ?_
  ·have e : ((base + hd.length + (rTo n h.Rows 0).length : Nat) : Int) = (base : Int) + (hd.length : Int) := by rw [rTo_zero]; simp
   rw [e]
   exact Sees.of ⟨le1 rfl, le1 rfl, le1 rfl, le1 rfl, le1 rfl, le1 rfl, le1 rfl, le1 rfl, trivial⟩ ⟨rfl, trivial⟩
  intro j hj
  dsimp only at hj ⊢
  have hrl := rTo_len hn h.Rows j
  refine k2 ?_
  refine A3 (A2 (D5 Z Z) Z (A6 ?_))
  refine k1 (k2 ?_)
  refine B2 rfl (fun ht => ?_) (fun ht => ?_)
  ·have hlt2 : j < h.Rows.length := by have := A0 ht; omega
   have hv2 : h.Rows[j]? = some h.Rows[j] := by simp [hlt2]
   have hrm := szRow_mem (List.getElem_mem hlt2)
   have hsucc2 := rTo_succ n h.Rows j hlt2
   obtain ⟨r, hy⟩ : ∃ x, x = h.Rows[j] := ⟨_, rfl⟩
   rw [← hy] at hv2 hrm hsucc2
   have hrm : r.Text.length + 96 ≤ (h.Rows.map N0).sum := hrm
   have hl2 := congrArg List.length hsucc2
   have hml := Q7 n r
   rw [List.length_append, rowPs_flat, List.length_append, List.length_append, hml] at hl2
   refine k5 (k1 (k2 (k3 (k2 ?_))))
   refine A3 (A2 (B8 Z (.pure _ _ _ _) Z (by omega) hv2) Z (A2 (H2 Z Z) Z (C0 (F0 7 Z) Z (D7 (B6 TySz.out Z Z Z Z Z Z) (A6 ?_)))))
   refine k1 (k2 ?_)
   refine A3 (A2 (A4 Z Z) Z (A2 (A7 Z) Z (A2 (B0 Z Z Z) Z (A2 (A7 Z) Z (A2 (B0 Z Z Z) Z (A2 (C6 Z) Z (A2 (B9 Z Z (by omega)) Z (A2 (B9 Z Z (by omega)) Z (A2 (A5 Z Z) Z (A6 ?_))))))))))
   refine k1 (k2 ?_)
   refine A3 (A2 (A7 Z) Z (A2 (B0 Z Z Z) Z (B7 (tended_ok r.Text (by omega)) Z Z Z ?_))); rintro _ rfl; refine A2 (D3 Z) Z (A6 ?_)
   refine k1 ?_
   refine B2 rfl (fun ht => ?_) (fun ht => ?_)
   ·have h2 : ended r.Text = false := by simpa using ht
    rw [h2, if_neg (by decide), hm29] at hl2
    have e : ((base + hd.length + (rTo n h.Rows (j + 1)).length : Nat) : Int) = ((base + hd.length + (rTo n h.Rows j).length : Nat) : Int) + (c.Parents + (r.Text.length : Int)) + 29 := by omega
    skip
    refine A3 (A2 (A4 Z Z) Z (A2 (B9 Z Z (by omega)) Z (A2 (A5 Z Z) Z (A6 ?_))))
    refine k4 (k1 ?_)
    refine A3 (A2 (B9 Z Z (by omega)) Z (A2 (A4 Z Z) Z (A6 ?_)))
    refine k1 ?_
    refine ⟨j + 1, by omega, by omega, ?_⟩
    rw [e]
    exact Sees.of ⟨le1 rfl, le1 rfl, le1 rfl, le1 rfl, le1 rfl, le1 rfl, le1 rfl, le1 rfl, trivial⟩ ⟨rfl, trivial⟩
   ·have h2 : ended r.Text = true := by simpa using ht
    rw [if_pos h2, List.length_nil] at hl2
    have e : ((base + hd.length + (rTo n h.Rows (j + 1)).length : Nat) : Int) = ((base + hd.length + (rTo n h.Rows j).length : Nat) : Int) + (c.Parents + (r.Text.length : Int)) := by omega
    refine k5 (k4 (k1 ?_))
    refine A3 (A2 (B9 Z Z (by omega)) Z (A2 (A4 Z Z) Z (A6 ?_)))
    refine k1 ?_
    refine ⟨j + 1, by omega, by omega, ?_⟩
    rw [e]
    exact Sees.of ⟨le1 rfl, le1 rfl, le1 rfl, le1 rfl, le1 rfl, le1 rfl, le1 rfl, le1 rfl, trivial⟩ ⟨rfl, trivial⟩
  ·have hjl : j = h.Rows.length := by have := A1 ht; omega
   subst hjl
   have e : base + hd.length + (rTo n h.Rows h.Rows.length).length = (cTo c (k + 1)).length := by omega
   rw [e]
   refine k6 (k7 (k7 (k8 Z (k4 (k1 ?_)))))
   refine A3 (A2 (B9 Z Z (by omega)) Z (A2 (A4 Z Z) Z (A6 ?_)))
   refine k1 ?_
   exact ⟨k + 1, by omega, by omega, Sees.of ⟨le1 rfl, le1 rfl, le1 rfl, le1 rfl, le1 rfl, trivial⟩ ⟨rfl, trivial⟩⟩
 ·have hkl : k = c.Hunks.length := by have := A1 ht; omega
  subst hkl
  rw [cTo_full]
  refine k6 (k2 ?_)
  refine A3 (A2 (A4 Z Z) Z (A2 (A5 Z Z) Z (A6 ?_)))
  refine k1 (k10 ?_)
  exact B5 (F3 rfl rfl rfl) rfl
theorem check_fit {c : Comb} (hp : c.Path.length ≤ 4194304) (hn : 1 ≤ c.Parents ∧ c.Parents ≤ 32) (hz : szC c.Hunks ≤ 268435456) (hr : ∀ h ∈ c.Hunks, L0 h.Rows) (hg : M8 c.Parents.toNat c.Hunks = true) : CFit c := by
 refine ⟨by omega, hp, hz, hr, fun h hm => ?_⟩
 unfold M8 at hg
 rw [Bool.and_eq_true] at hg
 obtain ⟨a1, a2, a3⟩ := chunks_go c.Hunks _ (fun k hk => by rw [List.getD_eq_getElem?_getD, List.getElem?_replicate_of_lt hk]; exact Int.le_refl _) hg.1 h hm
 refine ⟨a1, fun a ha => ?_⟩
 obtain ⟨k, hk, rfl⟩ := List.getElem_of_mem ha
 have h1 := a3 k (by omega)
 have h2 := cnt_le h.Rows c.Parents.toNat k
 have e : h.At.getD k 0 = h.At[k] := by rw [List.getD_eq_getElem?_getD, List.getElem?_eq_getElem hk]; rfl
 rw [e] at h1
 omega
theorem ccheck_ok (c : Comb) (hz : szC c.Hunks ≤ 268435456) (hr : ∀ h ∈ c.Hunks, L0 h.Rows) : FnOk Tryz.prog 43 [I7 c] (fun rs => rs = [E2 (G6 c)]) := by
 refine FnOk.intro Tryz.func43 (by decide) Z Z Z Z ?_
 refine k2 ?_
 refine A3 (C0 (R0 1 Z Z Z) Z (A2 (A5 Z Z) Z (A6 ?_)))
 refine k1 (k2 (k3 (k2 ?_)))
 refine A3 (A2 (A7 Z) Z (A2 (B0 Z Z Z) Z (B7 (cnamed_ok c.Path) Z Z Z ?_))); rintro _ rfl; refine A2 (D3 Z) Z (A2 (A5 Z Z) Z (A6 ?_))
 refine k1 ?_
 refine B2 rfl (fun ht => ?_) (fun ht => ?_)
 ·have h : d9 c.Path = false := by simpa using ht
  refine k2 ?_
  refine A3 (A2 (A5 Z Z) Z (A6 ?_))
  refine k1 (k10 (k12 (k11 ?_)))
  exact B5 (F3 rfl rfl rfl) (by unfold G6; rw [if_pos h])
 have h : d9 c.Path = true := by simpa using ht
 have hpl := A0 h
 refine k2 ?_
 refine A3 (A2 (A7 Z) Z (A2 (B0 Z Z Z) Z (A2 (D5 Z Z) Z (A2 (A4 Z Z) Z (A8 Z Z Z Z (fun hg => by rw [hg]; exact A7 Z) ?_))))); refine A8 Z Z Z Z (fun hg => by rw [hg]; exact B0 Z Z Z) ?_; refine A8 Z Z Z Z (fun hg => by rw [hg]; exact M7 Z Z) ?_; refine A2 (B3 Z (fun h => by first | rfl | (rw [h]; rfl)) (fun h => by first | rfl | (rw [h]; rfl))) Z ?_; refine A2 (A5 Z Z) Z (A6 ?_)
 refine k1 ?_
 refine B2 rfl (fun ht => ?_) (fun ht => ?_)
 ·have h1 := A0 (or_pick.symm.trans ht)
  refine k2 ?_
  refine A3 (A2 (A5 Z Z) Z (A6 ?_))
  refine k1 (k10 (k12 (k11 ?_)))
  exact B5 (F3 rfl rfl rfl) (by unfold G6; rw [if_neg (by rw [h]; decide), if_pos (by omega)])
 have h1 := A1 (or_pick.symm.trans ht)
 have hn : 1 ≤ c.Parents ∧ c.Parents ≤ 32 := by omega
 refine k2 ?_
 refine A3 (A2 (C1 Z Z Z) Z (B7 (cmarked_ok c hn hr hz) Z Z Z ?_)); rintro _ rfl; refine A2 (D3 Z) Z (A2 (A5 Z Z) Z (A6 ?_))
 refine k1 ?_
 refine B2 rfl (fun ht => ?_) (fun ht => ?_)
 ·have h2 : S6 c.Parents.toNat c.Hunks = false := by simpa using ht
  refine k2 ?_
  refine A3 (A2 (A5 Z Z) Z (A6 ?_))
  refine k1 (k10 (k12 (k11 ?_)))
  exact B5 (F3 rfl rfl rfl) (by unfold G6; rw [if_neg (by rw [h]; decide), if_neg (by omega), if_pos h2])
 have h2 : S6 c.Parents.toNat c.Hunks = true := by simpa using ht
 have hw := cwell_ok c hn hr hz
 rw [well_chunks (by omega) h2] at hw
 refine k2 ?_
 refine A3 (A2 (C1 Z Z Z) Z (B7 (hw) Z Z Z ?_)); rintro _ rfl; refine A2 (D3 Z) Z (A2 (A5 Z Z) Z (A6 ?_))
 refine k1 ?_
 refine B2 rfl (fun ht => ?_) (fun ht => ?_)
 ·have h3 : M8 c.Parents.toNat c.Hunks = false := by simpa using ht
  refine k2 ?_
  refine A3 (A2 (A5 Z Z) Z (A6 ?_))
  refine k1 (k10 (k12 (k11 ?_)))
  exact B5 (F3 rfl rfl rfl) (by unfold G6; rw [if_neg (by rw [h]; decide), if_neg (by omega), if_neg (by rw [h2]; decide), if_pos h3])
 have h3 : M8 c.Parents.toNat c.Hunks = true := by simpa using ht
 refine k2 ?_
 refine A3 (A2 (C1 Z Z Z) Z (B7 (csize_ok c (check_fit (by omega) hn hz hr h3)) Z Z Z ?_)); rintro _ rfl; refine A2 (M7 Z Z) Z (A2 (A5 Z Z) Z (A6 ?_))
 refine k1 ?_
 refine B2 rfl (fun ht => ?_) (fun ht => ?_)
 ·have h4 := A0 ht
  refine k2 ?_
  refine A3 (A2 (A5 Z Z) Z (A6 ?_))
  refine k1 (k10 (k12 (k11 ?_)))
  exact B5 (F3 rfl rfl rfl) (by unfold G6; rw [if_neg (by rw [h]; decide), if_neg (by omega), if_neg (by rw [h2]; decide), if_neg (by rw [h3]; decide), if_pos (by omega)])
 have h4 := A1 ht
 refine k5 (k2 ?_)
 refine A3 (A2 (A5 Z Z) Z (A6 ?_))
 refine k1 (k10 ?_)
 exact B5 (F3 rfl rfl rfl) (by unfold G6; rw [if_neg (by rw [h]; decide), if_neg (by omega), if_neg (by rw [h2]; decide), if_neg (by rw [h3]; decide), if_neg (by omega)])
theorem check0_fit {c : Comb} (h : G6 c = 0) (hz : szC c.Hunks ≤ 268435456) (hr : ∀ h ∈ c.Hunks, L0 h.Rows) : CFit c := by
 obtain ⟨h1, h2, h3, h4, h5⟩ := n6 h
 have hp := A0 h5
 have hg : M8 c.Parents.toNat c.Hunks = true := by
  cases hb : M8 c.Parents.toNat c.Hunks with
  | true => rfl
  | false =>
   exfalso
   unfold G6 at h
   rw [hb] at h
   rw [if_neg (by rw [h5]; decide), if_neg (by omega)] at h
   split at h
   ·cases h
   ·cases h
 exact check_fit (by omega) (by omega) hz hr hg
theorem cformat_ok (c : Comb) (hz : szC c.Hunks ≤ 268435456) (hr : ∀ h ∈ c.Hunks, L0 h.Rows) : FnOk Tryz.prog 42 [I7 c] (fun rs => rs = if G6 c = 0 then [E6 (N7 c), E2 0] else [E6 [], E2 (G6 c)]) := by
 by_cases hck : G6 c = 0
 rotate_left
 ·rw [if_neg hck]
  refine FnOk.intro Tryz.func42 (by decide) Z Z Z Z ?_
  refine k2 ?_
  refine A3 (C0 (R0 1 Z Z Z) Z (A2 (A5 Z Z) Z (A2 (A5 Z Z) Z (A6 ?_))))
  refine k1 (k2 (k2 ?_))
  refine A3 (A2 (C1 Z Z Z) Z (B7 (ccheck_ok c hz hr) Z Z Z ?_)); rintro _ rfl; refine A2 (A5 Z Z) Z (A6 ?_)
  refine k1 (k2 ?_)
  refine A3 (A2 (A4 Z Z) Z (A2 (O7 Z Z) Z (A6 ?_)))
  refine k1 ?_
  refine B2 rfl (fun ht => ?_) (fun ht => ?_)
  rotate_left
  ·exact absurd (Decidable.not_not.1 (A1 ht)) hck
  refine k2 ?_
  refine A3 (A2 (A4 Z Z) Z (A2 (A5 Z Z) Z (A2 (A5 Z Z) Z (A6 ?_))))
  refine k1 (k10 (k11 ?_))
  exact B5 (j3 rfl rfl rfl rfl rfl) rfl
 rw [if_pos hck]
 have hcc := ccheck_ok c hz hr
 rw [hck] at hcc
 obtain ⟨h1, h2, _, h4, h5⟩ := check0_fit hck hz hr
 have hzl := j7 c.Hunks
 obtain ⟨n, hN⟩ : ∃ n, n = c.Parents.toNat := ⟨_, rfl⟩
 have hNc : c.Parents = (n : Int) := by omega
 have hn : n ≤ 32 := by omega
 have hct := fun k => cTo_len c (by omega) k
 have hcs := fun k h => cTo_succ c k h
 rw [← hN] at h5 hcs
 refine FnOk.intro Tryz.func42 (by decide) Z Z Z Z ?_
 refine k2 ?_
 refine A3 (C0 (R0 1 Z Z Z) Z (A2 (A5 Z Z) Z (A2 (A5 Z Z) Z (A6 ?_))))
 refine k1 (k2 (k2 ?_))
 refine A3 (A2 (C1 Z Z Z) Z (B7 (hcc) Z Z Z ?_)); rintro _ rfl; refine A2 (A5 Z Z) Z (A6 ?_)
 refine k1 (k2 ?_)
 refine A3 (A2 (A4 Z Z) Z (A2 (O7 Z Z) Z (A6 ?_)))
 refine k1 ?_
 refine B2 rfl (fun ht => ?_) (fun ht => ?_)
 ·cases ht
 refine k5 (k1 (k2 ?_))
 refine A3 (C0 (f_allocT 700 Z) Z (A6 ?_))
 refine k1 (k2 ?_)
 refine F6 (Sees.adoptT 701 UInt8 1 u8C 5 (kb := 700) (o := 1) Z Z Z) ?_
 have hct0 := hct 0
 rw [cTo_zero] at hct0
 refine A3 (A2 (C1 Z Z Z) Z (B7 (ctitle_ok c (by omega)) Z Z Z ?_)); rintro _ rfl; refine R7 (M6 (xs := []) (s := titleS c) ⟨⟨_, .inl rfl, rfl⟩, rfl⟩ (by simp only [List.length_nil]; omega)) Z Z Z ?_; rintro _ _ ⟨rfl, rfl⟩; refine A6 ?_
 refine k1 (k2 (k2 ?_))
 refine A3 (A2 (A7 Z) Z (A2 (B0 Z Z Z) Z (A2 (I2 Z (.pure _ _ _ _)) Z (A2 (A4 Z Z) Z (A6 ?_)))))
 refine k1 (k3 ?_)
 refine E0 (X := Nat) (fun k => ([(1, .s (.one (.ref 1 0))), (5, .s (.one (.ref 700 0))), (19, F4 CHunk 2 J7 c.Hunks), (20, C3 c.Hunks.length), (21, C3 k)], [(1, r9 c), (700, .tbx 144 [.ref 700 0, .buf 701 UInt8 1 u8C (cTo c k)]), (701, .spare (cTo c k).length 1 5)])) (fun k => k ≤ c.Hunks.length) (fun k => c.Hunks.length - k) 0 (Nat.zero_le _) (by rw [cTo_zero]; exact Sees.of ⟨le1 rfl, le1 rfl, le1 rfl, le1 rfl, le1 rfl, trivial⟩ ⟨rfl, rfl, rfl, trivial⟩) ?_
 intro k hk
 dsimp only at hk ⊢
 have hck := hct k
 refine k2 ?_
 refine A3 (A2 (D5 Z Z) Z (A6 ?_))
 refine k1 (k2 ?_)
 refine B2 rfl (fun ht => ?_) (fun ht => ?_)
 ·have hlt : k < c.Hunks.length := by have := A0 ht; omega
  have hv : c.Hunks[k]? = some c.Hunks[k] := by simp [hlt]
  have hmem := List.getElem_mem hlt
  have hrw := h4 _ hmem
  have hat := h5 _ hmem
  have hzm := q8 hmem
  have hsucc := hcs k hlt
  obtain ⟨h, hx⟩ : ∃ x, x = c.Hunks[k] := ⟨_, rfl⟩
  rw [← hx] at hv hrw hat hzm hsucc
  have hz1 := S2 h.Rows
  have hz2 := szRow_text h.Rows
  unfold s8 at hzm
  have hh := cheader_ok h n hn hrw (by omega) hat.1 hat.2
  rw [← hNc] at hh
  have hhl := headC_len hn h
  obtain ⟨base, hbase⟩ : ∃ base, base = cTo c k := ⟨_, rfl⟩
  rw [chunk_rTo, ← hbase] at hsucc
  rw [← hbase] at hck ⊢
  obtain ⟨hd, hhd⟩ : ∃ hd, hd = O8 n h ++ [10] := ⟨_, rfl⟩
  have hdl : hd.length ≤ 926 := by rw [hhd, List.length_append]; simp only [List.length_cons, List.length_nil]; omega
  rw [← hhd] at hh hsucc
  refine k5 (k1 (k2 (k3 (k2 ?_))))
  refine A3 (A2 (B8 Z (.pure _ _ _ _) Z (by omega) hv) Z (A2 (H2 Z Z) Z (C0 (F0 7 Z) Z (D7 (B6 TySz.out Z Z Z Z Z Z) (A6 ?_)))))
  refine k1 (k2 ?_)
  refine A3 (A2 (C1 Z Z Z) Z (A2 (A7 Z) Z (A2 (B0 Z Z Z) Z (B7 (hh) Z Z Z ?_)))); rintro _ rfl; refine R7 (M6 (xs := base) (s := hd) ⟨⟨_, .inr rfl, rfl⟩, rfl⟩ (by omega)) Z Z Z ?_; rintro _ _ ⟨rfl, rfl⟩; refine A6 ?_
  refine k1 (k2 ?_)
  refine A3 (A2 (A7 Z) Z (A2 (B0 Z Z Z) Z (A2 (I2 Z (.pure _ _ _ _)) Z (A2 (A4 Z Z) Z (A6 ?_)))))
  refine k1 (k3 ?_)
  refine E0 (X := Nat) (fun j => ([(1, .s (.one (.ref 1 0))), (5, .s (.one (.ref 700 0))), (19, F4 CHunk 2 J7 c.Hunks), (20, C3 c.Hunks.length), (21, C3 k), (31, F4 Row 3 rowC h.Rows), (32, C3 h.Rows.length), (33, C3 j)], [(1, r9 c), (700, .tbx 144 [.ref 700 0, .buf 701 UInt8 1 u8C (base ++ hd ++ rTo n h.Rows j)]), (701, .spare (base ++ hd ++ rTo n h.Rows j).length 1 5)])) (fun j => j ≤ h.Rows.length) (fun j => h.Rows.length - j) 0 (Nat.zero_le _) ?_ ?_
  ·rw [rTo_zero, List.append_nil]
   exact Sees.of ⟨le1 rfl, le1 rfl, le1 rfl, le1 rfl, le1 rfl, le1 rfl, le1 rfl, le1 rfl, trivial⟩ ⟨rfl, rfl, rfl, trivial⟩
  intro j hj
  dsimp only at hj ⊢
  have hrl := rTo_len hn h.Rows j
  refine k2 ?_
  refine A3 (A2 (D5 Z Z) Z (A6 ?_))
  refine k1 (k2 ?_)
  refine B2 rfl (fun ht => ?_) (fun ht => ?_)
  ·have hlt2 : j < h.Rows.length := by have := A0 ht; omega
   have hv2 : h.Rows[j]? = some h.Rows[j] := by simp [hlt2]
   have hmem2 := List.getElem_mem hlt2
   have hrm := szRow_mem hmem2
   have hmm := hrw _ hmem2
   have hsucc2 := rTo_succ n h.Rows j hlt2
   obtain ⟨r, hy⟩ : ∃ x, x = h.Rows[j] := ⟨_, rfl⟩
   rw [← hy] at hv2 hrm hsucc2 hmm
   have hrp := rowPs_len hn r
   have hrk := crow_ok r n hn hmm (by have hrm : r.Text.length + 96 ≤ (h.Rows.map N0).sum := hrm; omega)
   rw [← hNc] at hrk
   obtain ⟨bs, hbs⟩ : ∃ bs, bs = base ++ hd ++ rTo n h.Rows j := ⟨_, rfl⟩
   have hbl : bs.length ≤ 16777216 + 48 + 268435456 + 926 + 268435456 := by rw [hbs, List.length_append, List.length_append]; omega
   rw [← hbs]
   refine k5 (k1 (k2 (k3 (k2 ?_))))
   refine A3 (A2 (B8 Z (.pure _ _ _ _) Z (by omega) hv2) Z (A2 (H2 Z Z) Z (C0 (F0 9 Z) Z (D7 (B6 TySz.out Z Z Z Z Z Z) (A6 ?_)))))
   refine k1 ?_
   refine A3 (A2 (C1 Z Z Z) Z (A2 (A7 Z) Z (A2 (B0 Z Z Z) Z (B7 (hrk) Z Z Z ?_)))); rintro _ rfl; refine R7 (M6 (xs := bs) (s := (P8 n r).flatten) ⟨⟨_, .inr rfl, rfl⟩, rfl⟩ (by omega)) Z Z Z ?_; rintro _ _ ⟨rfl, rfl⟩; refine A6 ?_
   refine k4 (k1 ?_)
   refine A3 (A2 (B9 Z Z (by omega)) Z (A2 (A4 Z Z) Z (A6 ?_)))
   refine k1 ?_
   refine ⟨j + 1, by omega, by omega, ?_⟩
   rw [hsucc2, ← List.append_assoc, ← hbs]
   exact Sees.of ⟨le1 rfl, le1 rfl, le1 rfl, le1 rfl, le1 rfl, le1 rfl, le1 rfl, le1 rfl, trivial⟩ ⟨rfl, rfl, rfl, trivial⟩
  ·have hjl : j = h.Rows.length := by have := A1 ht; omega
   subst hjl
   have e : base ++ hd ++ rTo n h.Rows h.Rows.length = cTo c (k + 1) := by rw [hsucc, List.append_assoc]
   rw [e]
   refine k6 (k7 (k7 (k8 Z (k4 (k1 ?_)))))
   refine A3 (A2 (B9 Z Z (by omega)) Z (A2 (A4 Z Z) Z (A6 ?_)))
   refine k1 ?_
   exact ⟨k + 1, by omega, by omega, Sees.of ⟨le1 rfl, le1 rfl, le1 rfl, le1 rfl, le1 rfl, trivial⟩ ⟨rfl, rfl, rfl, trivial⟩⟩
 ·have hkl : k = c.Hunks.length := by have := A1 ht; omega
  subst hkl
  rw [cTo_full]
  refine k6 (k2 ?_)
  refine A3 (l_bstring (k := 700) (k' := 701) ⟨_, rfl, rfl, rfl⟩ r8 Z Z Z Z Z (.inr Z) Z (A2 (A5 Z Z) Z (A2 (A5 Z Z) Z (A6 ?_))))
  refine k1 (k10 ?_)
  exact B5 (j3 rfl rfl rfl rfl rfl) rfl
def rowR (s : Str) (n : Int) : List PV := match Z1 s n with
 | some r => [pRow r, C4 true]
 | none => [pRow ⟨false, 0, []⟩, C4 false]
theorem U4 {s : Str} {n : Int} (h : Z1 s n = none) : rowR s n = [pRow ⟨false, 0, []⟩, C4 false] := by unfold rowR; rw [h]
theorem u7 {s : Str} {n : Int} {r : Row} (h : Z1 s n = some r) : rowR s n = [pRow r, C4 true] := by unfold rowR; rw [h]
theorem pRow_ok (s : Str) (n : Int) : FnOk Tryz.prog 40 [E6 s, E2 n] (fun rs => rs = rowR s n) := by
 refine FnOk.intro Tryz.func40 (by decide) Z Z Z Z ?_
 refine k2 ?_
 refine A3 (C0 (F0 4 Z) Z (A2 (A5 Z Z) Z (A6 ?_)))
 refine k1 (k2 (k2 ?_))
 refine A3 (A2 (A4 Z Z) Z (A2 (D5 Z Z) Z (A2 (A4 Z Z) Z (A8 Z Z Z Z (fun hg => by rw [hg]; exact A4 Z Z) ?_)))); refine A8 Z Z Z Z (fun hg => by rw [hg]; exact M7 Z Z) ?_; refine A2 (B3 Z (fun h => by first | rfl | (rw [h]; rfl)) (fun h => by first | rfl | (rw [h]; rfl))) Z ?_; refine A2 (A4 Z Z) Z (A8 Z Z Z Z (fun hg => by rw [hg]; exact A4 Z Z) ?_); refine A8 Z Z Z Z (fun hg => by rw [hg]; exact C6 Z) ?_; refine A8 Z Z Z Z (fun hg => by rw [hg]; exact A4 Z Z) ?_; refine A8 Z Z Z Z (fun hg => by rw [hg]; exact D5 Z Z) ?_; refine A2 (B3 Z (fun h => by first | rfl | (rw [h]; rfl)) (fun h => by first | rfl | (rw [h]; rfl))) Z ?_; refine A6 ?_
 refine k1 ?_
 refine B2 rfl (fun ht => ?_) (fun ht => ?_)
 ·simp only [or_pick] at ht
  have h := A0 ht
  refine k2 ?_
  refine A3 (A2 (H3 Z) Z (D7 (B6 TySz.out Z Z Z Z Z Z) (A2 (A5 Z Z) Z (A6 ?_))))
  refine k1 (k10 (k11 ?_))
  exact B5 (rs := [pRow ⟨false, 0, []⟩, C4 false]) (O1 rfl rfl rfl rfl rfl rfl rfl) (U4 (rowI_no (by omega))).symm
 simp only [or_pick] at ht
 have h := A1 ht
 obtain ⟨N, rfl⟩ : ∃ N : Nat, n = N := ⟨n.toNat, by omega⟩
 have hN1 : 1 ≤ N ∧ N ≤ 32 := by omega
 have hN2 : N ≤ s.length := by omega
 refine T3 [(0, F9 s), (1, C3 N), (4, .s (.one (.ref 4 0)))] [(4, .box (pRow ⟨false, 0, []⟩).s1.cells)] (Sees.of ⟨le1 rfl, le1 rfl, le1 rfl, trivial⟩ ⟨rfl, trivial⟩) ?_
 refine k5 (k1 (k2 ?_))
 refine A3 (A2 (A5 Z Z) Z (A2 (A5 Z Z) Z (A6 ?_)))
 refine k1 (k2 (k2 ?_))
 refine A3 (A2 (A4 Z Z) Z (A2 (A4 Z Z) Z (A6 ?_)))
 refine k1 (k3 ?_)
 refine E0 (X := Nat) (fun p => ([(0, F9 s), (1, C3 N), (4, .s (.one (.ref 4 0))), (6, H1 (.int .u32 (E7 43 s p : Nat))), (7, H1 (.int .u32 (E7 45 s p : Nat))), (22, C3 N), (23, C3 p)], [(4, .box (pRow ⟨false, 0, []⟩).s1.cells)])) (fun p => p ≤ N ∧ (s.take p).all Z3 = true) (fun p => N - p) 0 ⟨Nat.zero_le _, rfl⟩ (Sees.of ⟨le1 rfl, le1 rfl, le1 rfl, le1 rfl, le1 rfl, le1 rfl, le1 rfl, trivial⟩ ⟨rfl, trivial⟩) ?_
 rintro p ⟨hp, hq⟩
 dsimp only at hp hq ⊢
 have hl3 := bits_lt 43 s p
 have hl5 := bits_lt 45 s p
 refine k2 ?_
 refine A3 (A2 (D5 Z Z) Z (A6 ?_))
 refine k1 (k2 ?_)
 refine B2 rfl (fun ht => ?_) (fun ht => ?_)
 ·have hlt : p < N := by have := A0 ht; omega
  have hv : s[p]? = some s[p] := by simp
  have hst3 := bits_step hv 43
  have hst5 := bits_step hv 45
  have hsg := sign_step hv
  rw [hq, Bool.true_and] at hsg
  have hsh := shl_nat p (by omega)
  have ho3 := or_bit hl3 (by omega)
  have ho5 := or_bit hl5 (by omega)
  have hno : Z3 s[p] = false → (s.take N).all Z3 = false := fun hc => sign_no hlt hv hc
  obtain ⟨c, hcc⟩ : ∃ c, c = s[p] := ⟨_, rfl⟩
  rw [← hcc] at hv hst3 hst5 hsg hno
  refine k5 (k1 (k2 (k3 (k2 ?_))))
  refine A3 (A2 (A4 Z Z) Z (A2 (A5 Z Z) Z (A6 ?_)))
  refine k1 (k2 ?_)
  refine A3 (A2 (A4 Z Z) Z (A2 (A4 Z Z) Z (A2 (D6 Z Z (by omega) hv) Z (A6 ?_))))
  refine k1 (k3 (k2 ?_))
  refine A3 (A2 (E8 Z Z) Z (A2 (A5 Z Z) Z (A6 ?_)))
  refine k1 ?_
  refine B2 rfl (fun ht => ?_) (fun ht => ?_)
  ·have hc : c = 43 := by simpa only [ke43, decide_eq_true_eq] using ht
   rw [if_pos hc] at hst3
   rw [if_neg (by rw [hc]; decide), Nat.add_zero (E7 45 s p)] at hst5
   skip
   refine A3 (A2 (A4 Z Z) Z (A2 (A4 Z Z) Z (A2 (n_shl Z Z (by omega)) Z (A2 (X1 Z Z Z (fun _ => rfl)) Z (A2 (A5 Z Z) Z (A6 ?_))))))
   refine k4 (k4 (k1 ?_))
   refine A3 (A2 (B9 Z Z (by omega)) Z (A2 (A4 Z Z) Z (A6 ?_)))
   refine k1 ?_
   refine ⟨p + 1, ⟨by omega, by rw [hsg, hc]; rfl⟩, by omega, ?_⟩
   rw [hst3, hst5, ← ho3, ← hsh]
   exact Sees.of ⟨le1 rfl, le1 rfl, le1 rfl, le1 rfl, le1 rfl, le1 rfl, le1 rfl, trivial⟩ ⟨rfl, trivial⟩
  have hc3 : c ≠ 43 := by simpa only [ke43, decide_eq_false_iff_not] using ht
  rw [if_neg hc3, Nat.add_zero (E7 43 s p)] at hst3
  refine k2 ?_
  refine A3 (A2 (E8 Z Z) Z (A2 (A5 Z Z) Z (A6 ?_)))
  refine k1 ?_
  refine B2 rfl (fun ht => ?_) (fun ht => ?_)
  ·have hc : c = 45 := by simpa only [ke45, decide_eq_true_eq] using ht
   rw [if_pos hc] at hst5
   skip
   refine A3 (A2 (A4 Z Z) Z (A2 (A4 Z Z) Z (A2 (n_shl Z Z (by omega)) Z (A2 (X1 Z Z Z (fun _ => rfl)) Z (A2 (A5 Z Z) Z (A6 ?_))))))
   refine k4 (k4 (k1 ?_))
   refine A3 (A2 (B9 Z Z (by omega)) Z (A2 (A4 Z Z) Z (A6 ?_)))
   refine k1 ?_
   refine ⟨p + 1, ⟨by omega, by rw [hsg, hc]; rfl⟩, by omega, ?_⟩
   rw [hst3, hst5, ← ho5, ← hsh]
   exact Sees.of ⟨le1 rfl, le1 rfl, le1 rfl, le1 rfl, le1 rfl, le1 rfl, le1 rfl, trivial⟩ ⟨rfl, trivial⟩
  have hc5 : c ≠ 45 := by simpa only [ke45, decide_eq_false_iff_not] using ht
  rw [if_neg hc5, Nat.add_zero (E7 45 s p)] at hst5
  refine k2 ?_
  refine A3 (A2 (E8 Z Z) Z (A2 (A5 Z Z) Z (A6 ?_)))
  refine k1 ?_
  refine B2 rfl (fun ht => ?_) (fun ht => ?_)
  ·have hc : c = 32 := by simpa only [ke32, decide_eq_true_eq] using ht
   refine k5 (k4 (k4 (k1 ?_)))
   refine A3 (A2 (B9 Z Z (by omega)) Z (A2 (A4 Z Z) Z (A6 ?_)))
   refine k1 ?_
   refine ⟨p + 1, ⟨by omega, by rw [hsg, hc]; rfl⟩, by omega, ?_⟩
   rw [hst3, hst5]
   exact Sees.of ⟨le1 rfl, le1 rfl, le1 rfl, le1 rfl, le1 rfl, le1 rfl, le1 rfl, trivial⟩ ⟨rfl, trivial⟩
  have hc2 : c ≠ 32 := by simpa only [ke32, decide_eq_false_iff_not] using ht
  refine k2 ?_
  refine A3 (A2 (H3 Z) Z (D7 (B6 TySz.out Z Z Z Z Z Z) (A2 (A5 Z Z) Z (A6 ?_))))
  refine k1 (k10 (k12 (k12 (k11 (k11 (k12 (k11 ?_)))))))
  exact B5 (rs := [pRow ⟨false, 0, []⟩, C4 false]) (O1 rfl rfl rfl rfl rfl rfl rfl) (U4 (rowI_sign (hno (by unfold Z3; simp [hc2, hc3, hc5])))).symm
 ·have hpN : p = N := by have := A1 ht; omega
  subst hpN
  refine k6 (k2 (k2 ?_))
  refine A3 (A2 (A4 Z Z) Z (A2 (O7 Z Z) Z (A2 (A4 Z Z) Z (A8 Z Z Z Z (fun hg => by rw [hg]; exact A4 Z Z) ?_)))); refine A8 Z Z Z Z (fun hg => by rw [hg]; exact O7 Z Z) ?_; refine A2 (B3 Z (fun h => by first | rfl | (rw [h]; rfl)) (fun h => by first | rfl | (rw [h]; rfl))) Z ?_; refine A6 ?_
  refine k1 ?_
  refine B2 rfl (fun ht => ?_) (fun ht => ?_)
  ·simp only [I3] at ht
   have h2 := A0 ht
   refine k2 ?_
   refine A3 (A2 (H3 Z) Z (D7 (B6 TySz.out Z Z Z Z Z Z) (A2 (A5 Z Z) Z (A6 ?_))))
   refine k1 (k10 (k11 ?_))
   exact B5 (rs := [pRow ⟨false, 0, []⟩, C4 false]) (O1 rfl rfl rfl rfl rfl rfl rfl) (U4 (rowI_both (by omega))).symm
  ·simp only [I3] at ht
   have h2 := A1 ht
   have h2' : ¬ (E7 43 s p ≠ 0 ∧ E7 45 s p ≠ 0) := by omega
   have hor := bits_or hN1.2 h2'
   have hyes := rowI_yes hN1 hN2 hq h2'
   refine k5 (k1 (k2 ?_))
   refine A3 (A2 (A4 Z Z) Z (A2 (O7 Z Z) Z (A2 (A4 Z Z) Z (A2 (A4 Z Z) Z (A2 (X1 Z Z Z (fun _ => rfl)) Z (A2 (A4 Z Z) Z (A2 (A4 Z Z) Z (A2 (T9 Z Z (by omega) (by omega)) Z (A2 (H3 Z) Z (D7 (B6 TySz.out Z Z Z Z Z Z) (A2 (A5 Z Z) Z (A6 ?_))))))))))))
   refine k1 (k10 ?_)
   refine B5 (rs := [pRow ⟨decide ((E7 45 s p : Int) ≠ 0), orBit (E7 43 s p : Nat) (E7 45 s p : Nat), s.drop p⟩, C4 true]) (O1 Z Z Z Z Z Z Z) ?_
   rw [u7 hyes, hor]
   congr 3
   exact decide_eq_decide.2 (by omega)
theorem rRow_ok (s : Str) (n : Int) : FnOk Tryz.prog 41 [E6 s, E2 n] (fun rs => rs = rowR s n) := by
 refine FnOk.intro Tryz.func41 (by decide) Z Z Z Z ?_
 refine k2 ?_
 refine A3 (C0 (F0 4 Z) Z (A2 (A5 Z Z) Z (A6 ?_)))
 refine k1 (k2 (k2 ?_))
 refine A3 (A2 (A4 Z Z) Z (A2 (D5 Z Z) Z (A2 (A4 Z Z) Z (A8 Z Z Z Z (fun hg => by rw [hg]; exact A4 Z Z) ?_)))); refine A8 Z Z Z Z (fun hg => by rw [hg]; exact M7 Z Z) ?_; refine A2 (B3 Z (fun h => by first | rfl | (rw [h]; rfl)) (fun h => by first | rfl | (rw [h]; rfl))) Z ?_; refine A2 (A4 Z Z) Z (A8 Z Z Z Z (fun hg => by rw [hg]; exact A4 Z Z) ?_); refine A8 Z Z Z Z (fun hg => by rw [hg]; exact C6 Z) ?_; refine A8 Z Z Z Z (fun hg => by rw [hg]; exact A4 Z Z) ?_; refine A8 Z Z Z Z (fun hg => by rw [hg]; exact D5 Z Z) ?_; refine A2 (B3 Z (fun h => by first | rfl | (rw [h]; rfl)) (fun h => by first | rfl | (rw [h]; rfl))) Z ?_; refine A6 ?_
 refine k1 ?_
 refine B2 rfl (fun ht => ?_) (fun ht => ?_)
 ·simp only [or_pick] at ht
  have h := A0 ht
  refine k2 ?_
  refine A3 (A2 (H3 Z) Z (D7 (B6 TySz.out Z Z Z Z Z Z) (A2 (A5 Z Z) Z (A6 ?_))))
  refine k1 (k10 (k11 ?_))
  exact B5 (rs := [pRow ⟨false, 0, []⟩, C4 false]) (O1 rfl rfl rfl rfl rfl rfl rfl) (U4 (rowI_no (by omega))).symm
 simp only [or_pick] at ht
 have h := A1 ht
 obtain ⟨N, rfl⟩ : ∃ N : Nat, n = N := ⟨n.toNat, by omega⟩
 have hN1 : 1 ≤ N ∧ N ≤ 32 := by omega
 have hN2 : N ≤ s.length := by omega
 refine T3 [(0, F9 s), (1, C3 N), (4, .s (.one (.ref 4 0)))] [(4, .box (pRow ⟨false, 0, []⟩).s1.cells)] (Sees.of ⟨le1 rfl, le1 rfl, le1 rfl, trivial⟩ ⟨rfl, trivial⟩) ?_
 refine k5 (k1 (k2 ?_))
 refine A3 (A2 (A4 Z Z) Z (A2 (A4 Z Z) Z (A2 (T9 Z Z (by omega) (by omega)) Z (A2 (H3 Z) Z (C0 (F0 6 Z) Z (D7 (B6 TySz.out Z Z Z Z Z Z) (A6 ?_)))))))
 refine k1 (k2 ?_)
 refine A3 (A2 (A5 Z Z) Z (A6 ?_))
 refine k1 (k2 (k2 ?_))
 refine A3 (A2 (A5 Z Z) Z (A6 ?_))
 refine k1 (k3 ?_)
 refine E0 (X := Nat) (fun p => ([(0, F9 s), (1, C3 N), (4, .s (.one (.ref 4 0))), (6, .s (.one (.ref 6 0))), (7, O0 (decide (E7 43 s p ≠ 0))), (8, C3 p)], [(4, .box (pRow ⟨false, 0, []⟩).s1.cells), (6, .box (pRow ⟨decide (E7 45 s p ≠ 0), ((E7 43 s p + E7 45 s p : Nat) : Int), s.drop N⟩).s1.cells)])) (fun p => p ≤ N ∧ (s.take p).all Z3 = true) (fun p => N - p) 0 ⟨Nat.zero_le _, rfl⟩ (Sees.of ⟨le1 rfl, le1 rfl, le1 rfl, le1 rfl, le1 rfl, le1 rfl, trivial⟩ ⟨rfl, rfl, trivial⟩) ?_
 rintro p ⟨hp, hq⟩
 dsimp only at hp hq ⊢
 have hlb := bits_add (c := 43) (d := 45) (by decide) s p
 refine k2 (k2 ?_)
 refine A3 (A2 (A4 Z Z) Z (A2 (A4 Z Z) Z (A2 (D5 Z Z) Z (A6 ?_))))
 refine k1 ?_
 refine B2 rfl (fun ht => ?_) (fun ht => ?_)
 ·have hlt : p < N := by have := A0 ht; omega
  have hv : s[p]? = some s[p] := by simp
  have hst3 := bits_step hv 43
  have hst5 := bits_step hv 45
  have hsg := sign_step hv
  rw [hq, Bool.true_and] at hsg
  have hbt := bitOf_nat2 p (by omega)
  have hob := or_bit hlb (by omega)
  have hpos : 0 < 2 ^ p := Nat.pow_pos (by decide)
  have hno : Z3 s[p] = false → (s.take N).all Z3 = false := fun hc => sign_no hlt hv hc
  have hu := y6 (n := (p : Int)) (by omega)
  obtain ⟨c, hcc⟩ : ∃ c, c = s[p] := ⟨_, rfl⟩
  rw [← hcc] at hv hst3 hst5 hsg hno
  refine k5 (k1 (k2 (k3 (k2 (k2 ?_)))))
  refine A3 (A2 (A4 Z Z) Z (A2 (A4 Z Z) Z (A2 (D6 Z Z (by omega) hv) Z (A6 ?_))))
  refine k1 (k3 (k2 ?_))
  refine A3 (A2 (E8 Z Z) Z (A2 (A5 Z Z) Z (A6 ?_)))
  refine k1 ?_
  refine B2 rfl (fun ht => ?_) (fun ht => ?_)
  ·have hc : c = 32 := by simpa only [ke32, decide_eq_true_eq] using ht
   rw [if_neg (by rw [hc]; decide), Nat.add_zero (E7 43 s p)] at hst3
   rw [if_neg (by rw [hc]; decide), Nat.add_zero (E7 45 s p)] at hst5
   refine k6 (k9 Z (k7 (k8 Z (k1 ?_))))
   refine A3 (A2 (A4 Z Z) Z (A2 (B9 Z Z (by omega)) Z (A2 (A5 Z Z) Z (A6 ?_))))
   refine k1 ?_
   refine ⟨p + 1, ⟨by omega, by rw [hsg, hc]; rfl⟩, by omega, ?_⟩
   rw [hst3, hst5]
   exact Sees.of ⟨le1 rfl, le1 rfl, le1 rfl, le1 rfl, le1 rfl, le1 rfl, trivial⟩ ⟨rfl, rfl, trivial⟩
  have hc2 : c ≠ 32 := by simpa only [ke32, decide_eq_false_iff_not] using ht
  refine k2 ?_
  refine A3 (A2 (E8 Z Z) Z (A2 (A5 Z Z) Z (A6 ?_)))
  refine k1 ?_
  refine B2 rfl (fun ht => ?_) (fun ht => ?_)
  ·have hc : c = 43 := by simpa only [ke43, decide_eq_true_eq] using ht
   rw [if_pos hc] at hst3
   rw [if_neg (by rw [hc]; decide), Nat.add_zero (E7 45 s p)] at hst5
   skip
   refine A3 (A2 (A5 Z Z) Z (A6 ?_))
   refine k4 (k1 ?_)
   refine A3 (A2 (A7 Z) Z (A2 (B0 Z Z Z) Z (A2 (A4 Z Z) Z (A2 (K8 Z) Z (A2 (n_shl Z Z (by (rw [hu]; omega))) Z ?_))))); refine A2 (X1 Z Z Z (fun _ => rfl)) Z (A2 (A7 Z) Z (D7 (B6 TySz.out Z Z Z Z Z Z) (A6 ?_)))
   refine k4 (k1 ?_)
   refine A3 (A2 (A4 Z Z) Z (A2 (B9 Z Z (by omega)) Z (A2 (A5 Z Z) Z (A6 ?_))))
   refine k1 ?_
   refine ⟨p + 1, ⟨by omega, by rw [hsg, hc]; rfl⟩, by omega, ?_⟩
   rw [hst3, hst5, show E7 43 s p + 2 ^ p + E7 45 s p = E7 43 s p + E7 45 s p + 2 ^ p by omega, ← hob, ← hbt, show decide (E7 43 s p + 2 ^ p ≠ 0) = true from decide_eq_true (by omega)]
   exact Sees.of ⟨le1 rfl, le1 rfl, le1 rfl, le1 rfl, le1 rfl, le1 rfl, trivial⟩ ⟨rfl, rfl, trivial⟩
  have hc3 : c ≠ 43 := by simpa only [ke43, decide_eq_false_iff_not] using ht
  rw [if_neg hc3, Nat.add_zero (E7 43 s p)] at hst3
  refine k2 ?_
  refine A3 (A2 (E8 Z Z) Z (A2 (A5 Z Z) Z (A6 ?_)))
  refine k1 ?_
  refine B2 rfl (fun ht => ?_) (fun ht => ?_)
  ·have hc : c = 45 := by simpa only [ke45, decide_eq_true_eq] using ht
   rw [if_pos hc] at hst5
   skip
   refine A3 (A2 (A7 Z) Z (D7 (B6 TySz.out Z Z Z Z Z Z) (A6 ?_)))
   refine k4 (k1 ?_)
   refine A3 (A2 (A7 Z) Z (A2 (B0 Z Z Z) Z (A2 (A4 Z Z) Z (A2 (K8 Z) Z (A2 (n_shl Z Z (by (rw [hu]; omega))) Z ?_))))); refine A2 (X1 Z Z Z (fun _ => rfl)) Z (A2 (A7 Z) Z (D7 (B6 TySz.out Z Z Z Z Z Z) (A6 ?_)))
   refine k4 (k1 ?_)
   refine A3 (A2 (A4 Z Z) Z (A2 (B9 Z Z (by omega)) Z (A2 (A5 Z Z) Z (A6 ?_))))
   refine k1 ?_
   refine ⟨p + 1, ⟨by omega, by rw [hsg, hc]; rfl⟩, by omega, ?_⟩
   rw [hst3, hst5, ← Nat.add_assoc, ← hob, ← hbt, show decide (E7 45 s p + 2 ^ p ≠ 0) = true from decide_eq_true (by omega)]
   exact Sees.of ⟨le1 rfl, le1 rfl, le1 rfl, le1 rfl, le1 rfl, le1 rfl, trivial⟩ ⟨rfl, rfl, trivial⟩
  have hc5 : c ≠ 45 := by simpa only [ke45, decide_eq_false_iff_not] using ht
  refine k2 ?_
  refine A3 (A2 (H3 Z) Z (D7 (B6 TySz.out Z Z Z Z Z Z) (A2 (A5 Z Z) Z (A6 ?_))))
  refine k1 (k10 (k12 (k11 (k12 (k11 (k11 (k12 (k11 ?_))))))))
  exact B5 (rs := [pRow ⟨false, 0, []⟩, C4 false]) (O1 rfl rfl rfl rfl rfl rfl rfl) (U4 (rowI_sign (hno (by unfold Z3; simp [hc2, hc3, hc5])))).symm
 ·have hpN : p = N := by have := A1 ht; omega
  subst hpN
  refine k6 (k2 (k2 ?_))
  refine A3 (A2 (A4 Z Z) Z (A2 (A4 Z Z) Z (A8 Z Z Z Z (fun hg => by rw [hg]; exact A7 Z) ?_))); refine A8 Z Z Z Z (fun hg => by rw [hg]; exact B0 Z Z Z) ?_; refine A2 (B3 Z (fun h => by first | rfl | (rw [h]; rfl)) (fun h => by first | rfl | (rw [h]; rfl))) Z ?_; refine A6 ?_
  refine k1 ?_
  refine B2 rfl (fun ht => ?_) (fun ht => ?_)
  ·simp only [I3] at ht
   have h2 := A0 ht
   refine k2 ?_
   refine A3 (A2 (H3 Z) Z (D7 (B6 TySz.out Z Z Z Z Z Z) (A2 (A5 Z Z) Z (A6 ?_))))
   refine k1 (k10 (k11 ?_))
   exact B5 (rs := [pRow ⟨false, 0, []⟩, C4 false]) (O1 rfl rfl rfl rfl rfl rfl rfl) (U4 (rowI_both h2)).symm
  ·simp only [I3] at ht
   have h2 := A1 ht
   have hyes := rowI_yes hN1 hN2 hq h2
   refine k5 (k1 (k2 ?_))
   refine A3 (A2 (C1 Z Z Z) Z (D7 (B6 TySz.out Z Z Z Z Z Z) (A2 (A5 Z Z) Z (A6 ?_))))
   refine k1 (k10 ?_)
   exact B5 (O1 rfl rfl rfl rfl rfl rfl rfl) (u7 hyes).symm
theorem rcolumn_ok (k n : Nat) : FnOk Tryz.prog 117 [E2 k, E2 n] (fun rs => rs = [E2 (I9 n k)]) := by
 refine FnOk.intro Tryz.func117 (by decide) Z Z Z Z ?_
 refine k2 ?_
 refine A3 (A2 (A5 Z Z) Z (A6 ?_))
 refine k1 (k2 (k2 ?_))
 refine A3 (A2 (A4 Z Z) Z (A2 (A4 Z Z) Z (A2 (E8 Z Z) Z (A6 ?_))))
 refine k1 ?_
 refine B2 rfl (fun ht => ?_) (fun ht => ?_)
 ·have h := A0 ht
  refine k2 ?_
  refine A3 (A2 (A5 Z Z) Z (A6 ?_))
  refine k1 (k10 (k11 ?_))
  exact B5 (rs := [E2 (-1)]) (F3 rfl rfl rfl) (by unfold I9; rw [if_pos (by omega)])
 ·have h := A1 ht
  refine k5 (k1 (k2 ?_))
  refine A3 (A2 (A4 Z Z) Z (A2 (A5 Z Z) Z (A6 ?_)))
  refine k1 (k10 ?_)
  exact B5 (F3 rfl rfl rfl) (by unfold I9; rw [if_neg (by omega)])
theorem rmarks18_ok (c : Comb) (hn : 0 ≤ c.Parents ∧ c.Parents ≤ 32) (hr : ∀ h ∈ c.Hunks, L0 h.Rows) (hz : szC c.Hunks ≤ 268435456) : FnOk Tryz.prog 101 [I7 c] (fun rs => rs = [C4 (S6 c.Parents.toNat c.Hunks)]) := by
 obtain ⟨n, hN⟩ : ∃ n, n = c.Parents.toNat := ⟨_, rfl⟩
 rw [← hN]
 have hzl := j7 c.Hunks
 refine FnOk.intro Tryz.func101 (by decide) Z Z Z Z ?_
 refine k2 ?_
 refine A3 (C0 (R0 1 Z Z Z) Z (A2 (A5 Z Z) Z (A6 ?_)))
 refine k1 (k2 (k2 ?_))
 refine A3 (A2 (A5 Z Z) Z (A6 ?_))
 refine k1 (k3 ?_)
 refine E0 (X := Nat) (fun k => ([(1, .s (.one (.ref 1 0))), (3, C3 k)], [(1, r9 c)])) (fun k => k ≤ c.Hunks.length ∧ S6 n c.Hunks = S6 n (c.Hunks.drop k)) (fun k => c.Hunks.length - k) 0 ⟨Nat.zero_le _, rfl⟩ (Sees.of ⟨le1 rfl, le1 rfl, trivial⟩ ⟨rfl, trivial⟩) ?_
 rintro k ⟨hk, hp⟩
 dsimp only at hk hp ⊢
 refine k2 (k2 ?_)
 refine A3 (A2 (A4 Z Z) Z (A2 (A7 Z) Z (A2 (B0 Z Z Z) Z (A2 (I2 Z (.pure _ _ _ _)) Z (A2 (D5 Z Z) Z (A6 ?_))))))
 refine k1 ?_
 refine B2 rfl (fun ht => ?_) (fun ht => ?_)
 ·have hlt : k < c.Hunks.length := by have := A0 ht; omega
  have hv : c.Hunks[k]? = some c.Hunks[k] := by simp [hlt]
  have hrw := hr _ (List.getElem_mem hlt)
  rw [List.drop_eq_getElem_cons hlt] at hp
  obtain ⟨h, hx⟩ : ∃ x, x = c.Hunks[k] := ⟨_, rfl⟩
  rw [← hx] at hv hrw hp
  have hp : S6 n c.Hunks = (N3 h.Rows n && S6 n (c.Hunks.drop (k + 1))) := hp
  have hm := marks16_ok h.Rows c.Parents hn hrw
  rw [← hN] at hm
  refine k5 (k1 (k2 (k3 (k2 ?_))))
  refine D1 (by kernel_rfl) (by kernel_rfl) (B1 (A7 Z) Z Z (B1 (B0 Z Z Z) Z Z (B1 (A4 Z Z) Z Z (B1 (B8 Z (.pure _ _ _ _) Z (by omega) hv) Z Z (B1 (J9 Z) Z Z (B1 (C2 Z Z) Z Z (B1 (A7 Z) Z Z (B1 (B0 Z Z Z) Z Z (B1 (G4 (hm) Z Z) Z Z (B1 (D3 Z) Z Z (J4 ?_)))))))))))
  refine k1 ?_
  refine B2 rfl (fun ht => ?_) (fun ht => ?_)
  ·have h2 : N3 h.Rows n = false := by simpa using ht
   rw [h2, Bool.false_and] at hp
   refine k2 ?_
   refine A3 (A2 (A5 Z Z) Z (A6 ?_))
   refine k1 (k10 (k12 (k11 (k11 (k12 (k11 ?_))))))
   exact B5 (F3 rfl rfl rfl) (by rw [hp])
  ·have h2 : N3 h.Rows n = true := by simpa using ht
   rw [h2, Bool.true_and] at hp
   refine k5 (k4 (k1 ?_))
   refine A3 (A2 (A4 Z Z) Z (A2 (B9 Z Z (by omega)) Z (A2 (A5 Z Z) Z (A6 ?_))))
   refine k1 ?_
   exact ⟨k + 1, ⟨by omega, hp⟩, by omega, Sees.of ⟨le1 rfl, le1 rfl, trivial⟩ ⟨rfl, trivial⟩⟩
 ·have hkl : k = c.Hunks.length := by have := A1 ht; omega
  rw [hkl, List.drop_eq_nil_of_le (Nat.le_refl _)] at hp
  refine k6 (k2 ?_)
  refine A3 (A2 (A5 Z Z) Z (A6 ?_))
  refine k1 (k10 ?_)
  exact B5 (F3 rfl rfl rfl) (by rw [hp]; rfl)
def R5 (n : Nat) (ends : List Int) (h : CHunk) (k : Nat) : List Int := (List.range (n + 1)).map fun j => if j < k then h.At.getD j 0 + K4 h.Rows n j else ends.getD j 0
theorem endsMid_len (n : Nat) (ends : List Int) (h : CHunk) (k : Nat) : (R5 n ends h k).length = n + 1 := by unfold R5; simp
theorem endsMid_zero {n : Nat} {ends : List Int} (h : CHunk) (hl : ends.length = n + 1) : R5 n ends h 0 = ends := by
 unfold R5
 refine List.ext_getElem (by simp [hl]) fun k h1 h2 => ?_
 rw [List.getElem_map, List.getElem_range, if_neg (by omega), List.getD_eq_getElem?_getD, List.getElem?_eq_getElem h2]; rfl
theorem endsMid_get (n : Nat) (ends : List Int) (h : CHunk) (k : Nat) (hk : k < n + 1) : (R5 n ends h k)[k]? = some (ends.getD k 0) := by
 unfold R5
 rw [List.getElem?_map, List.getElem?_range hk]; simp
theorem endsMid_get1 (n : Nat) (ends : List Int) (h : CHunk) (k : Nat) (hk : k < n + 1) : (R5 n ends h (k + 1))[k]? = some (h.At.getD k 0 + K4 h.Rows n k) := by
 unfold R5
 rw [List.getElem?_map, List.getElem?_range hk]; simp
theorem endsMid_set (n : Nat) (ends : List Int) (h : CHunk) (k : Nat) : (R5 n ends h k).set k (h.At.getD k 0 + K4 h.Rows n k) = R5 n ends h (k + 1) := by
 unfold R5
 rw [range_setC]
 refine List.map_congr_left fun j hj => ?_
 by_cases e : j = k
 ·subst e; rw [if_pos rfl, if_pos (by omega)]
 ·rw [if_neg e]
  by_cases h3 : j < k
  ·rw [if_pos h3, if_pos (by omega)]
  ·rw [if_neg h3, if_neg (by omega)]
theorem endsMid_full (n : Nat) (ends : List Int) (h : CHunk) : R5 n ends h (n + 1) = Q6 n h := by
 unfold R5 Q6
 refine List.map_congr_left fun k hk => ?_
 rw [if_pos (List.mem_range.1 hk)]
theorem endsOk_iff (n : Nat) (ends : List Int) (h : CHunk) : s7 n ends h = true ↔ (h.At.length = n + 1 ∧ h.Rows ≠ []) ∧ ∀ k, k < n + 1 → (ends.getD k 0 ≤ h.At.getD k 0 ∧ h.At.getD k 0 ≤ 4096) ∧ h.At.getD k 0 + K4 h.Rows n k ≤ 4096 := by
 unfold s7
 simp only [Bool.and_eq_true, decide_eq_true_eq, List.all_eq_true, List.mem_range]
theorem szRows_all : ∀ (hs : List CHunk), ((H6 hs).map N0).sum ≤ szC hs
 | [] => by simp [H6, szC]
 | h :: r => by
  have ih := szRows_all r
  have e1 : H6 (h :: r) = h.Rows ++ H6 r := by simp [H6]
  have e2 : szC (h :: r) = s8 h + szC r := by simp [szC]
  have e3 : (h.Rows.map N0).sum ≤ s8 h := by unfold s8; exact Nat.le_add_left _ _
  rw [e1, e2, List.map_append, List.sum_append]
  exact Nat.add_le_add e3 ih
theorem allRows_take (hs : List CHunk) (k : Nat) (h : k < hs.length) : H6 (hs.take (k + 1)) = H6 (hs.take k) ++ hs[k].Rows := by
 unfold H6
 rw [List.take_succ_eq_append_getElem h, List.map_append, List.flatten_append]; simp
theorem rhunks18_ok (c : Comb) (hn : 1 ≤ c.Parents ∧ c.Parents ≤ 32) (hr : ∀ h ∈ c.Hunks, L0 h.Rows) (hz : szC c.Hunks ≤ 268435456) :
  FnOk Tryz.prog 102 [I7 c] (fun rs => rs = [C4 (M8 c.Parents.toNat c.Hunks)]) := by
 obtain ⟨n, hN⟩ : ∃ n, n = c.Parents.toNat := ⟨_, rfl⟩
 have hNc : c.Parents = (n : Int) := by omega
 rw [← hN]
 have e0 : (c.Parents + 1).toNat = n + 1 := by omega
 have hzl := j7 c.Hunks
 have hsa := szRows_all c.Hunks
 have hfalse : ∀ {A B : Bool} {Y : Prop}, A = false → [C4 false] = [C4 (A && B)] := fun h => by rw [h]; rfl
 refine FnOk.intro Tryz.func102 (by decide) Z Z Z Z ?_
 refine k2 ?_
 refine A3 (C0 (R0 1 Z Z Z) Z (A2 (A5 Z Z) Z (A6 ?_)))
 refine k1 (k2 ?_)
 refine A3 (C0 (f_adopt 721 _ rowC Z) Z (A6 ?_))
 refine k1 (k2 ?_)
 refine A3 (A2 (A7 Z) Z (A2 (B0 Z Z Z) Z (A2 (B9 Z Z (by omega)) Z (C0 (f_makeZ 720 Int H7 0 Z Z (by omega) (by omega) (fun _ => by first | exact ⟨⟨rfl, rfl⟩, trivial⟩ | exact ⟨T8 _ _ _, trivial⟩) (by first | rfl | (simp [J6, N1, Ob.free, SV.free, S1.free, TC.free] <;> rfl))) Z ?_)))); refine A2 (A5 Z Z) Z (A6 ?_)
 rw [e0]
 refine k1 (k2 (k2 ?_))
 refine A3 (A2 (A5 Z Z) Z (A6 ?_))
 refine k1 (k3 ?_)
 refine E0 (X := Nat × List Int) (fun x => ([(1, .s (.one (.ref 1 0))), (3, .s (.one (.buf 721 Row 3 rowC (H6 (c.Hunks.take x.1))))), (4, .s (.one (.mut 720))), (5, C3 x.1)], [(1, r9 c), (720, .arr Int 1 H7 x.2), (721, .spare (H6 (c.Hunks.take x.1)).length 3 69)])) (fun x => x.1 ≤ c.Hunks.length ∧ x.2.length = n + 1 ∧ (∀ e ∈ x.2, 0 ≤ e) ∧ R9 n (List.replicate (n + 1) 0) c.Hunks = R9 n x.2 (c.Hunks.drop x.1)) (fun x => c.Hunks.length - x.1) (0, List.replicate (n + 1) 0) ⟨Nat.zero_le _, by simp, fun e he => by have := (List.mem_replicate.1 he).2; omega, rfl⟩ (Sees.of ⟨le1 rfl, le1 rfl, le1 rfl, le1 rfl, trivial⟩ ⟨rfl, rfl, rfl, trivial⟩) ?_
 rintro ⟨k, ends⟩ ⟨hk, hel, he0, hp⟩
 dsimp only at hk hel he0 hp ⊢
 refine k2 (k2 ?_)
 refine A3 (A2 (A4 Z Z) Z (A2 (A7 Z) Z (A2 (B0 Z Z Z) Z (A2 (I2 Z (.pure _ _ _ _)) Z (A2 (D5 Z Z) Z (A6 ?_))))))
 refine k1 ?_
 refine B2 rfl (fun ht => ?_) (fun ht => ?_)
 ·have hlt : k < c.Hunks.length := by have := A0 ht; omega
  have hv : c.Hunks[k]? = some c.Hunks[k] := by simp [hlt]
  have hmem := List.getElem_mem hlt
  have hrw := hr _ hmem
  have hzm := q8 hmem
  have hat := allRows_take c.Hunks k hlt
  have hst := szRows_all (c.Hunks.take k)
  have hst2 := szC_take c.Hunks k
  have hst3 := S2 (H6 (c.Hunks.take k))
  rw [List.drop_eq_getElem_cons hlt, R9] at hp
  obtain ⟨h, hx⟩ : ∃ x, x = c.Hunks[k] := ⟨_, rfl⟩
  rw [← hx] at hv hrw hzm hp hat
  have hz1 := S2 h.Rows
  unfold s8 at hzm
  have hno : s7 n ends h = false → [C4 false] = [C4 (M8 n c.Hunks)] := fun e => by
   unfold M8; rw [hp, e]; rfl
  have hiff := endsOk_iff n ends h
  refine k5 (k1 (k2 (k3 (k2 ?_))))
  refine A3 (A2 (A7 Z) Z (A2 (B0 Z Z Z) Z (A2 (A4 Z Z) Z (A2 (B8 Z (.pure _ _ _ _) Z (by omega) hv) Z (A2 (H2 Z Z) Z (C0 (F0 6 Z) Z (D7 (B6 TySz.out Z Z Z Z Z Z) (A6 ?_))))))))
  refine k1 (k2 (k2 ?_))
  refine A3 (A2 (A7 Z) Z (A2 (B0 Z Z Z) Z (A2 (I2 Z (.pure _ _ _ _)) Z (A2 (A7 Z) Z (A2 (B0 Z Z Z) Z (A2 (B9 Z Z (by omega)) Z (A2 (O7 Z Z) Z (A2 (A4 Z Z) Z (A8 Z Z Z Z (fun hg => by rw [hg]; exact A7 Z) ?_))))))))); refine A8 Z Z Z Z (fun hg => by rw [hg]; exact B0 Z Z Z) ?_; refine A8 Z Z Z Z (fun hg => by rw [hg]; exact I2 Z (.pure _ _ _ _)) ?_; refine A8 Z Z Z Z (fun hg => by rw [hg]; exact E8 Z Z) ?_; refine A2 (B3 Z (fun h => by first | rfl | (rw [h]; rfl)) (fun h => by first | rfl | (rw [h]; rfl))) Z ?_; refine A6 ?_
  refine k1 ?_
  refine B2 rfl (fun ht => ?_) (fun ht => ?_)
  ·have h1 := A0 (or_pick.symm.trans ht)
   refine k2 ?_
   refine A3 (A2 (A5 Z Z) Z (A6 ?_))
   refine k1 (k10 (k11 (k12 (k11 (k11 (k12 (k11 ?_)))))))
   refine B5 (F3 rfl rfl rfl) (hno ?_)
   rw [Bool.eq_false_iff]
   intro hq
   have h2 := (hiff.1 hq).1
   rcases h1 with h1 | h1
   ·omega
   ·exact h2.2 (List.length_eq_zero_iff.1 (by omega))
  have h1 := A1 (or_pick.symm.trans ht)
  simp only [not_or, Decidable.not_not] at h1
  have hal : h.At.length = n + 1 := by omega
  have hne : h.Rows ≠ [] := fun e => h1.2 (by rw [e]; rfl)
  refine T3 [(1, .s (.one (.ref 1 0))), (3, .s (.one (.buf 721 Row 3 rowC (H6 (c.Hunks.take k))))), (4, .s (.one (.mut 720))), (5, C3 k), (6, .s (.one (.ref 6 0)))] [(1, r9 c), (720, .arr Int 1 H7 ends), (721, .spare (H6 (c.Hunks.take k)).length 3 69), (6, .box (pChunk h).s1.cells)] (Sees.of ⟨le1 rfl, le1 rfl, le1 rfl, le1 rfl, le1 rfl, trivial⟩ ⟨rfl, rfl, rfl, rfl, trivial⟩) ?_
  refine k5 (k1 (k2 (k2 ?_)))
  refine A3 (A2 (A5 Z Z) Z (A6 ?_))
  refine k1 (k3 ?_)
  refine E0 (X := Nat) (fun j => ([(1, .s (.one (.ref 1 0))), (3, .s (.one (.buf 721 Row 3 rowC (H6 (c.Hunks.take k))))), (4, .s (.one (.mut 720))), (5, C3 k), (6, .s (.one (.ref 6 0))), (7, C3 j)], [(1, r9 c), (720, .arr Int 1 H7 (R5 n ends h j)), (721, .spare (H6 (c.Hunks.take k)).length 3 69), (6, .box (pChunk h).s1.cells)])) (fun j => j ≤ n + 1 ∧ ∀ i, i < j → (ends.getD i 0 ≤ h.At.getD i 0 ∧ h.At.getD i 0 ≤ 4096) ∧ h.At.getD i 0 + K4 h.Rows n i ≤ 4096) (fun j => n + 1 - j) 0 ⟨Nat.zero_le _, fun i hi => by omega⟩ (by rw [endsMid_zero h hel]; exact Sees.of ⟨le1 rfl, le1 rfl, le1 rfl, le1 rfl, le1 rfl, le1 rfl, trivial⟩ ⟨rfl, rfl, rfl, rfl, trivial⟩) ?_
  rintro j ⟨hj, hq⟩
  dsimp only at hj hq ⊢
  have hml := endsMid_len n ends h j
  refine k2 (k2 ?_)
  refine A3 (A2 (A4 Z Z) Z (A2 (A7 Z) Z (A2 (B0 Z Z Z) Z (A2 (o3 Z Z) Z (A6 ?_)))))
  refine k1 ?_
  refine B2 rfl (fun ht => ?_) (fun ht => ?_)
  ·have hlt2 : j < n + 1 := by have := A0 ht; omega
   have hva := getI (l := h.At) (i := j) (by omega)
   have hge := endsMid_get n ends h j hlt2
   have hge1 := endsMid_get1 n ends h j hlt2
   have hset := endsMid_set n ends h j
   have hml1 := endsMid_len n ends h (j + 1)
   have hej : 0 ≤ ends.getD j 0 := he0 _ (List.mem_of_getElem? (getI (l := ends) (i := j) (by omega)))
   have hcl := cnt_le h.Rows n j
   have hcol := column16_ok h.Rows (I9 n j) hrw (by omega)
   have hcn := rcolumn_ok j n
   rw [← hNc] at hcn
   have hcc : ((L4 h.Rows (I9 n j)).length : Int) = K4 h.Rows n j := rfl
   obtain ⟨a, ha⟩ : ∃ a, a = h.At.getD j 0 := ⟨_, rfl⟩
   obtain ⟨e, hee⟩ : ∃ e, e = ends.getD j 0 := ⟨_, rfl⟩
   obtain ⟨q, hqq⟩ : ∃ q, q = K4 h.Rows n j := ⟨_, rfl⟩
   have hno2 : ¬ ((e ≤ a ∧ a ≤ 4096) ∧ a + q ≤ 4096) → s7 n ends h = false := fun hc => by
    rw [Bool.eq_false_iff]
    intro hqq2
    have := (hiff.1 hqq2).2 j hlt2
    rw [← ha, ← hee, ← hqq] at this
    exact hc this
   rw [← ha] at hva hge1 hset
   rw [← hee] at hge hej
   rw [← hqq] at hge1 hset hcl hcc
   refine k5 (k1 (k2 (k3 (k2 (k2 ?_)))))
   refine D1 (by kernel_rfl) (by kernel_rfl) (B1 (A7 Z) Z Z (B1 (B0 Z Z Z) Z Z (B1 (A4 Z Z) Z Z (B1 (B8 Z (.pure _ _ _ _) Z (by omega) hva) Z Z (B1 (C2 Z Z) Z Z (B1 (A4 Z Z) Z Z (B1 (A4 Z Z) Z Z (B1 (G8 Z Z Z (by omega) (by (rw [hml]; omega))) Z Z ?_)))))))); refine B1 (c6 Z Z hge Z) Z Z (B1 (D5 Z Z) Z Z (B1 (A4 Z Z) Z Z (E1 Z Z (fun hg => by rw [hg]; exact A7 Z) Z Z ?_))); refine E1 Z Z (fun hg => by rw [hg]; exact B0 Z Z Z) Z Z ?_; refine E1 Z Z (fun hg => by rw [hg]; exact A4 Z Z) Z Z ?_; refine E1 Z Z (fun hg => by have hq := hg; (try simp at hq); rw [hg]; exact B8 Z (.pure _ _ _ _) Z (by omega) hva) Z Z ?_; refine E1 Z Z (fun hg => by rw [hg]; exact C2 Z Z) Z Z ?_; refine E1 Z Z (fun hg => by rw [hg]; exact M7 Z Z) Z Z ?_; refine B1 (B3 Z (fun h => by first | rfl | (rw [h]; rfl)) (fun h => by first | rfl | (rw [h]; rfl))) Z Z ?_; refine J4 ?_
   refine k1 ?_
   refine B2 rfl (fun ht => ?_) (fun ht => ?_)
   ·have h2 := A0 (or_pick.symm.trans ht)
    refine k2 ?_
    refine A3 (A2 (A5 Z Z) Z (A6 ?_))
    refine k1 (k10 (k11 (k12 (k11 (k11 (k12 (k11 (k12 (k11 (k11 (k12 (k11 ?_))))))))))))
    exact B5 (F3 rfl rfl rfl) (hno (hno2 (by omega)))
   have h2 := A1 (or_pick.symm.trans ht)
   refine T3 [(1, .s (.one (.ref 1 0))), (3, .s (.one (.buf 721 Row 3 rowC (H6 (c.Hunks.take k))))), (4, .s (.one (.mut 720))), (5, C3 k), (6, .s (.one (.ref 6 0))), (7, C3 j)] [(1, r9 c), (720, .arr Int 1 H7 (R5 n ends h j)), (721, .spare (H6 (c.Hunks.take k)).length 3 69), (6, .box (pChunk h).s1.cells)] (Sees.of ⟨le1 rfl, le1 rfl, le1 rfl, le1 rfl, le1 rfl, le1 rfl, trivial⟩ ⟨rfl, rfl, rfl, rfl, trivial⟩) ?_
   refine k5 (k1 (k2 ?_))
   refine D1 (by kernel_rfl) (by kernel_rfl) (B1 (A4 Z Z) Z Z (B1 (A4 Z Z) Z Z (B1 (A7 Z) Z Z (B1 (B0 Z Z Z) Z Z (B1 (A4 Z Z) Z Z (B1 (B8 Z (.pure _ _ _ _) Z (by omega) hva) Z Z (B1 (C2 Z Z) Z Z (B1 (A7 Z) Z Z (B1 (B0 Z Z Z) Z Z (B1 (A4 Z Z) Z Z (B1 (A7 Z) Z Z (B1 (B0 Z Z Z) Z Z (B1 (G4 (hcn) Z Z) Z Z (B1 (G4 (hcol) Z Z) Z Z (B1 (I2 Z (.pure _ _ _ _)) Z Z (B1 (B9 Z Z (by omega)) Z Z (B1 (G8 Z Z Z (by omega) (by (rw [hml]; omega))) Z Z ?_))))))))))))))))); refine d_eff (O2 TySz.out Z Z (by (rw [hml]; omega)) Z Z) Z ?_; refine J4 ?_
   rw [hcc, Int.toNat_natCast, hset]
   refine k1 (k2 ?_)
   refine A3 (A2 (A4 Z Z) Z (A2 (A4 Z Z) Z (A2 (G8 Z Z Z (by omega) (by (rw [hml1]; omega))) Z ?_))); refine A2 (c6 Z Z hge1 Z) Z (A2 (M7 Z Z) Z (A6 ?_))
   refine k1 ?_
   refine B2 rfl (fun ht => ?_) (fun ht => ?_)
   ·have h3 := A0 ht
    refine k2 ?_
    refine A3 (A2 (A5 Z Z) Z (A6 ?_))
    refine k1 (k10 (k12 (k11 (k11 (k12 (k11 (k12 (k11 (k11 (k12 (k11 ?_)))))))))))
    exact B5 (F3 rfl rfl rfl) (hno (hno2 (by omega)))
   have h3 := A1 ht
   refine k5 (k4 (k1 ?_))
   refine A3 (A2 (A4 Z Z) Z (A2 (B9 Z Z (by omega)) Z (A2 (A5 Z Z) Z (A6 ?_))))
   refine k1 ?_
   refine ⟨j + 1, ⟨by omega, fun i hi => ?_⟩, by omega, Sees.of ⟨le1 rfl, le1 rfl, le1 rfl, le1 rfl, le1 rfl, le1 rfl, trivial⟩ ⟨rfl, rfl, rfl, rfl, trivial⟩⟩
   by_cases e1 : i = j
   ·subst e1; rw [← ha, ← hee, ← hqq]; omega
   ·exact hq i (by omega)
  ·have hjn : j = n + 1 := by have := A1 ht; omega
   subst hjn
   rw [endsMid_full]
   have hok : s7 n ends h = true := hiff.2 ⟨⟨hal, hne⟩, hq⟩
   rw [hok, Bool.true_and] at hp
   refine k6 (k7 (k7 (k8 Z (k1 ?_))))
   refine A3 (A2 (A4 Z Z) Z (A2 (A7 Z) Z (A2 (B0 Z Z Z) Z (C0 (J0 Z Z Z (.pure _ _ _ _) (by omega) Z) Z (A2 (A5 Z Z) Z (A6 ?_))))))
   refine k4 (k1 ?_)
   refine A3 (A2 (A4 Z Z) Z (A2 (B9 Z Z (by omega)) Z (A2 (A5 Z Z) Z (A6 ?_))))
   refine k1 ?_
   refine ⟨(k + 1, Q6 n h), ⟨by dsimp only; omega, endsTo_len n h, ?_, hp⟩, by dsimp only; omega, ?_⟩
   ·intro e hm
    obtain ⟨i, hi, rfl⟩ := List.mem_map.1 hm
    have hi := List.mem_range.1 hi
    have h4 := hq i hi
    have h5 := he0 _ (List.mem_of_getElem? (getI (l := ends) (i := i) (by omega)))
    have h6 := cnt_le h.Rows n i
    omega
   ·dsimp only
    rw [hat]
    exact Sees.of ⟨le1 rfl, le1 rfl, le1 rfl, le1 rfl, trivial⟩ ⟨rfl, rfl, rfl, trivial⟩
 ·have hkl : k = c.Hunks.length := by have := A1 ht; omega
  rw [hkl, List.drop_eq_nil_of_le (Nat.le_refl _)] at hp
  rw [hkl, List.take_length]
  have hp : R9 n (List.replicate (n + 1) 0) c.Hunks = true := hp
  have hl1 := S2 (H6 c.Hunks)
  have hl2 := szRow_text (H6 c.Hunks)
  have hri : L0 (H6 c.Hunks) := by
   intro r hrm
   obtain ⟨l, h1, h2⟩ := List.mem_flatten.1 hrm
   obtain ⟨x, hx, rfl⟩ := List.mem_map.1 h1
   exact hr x hx r h2
  have htx := texts16_ok (H6 c.Hunks) c.Parents (by omega) hri (by omega) (by omega)
  rw [← hN] at htx
  refine k6 (k2 ?_)
  refine A3 (A2 (A4 Z Z) Z (A2 (A7 Z) Z (A2 (B0 Z Z Z) Z (B7 (htx) Z Z Z ?_)))); rintro _ rfl; refine A2 (A5 Z Z) Z (A6 ?_)
  refine k1 (k10 ?_)
  exact B5 (F3 rfl rfl rfl) (by unfold M8; rw [hp]; rfl)
theorem rats_ok (n : Nat) (hn : n ≤ 1048576) : FnOk Tryz.prog 156 [E2 n] (fun rs => rs = [E6 (atS n)]) := by
 refine FnOk.intro Tryz.func156 (by decide) Z Z Z Z ?_
 refine k2 ?_
 refine A3 (A2 (A5 Z Z) Z (A6 ?_))
 refine k1 (k2 ?_)
 refine A3 (A2 (A5 Z Z) Z (A6 ?_))
 refine k1 (k2 (k2 ?_))
 refine A3 (A2 (A5 Z Z) Z (A6 ?_))
 refine k1 (k3 ?_)
 refine E0 (X := Nat) (fun i => ([(0, C3 n), (3, F9 (atS i)), (4, C3 i)], [])) (fun i => i ≤ n) (fun i => n - i) 0 (Nat.zero_le _) (Sees.of ⟨le1 rfl, le1 rfl, le1 rfl, trivial⟩ trivial) ?_
 intro i hi
 dsimp only at hi ⊢
 have hl := Y7 i
 refine k2 (k2 ?_)
 refine A3 (A2 (A4 Z Z) Z (A2 (A4 Z Z) Z (A2 (D5 Z Z) Z (A6 ?_))))
 refine k1 ?_
 refine B2 rfl (fun ht => ?_) (fun ht => ?_)
 ·have hlt : i < n := by have := A0 ht; omega
  refine k5 (k1 (k2 (k3 ?_)))
  refine A3 (A2 (A4 Z Z) Z (A2 (D8 Z Z (by (first | omega | (simp only [List.length_append, List.length_cons, List.length_nil]; omega)))) Z (A2 (A5 Z Z) Z (A6 ?_))))
  refine k4 (k1 ?_)
  refine A3 (A2 (A4 Z Z) Z (A2 (B9 Z Z (by omega)) Z (A2 (A5 Z Z) Z (A6 ?_))))
  refine k1 ?_
  refine ⟨i + 1, by omega, by omega, ?_⟩
  rw [show atS (i + 1) = atS i ++ [64] by unfold atS; exact List.replicate_succ']
  exact Sees.of ⟨le1 rfl, le1 rfl, le1 rfl, trivial⟩ trivial
 ·have hin : i = n := by have := A1 ht; omega
  subst hin
  refine k6 (k2 ?_)
  refine A3 (A2 (A4 Z Z) Z (A2 (A5 Z Z) Z (A6 ?_)))
  refine k1 (k10 ?_)
  exact B5 (F3 rfl rfl rfl) rfl
theorem rmarked18_ok (r : Row) (n : Nat) (hn : n ≤ 32) (hm : 0 ≤ r.Marks ∧ r.Marks < 4294967296) : FnOk Tryz.prog 157 [pRow r, E2 n] (fun rs => rs = [E6 (H9 n r)]) := by
 refine FnOk.intro Tryz.func157 (by decide) Z Z Z Z ?_
 refine k2 ?_
 refine A3 (C0 (R0 2 Z Z Z) Z (A2 (A5 Z Z) Z (A6 ?_)))
 refine k1 (k2 ?_)
 refine A3 (C0 (f_adopt 730 _ u8C Z) Z (A6 ?_))
 refine k1 (k2 (k2 ?_))
 refine A3 (A2 (A5 Z Z) Z (A6 ?_))
 refine k1 (k3 ?_)
 refine E0 (X := Nat) (fun p => ([(1, C3 n), (2, .s (.one (.ref 2 0))), (5, .s (.one (.buf 730 UInt8 1 u8C (H9 p r)))), (6, C3 p)], [(2, .box (pRow r).s1.cells), (730, .spare (H9 p r).length 1 5)])) (fun p => p ≤ n) (fun p => n - p) 0 (Nat.zero_le _) (Sees.of ⟨le1 rfl, le1 rfl, le1 rfl, le1 rfl, trivial⟩ ⟨rfl, rfl, trivial⟩) ?_
 intro p hp
 dsimp only at hp ⊢
 have hml := Q7 p r
 have hsucc := marksS_succ p r
 refine k2 (k2 ?_)
 refine A3 (A2 (A4 Z Z) Z (A2 (A4 Z Z) Z (A2 (D5 Z Z) Z (A6 ?_))))
 refine k1 ?_
 refine B2 rfl (fun ht => ?_) (fun ht => ?_)
 ·have hlt : p < n := by have := A0 ht; omega
  have hu := y6 (n := (p : Int)) (by omega)
  have h3 : 0 ≤ r.Marks / 2 ^ p := Int.ediv_nonneg hm.1 (Int.pow_nonneg (by decide))
  have h4 : r.Marks / 2 ^ p ≤ r.Marks := Int.ediv_le_self _ hm.1
  have e32 : r.Marks.fdiv (2 ^ (min (p : Int).toNat IntKind.u32.bits)) = r.Marks / 2 ^ p := shr32 r.Marks p (by omega)
  have e1 := and1_u32 (r.Marks / 2 ^ p) (by omega)
  refine k5 (k1 (k2 (k3 (k3 (k2 ?_)))))
  refine A3 (A2 (A7 Z) Z (A2 (B0 Z Z Z) Z (A2 (A4 Z Z) Z (A2 (K8 Z) Z (A2 (n_shr Z Z (by (rw [hu]; omega))) Z ?_))))); refine A2 (X1 Z Z Z (fun _ => rfl)) Z (A2 (E8 Z Z) Z (A2 (A5 Z Z) Z (A6 ?_)))
  rw [hu, e32, e1]
  refine k1 ?_
  refine B2 rfl (fun ht => ?_) (fun ht => ?_)
  ·have ht := A0 ht
   have hb : o8 r.Marks p = false := by unfold o8; simp; omega
   have hmk : W7 r p = 32 := by unfold W7; rw [if_pos hb]
   rw [hmk] at hsucc
   skip
   refine A3 (A2 (A4 Z Z) Z (A2 (D9 (c := u8C) (ys := [32]) (F8 Z Z Z Z H5) Z Z Z) Z (C0 (J0 Z Z Z (.pure _ _ _ _) (by (simp only [List.length_cons, List.length_nil]; omega)) Z) Z (A2 (A5 Z Z) Z (A6 ?_)))))
   refine k4 (k4 (k1 ?_))
   refine A3 (A2 (A4 Z Z) Z (A2 (B9 Z Z (by omega)) Z (A2 (A5 Z Z) Z (A6 ?_))))
   refine k1 ?_
   refine ⟨p + 1, by omega, by omega, ?_⟩
   rw [hsucc]
   exact Sees.of ⟨le1 rfl, le1 rfl, le1 rfl, le1 rfl, trivial⟩ ⟨rfl, rfl, trivial⟩
  have ht := A1 ht
  have hb : o8 r.Marks p = true := by unfold o8; simp; omega
  refine k2 ?_
  refine A3 (A2 (A7 Z) Z (A2 (B0 Z Z Z) Z (A2 (A5 Z Z) Z (A6 ?_))))
  refine k1 ?_
  refine B2 rfl (fun ht => ?_) (fun ht => ?_)
  ·have hl : r.Lost = true := ht
   have hmk : W7 r p = 45 := by unfold W7; rw [hb, if_neg (by decide), if_pos hl]
   rw [hmk] at hsucc
   skip
   refine A3 (A2 (A4 Z Z) Z (A2 (D9 (c := u8C) (ys := [45]) (F8 Z Z Z Z H5) Z Z Z) Z (C0 (J0 Z Z Z (.pure _ _ _ _) (by (simp only [List.length_cons, List.length_nil]; omega)) Z) Z (A2 (A5 Z Z) Z (A6 ?_)))))
   refine k4 (k4 (k1 ?_))
   refine A3 (A2 (A4 Z Z) Z (A2 (B9 Z Z (by omega)) Z (A2 (A5 Z Z) Z (A6 ?_))))
   refine k1 ?_
   refine ⟨p + 1, by omega, by omega, ?_⟩
   rw [hsucc]
   exact Sees.of ⟨le1 rfl, le1 rfl, le1 rfl, le1 rfl, trivial⟩ ⟨rfl, rfl, trivial⟩
  ·have hl : r.Lost = false := ht
   have hmk : W7 r p = 43 := by unfold W7; rw [hb, if_neg (by decide), hl, if_neg (by decide)]
   rw [hmk] at hsucc
   skip
   refine A3 (A2 (A4 Z Z) Z (A2 (D9 (c := u8C) (ys := [43]) (F8 Z Z Z Z H5) Z Z Z) Z (C0 (J0 Z Z Z (.pure _ _ _ _) (by (simp only [List.length_cons, List.length_nil]; omega)) Z) Z (A2 (A5 Z Z) Z (A6 ?_)))))
   refine k4 (k4 (k1 ?_))
   refine A3 (A2 (A4 Z Z) Z (A2 (B9 Z Z (by omega)) Z (A2 (A5 Z Z) Z (A6 ?_))))
   refine k1 ?_
   refine ⟨p + 1, by omega, by omega, ?_⟩
   rw [hsucc]
   exact Sees.of ⟨le1 rfl, le1 rfl, le1 rfl, le1 rfl, trivial⟩ ⟨rfl, rfl, trivial⟩
 ·have hpn : p = n := by have := A1 ht; omega
  subst hpn
  refine k6 (k2 ?_)
  refine A3 (A2 (A4 Z Z) Z (A2 (L7 TyStr.out Z (.buf _ _ _ _ _)) Z (A2 (A5 Z Z) Z (A6 ?_))))
  refine k1 (k10 ?_)
  exact B5 (F3 rfl rfl rfl) rfl
def j6 (c : Comb) : List Str := [Q5 c.Dense ++ F5 c.Path ++ [10], parS ++ G7 c.Parents ++ [10]]
theorem rowPs_two (n : Nat) (r : Row) : (P8 n r).length ≤ 2 := by unfold P8; split <;> simp
theorem rowsPs_two (n : Nat) (rs : List Row) : (rs.map (P8 n)).flatten.length ≤ (rs.map N0).sum := by
 induction rs with
 | nil => simp
 | cons x r ih =>
  have h1 := rowPs_two n x
  have h2 : 2 ≤ N0 x := by unfold N0; omega
  simp only [List.map_cons, List.flatten_cons, List.length_append, List.sum_cons]; omega
theorem chunksPs_two (n : Nat) (hs : List CHunk) : (hs.map (K6 n)).flatten.length ≤ szC hs := by
 unfold szC
 induction hs with
 | nil => simp
 | cons x r ih =>
  have h1 := rowsPs_two n x.Rows
  have h2 : (K6 n x).length ≤ s8 x := by unfold K6 s8; rw [List.length_cons]; omega
  rw [List.map_cons, List.flatten_cons, List.length_append, List.map_cons, List.sum_cons]
  exact Nat.add_le_add h2 ih
set_option maxHeartbeats 1000000
theorem rwrite18_ok (c : Comb) (hc : CFit c) : FnOk Tryz.prog 82 [I7 c] (fun rs => rs = [E6 (N7 c)]) := by
 obtain ⟨h1, h2, h3, h4, h5⟩ := hc
 have hzl := j7 c.Hunks
 have hm29 : markS.length = 29 := rfl
 have hq := quote_lenC c.Path
 have hf := fmt_len c.Parents
 have hkl : (Q5 c.Dense).length ≤ 16 := by cases c.Dense <;> decide
 have hpl : parS.length = 8 := rfl
 obtain ⟨n, hN⟩ : ∃ n, n = c.Parents.toNat := ⟨_, rfl⟩
 have hNc : c.Parents = (n : Int) := by omega
 have hn : n ≤ 32 := by omega
 have hct := cTo_len c (by omega) c.Hunks.length
 have hats : FnOk Tryz.prog 156 [E2 (c.Parents + 1)] (fun rs => rs = [E6 (atS (n + 1))]) := by
  have := rats_ok (n + 1) (by omega)
  rwa [show ((n + 1 : Nat) : Int) = c.Parents + 1 by omega] at this
 have hal := Y7 (n + 1)
 rw [← hN] at h5
 have htl : (j6 c).length = 2 := rfl
 refine FnOk.intro Tryz.func82 (by decide) Z Z Z Z ?_
 refine k2 ?_
 refine A3 (C0 (R0 1 Z Z Z) Z (A2 (A5 Z Z) Z (A6 ?_)))
 refine k1 (k2 ?_)
 refine A3 (A2 (A5 Z Z) Z (A6 ?_))
 refine H8 ?_
 refine U7 [(1, .s (.one (.ref 1 0))), (3, F9 (Q5 c.Dense))] [(1, r9 c)] ?_ ?_
 ·refine k2 ?_
  refine A3 (A2 (A7 Z) Z (A2 (B0 Z Z Z) Z (A6 ?_)))
  refine k1 ?_
  refine B2 rfl (fun ht => ?_) (fun ht => ?_)
  ·have h : c.Dense = true := ht
   skip
   refine A3 (A2 (A5 Z Z) Z (A6 ?_))
   refine k1 ?_
   rw [show Q5 c.Dense = ccS by unfold Q5; rw [if_pos h]]
   exact Sees.of ⟨le1 rfl, le1 rfl, trivial⟩ ⟨rfl, trivial⟩
  ·have h : c.Dense = false := ht
   refine k5 (k1 ?_)
   rw [show Q5 c.Dense = combS by unfold Q5; rw [h, if_neg (by decide)]]
   exact Sees.of ⟨le1 rfl, le1 rfl, trivial⟩ ⟨rfl, trivial⟩
 refine k2 ?_
 refine r7 11 (by kernel_rfl) (by kernel_rfl) Z (B1 (A4 Z Z) Z Z (B1 (A7 Z) Z Z (B1 (B0 Z Z Z) Z Z (B1 (G4 (rquote_ok c.Path (by omega)) Z Z) Z Z (B1 (D8 Z Z (by (first | omega | (simp only [List.length_append, List.length_cons, List.length_nil]; omega)))) Z Z (B1 (D8 Z Z (by (first | omega | (simp only [List.length_append, List.length_cons, List.length_nil]; omega)))) Z Z (B1 (A7 Z) Z Z (B1 (B0 Z Z Z) Z Z (B1 (G4 (m3 c.Parents) Z Z) Z Z (B1 (D8 Z Z (by (first | omega | (simp only [List.length_append, List.length_cons, List.length_nil]; omega)))) Z Z (B1 (D8 Z Z (by (first | omega | (simp only [List.length_append, List.length_cons, List.length_nil]; omega)))) Z Z (J4 (d_turn (f_buildBuf 722 (c := K9) (ys := (j6 c)) (F8 Z Z Z Z (F8 Z Z Z Z H5)) Z Z Z (by first | rfl | (simp [J6, N1, Ob.free, SV.free, S1.free, TC.free] <;> rfl))) Z ?_))))))))))))); refine B1 (A5 Z Z) Z Z (J4 ?_)
 refine k1 (k2 (k2 ?_))
 refine A3 (A2 (A5 Z Z) Z (A6 ?_))
 refine k1 (k3 ?_)
 refine E0 (X := Nat) (fun k => ([(1, .s (.one (.ref 1 0))), (4, .s (.one (.buf 722 Str 1 K9 (j6 c ++ ((c.Hunks.take k).map (K6 n)).flatten)))), (5, C3 k)], [(1, r9 c), (722, .spare (j6 c ++ ((c.Hunks.take k).map (K6 n)).flatten).length 1 9)])) (fun k => k ≤ c.Hunks.length) (fun k => c.Hunks.length - k) 0 (Nat.zero_le _) (Sees.of ⟨le1 rfl, le1 rfl, le1 rfl, trivial⟩ ⟨rfl, rfl, trivial⟩) ?_
 intro k hk
 dsimp only at hk ⊢
 have hcp := chunksPs_two n (c.Hunks.take k)
 have hct2 := szC_take c.Hunks k
 refine k2 (k2 ?_)
 refine A3 (A2 (A4 Z Z) Z (A2 (A7 Z) Z (A2 (B0 Z Z Z) Z (A2 (I2 Z (.pure _ _ _ _)) Z (A2 (D5 Z Z) Z (A6 ?_))))))
 refine k1 ?_
 refine B2 rfl (fun ht => ?_) (fun ht => ?_)
 ·have hlt : k < c.Hunks.length := by have := A0 ht; omega
  have hv : c.Hunks[k]? = some c.Hunks[k] := by simp [hlt]
  have hmem := List.getElem_mem hlt
  have hrw := h4 _ hmem
  have hat := h5 _ hmem
  have hzm := q8 hmem
  have hsucc : ((c.Hunks.take (k + 1)).map (K6 n)).flatten = ((c.Hunks.take k).map (K6 n)).flatten ++ K6 n c.Hunks[k] := by
   rw [List.take_succ_eq_append_getElem hlt]
   simp only [List.map_append, List.map_cons, List.map_nil, List.flatten_append, List.flatten_cons, List.flatten_nil, List.append_nil]
  obtain ⟨h, hx⟩ : ∃ x, x = c.Hunks[k] := ⟨_, rfl⟩
  rw [← hx] at hv hrw hat hzm hsucc
  have hz1 := S2 h.Rows
  unfold s8 at hzm
  have hhl := headC_len hn h
  have hgA : ∀ j, j < n + 1 → h.At[j]? = some (h.At.getD j 0) := fun j hj => getI (by omega)
  have hrA : ∀ j, j < n + 1 → -4611686018427387904 ≤ h.At.getD j 0 ∧ h.At.getD j 0 ≤ 4611686018427387904 := fun j hj => hat.2 _ (List.mem_of_getElem? (hgA j hj))
  obtain ⟨base, hbase⟩ : ∃ base, base = j6 c ++ ((c.Hunks.take k).map (K6 n)).flatten := ⟨_, rfl⟩
  have hbl : base.length ≤ 2 + 268435456 := by rw [hbase, List.length_append]; omega
  rw [← hbase]
  refine k5 (k1 (k2 (k3 (k2 ?_))))
  refine A3 (A2 (A7 Z) Z (A2 (B0 Z Z Z) Z (A2 (A4 Z Z) Z (A2 (B8 Z (.pure _ _ _ _) Z (by omega) hv) Z (A2 (H2 Z Z) Z (C0 (F0 6 Z) Z (D7 (B6 TySz.out Z Z Z Z Z Z) (A6 ?_))))))))
  refine k1 (k2 ?_)
  refine A3 (A2 (A7 Z) Z (A2 (B0 Z Z Z) Z (A2 (B9 Z Z (by omega)) Z (B7 (hats) Z Z Z ?_)))); rintro _ rfl; refine A2 (A5 Z Z) Z (A6 ?_)
  refine k1 (k2 (k2 ?_))
  refine A3 (A2 (A5 Z Z) Z (A6 ?_))
  refine k1 (k3 ?_)
  refine E0 (X := Nat) (fun j => ([(1, .s (.one (.ref 1 0))), (4, .s (.one (.buf 722 Str 1 K9 base))), (5, C3 k), (6, .s (.one (.ref 6 0))), (7, F9 (atS (n + 1) ++ N6 n h j)), (8, C3 j)], [(1, r9 c), (722, .spare base.length 1 9), (6, .box (pChunk h).s1.cells)])) (fun j => j ≤ n + 1) (fun j => n + 1 - j) 0 (Nat.zero_le _) ?_ ?_
  ·rw [show N6 n h 0 = [] from rfl, List.append_nil]
   exact Sees.of ⟨le1 rfl, le1 rfl, le1 rfl, le1 rfl, le1 rfl, le1 rfl, trivial⟩ ⟨rfl, rfl, rfl, trivial⟩
  intro j hj
  dsimp only at hj ⊢
  have hsl := sidesW_len n h j
  have hss := q9 n h j
  refine k2 (k2 ?_)
  refine A3 (A2 (A4 Z Z) Z (A2 (A7 Z) Z (A2 (B0 Z Z Z) Z (A2 (o3 Z Z) Z (A6 ?_)))))
  refine k1 ?_
  refine B2 rfl (fun ht => ?_) (fun ht => ?_)
  ·have hlt2 : j < n + 1 := by have := A0 ht; omega
   have hga := hgA j hlt2
   have hra := hrA j hlt2
   have hcl := colOf_len h.Rows (I9 n j)
   have hrl := p5 (h.At.getD j 0) (K4 h.Rows n j)
   have hcol := column16_ok h.Rows (I9 n j) hrw (by omega)
   have hcn := rcolumn_ok j n
   rw [← hNc] at hcn
   have hrr := rrange_ok (h.At.getD j 0) ((L4 h.Rows (I9 n j)).length : Int) hra (by omega)
   have hsw : p9 n h j = [32, J2 n j] ++ E9 (h.At.getD j 0) ((L4 h.Rows (I9 n j)).length : Int) := rfl
   have hrl : (E9 (h.At.getD j 0) ((L4 h.Rows (I9 n j)).length : Int)).length ≤ 21 := hrl
   obtain ⟨S, hS⟩ : ∃ S, S = atS (n + 1) ++ N6 n h j := ⟨_, rfl⟩
   have hSl : S.length ≤ 1000 := by rw [hS, List.length_append]; omega
   have hSs : atS (n + 1) ++ N6 n h (j + 1) = S ++ [32, J2 n j] ++ E9 (h.At.getD j 0) ((L4 h.Rows (I9 n j)).length : Int) := by rw [hss, hS, hsw]; simp
   rw [← hS]
   refine k5 (k1 (k2 (k3 (k2 ?_))))
   refine A3 (A2 (A5 Z Z) Z (A6 ?_))
   refine k1 (k2 (k2 ?_))
   refine A3 (A2 (A4 Z Z) Z (A2 (A7 Z) Z (A2 (B0 Z Z Z) Z (A2 (E8 Z Z) Z (A6 ?_)))))
   refine k1 ?_
   refine B2 rfl (fun ht => ?_) (fun ht => ?_)
   ·have hjn := A0 ht
    have hsg : J2 n j = 43 := by unfold J2; rw [if_pos (by omega)]
    rw [hsg] at hSs
    skip
    refine A3 (A2 (A5 Z Z) Z (A6 ?_))
    refine k1 ?_
    refine D1 (by kernel_rfl) (by kernel_rfl) (B1 (A4 Z Z) Z Z (B1 (A4 Z Z) Z Z (B1 (D8 Z Z (by (first | omega | (simp only [List.length_append, List.length_cons, List.length_nil]; omega)))) Z Z (B1 (A7 Z) Z Z (B1 (B0 Z Z Z) Z Z (B1 (A4 Z Z) Z Z (B1 (B8 Z (.pure _ _ _ _) Z (by omega) hga) Z Z (B1 (C2 Z Z) Z Z (B1 (A7 Z) Z Z (B1 (B0 Z Z Z) Z Z (B1 (A4 Z Z) Z Z (B1 (A7 Z) Z Z (B1 (B0 Z Z Z) Z Z (B1 (G4 (hcn) Z Z) Z Z (B1 (G4 (hcol) Z Z) Z Z (B1 (I2 Z (.pure _ _ _ _)) Z Z (B1 (G4 (hrr) Z Z) Z Z (B1 (D8 Z Z (by (first | omega | (simp only [List.length_append, List.length_cons, List.length_nil]; omega)))) Z Z (B1 (A5 Z Z) Z Z (J4 ?_))))))))))))))))))))
    refine k4 (k1 ?_)
    refine A3 (A2 (A4 Z Z) Z (A2 (B9 Z Z (by omega)) Z (A2 (A5 Z Z) Z (A6 ?_))))
    refine k1 ?_
    refine ⟨j + 1, by omega, by omega, ?_⟩
    rw [hSs]
    exact Sees.of ⟨le1 rfl, le1 rfl, le1 rfl, le1 rfl, le1 rfl, le1 rfl, trivial⟩ ⟨rfl, rfl, rfl, trivial⟩
   ·have hjn := A1 ht
    have hsg : J2 n j = 45 := by unfold J2; rw [if_neg (by omega)]
    rw [hsg] at hSs
    refine k5 (k1 ?_)
    refine D1 (by kernel_rfl) (by kernel_rfl) (B1 (A4 Z Z) Z Z (B1 (A4 Z Z) Z Z (B1 (D8 Z Z (by (first | omega | (simp only [List.length_append, List.length_cons, List.length_nil]; omega)))) Z Z (B1 (A7 Z) Z Z (B1 (B0 Z Z Z) Z Z (B1 (A4 Z Z) Z Z (B1 (B8 Z (.pure _ _ _ _) Z (by omega) hga) Z Z (B1 (C2 Z Z) Z Z (B1 (A7 Z) Z Z (B1 (B0 Z Z Z) Z Z (B1 (A4 Z Z) Z Z (B1 (A7 Z) Z Z (B1 (B0 Z Z Z) Z Z (B1 (G4 (hcn) Z Z) Z Z (B1 (G4 (hcol) Z Z) Z Z (B1 (I2 Z (.pure _ _ _ _)) Z Z (B1 (G4 (hrr) Z Z) Z Z (B1 (D8 Z Z (by (first | omega | (simp only [List.length_append, List.length_cons, List.length_nil]; omega)))) Z Z (B1 (A5 Z Z) Z Z (J4 ?_))))))))))))))))))))
    refine k4 (k1 ?_)
    refine A3 (A2 (A4 Z Z) Z (A2 (B9 Z Z (by omega)) Z (A2 (A5 Z Z) Z (A6 ?_))))
    refine k1 ?_
    refine ⟨j + 1, by omega, by omega, ?_⟩
    rw [hSs]
    exact Sees.of ⟨le1 rfl, le1 rfl, le1 rfl, le1 rfl, le1 rfl, le1 rfl, trivial⟩ ⟨rfl, rfl, rfl, trivial⟩
  ·have hjn : j = n + 1 := by have := A1 ht; omega
   subst hjn
   obtain ⟨S, hS⟩ : ∃ S, S = atS (n + 1) ++ N6 n h (n + 1) := ⟨_, rfl⟩
   have hSl : S.length ≤ 1000 := by rw [hS, List.length_append]; omega
   have hhd : O8 n h ++ [10] = S ++ [32] ++ atS (n + 1) ++ [10] := by unfold O8; rw [hS]
   rw [← hS]
   refine k6 (k2 ?_)
   refine A3 (A2 (A4 Z Z) Z (A2 (A4 Z Z) Z (A2 (D8 Z Z (by (first | omega | (simp only [List.length_append, List.length_cons, List.length_nil]; omega)))) Z (A2 (A7 Z) Z (A2 (B0 Z Z Z) Z (A2 (B9 Z Z (by omega)) Z (B7 (hats) Z Z Z ?_))))))); rintro _ rfl; refine A2 (D8 Z Z (by (first | omega | (simp only [List.length_append, List.length_cons, List.length_nil]; omega)))) Z (A2 (D8 Z Z (by (first | omega | (simp only [List.length_append, List.length_cons, List.length_nil]; omega)))) Z (A2 (D9 (c := K9) (ys := [_]) (F8 Z Z Z Z H5) Z Z Z) Z (C0 (J0 Z Z Z (.pure _ _ _ _) (by (simp only [List.length_cons, List.length_nil]; omega)) Z) Z (A2 (A5 Z Z) Z (A6 ?_)))))
   rw [← hhd]
   refine k1 (k2 ?_)
   refine A3 (A2 (A5 Z Z) Z (A6 ?_))
   refine k1 (k3 ?_)
   obtain ⟨hd, hhd2⟩ : ∃ hd, hd = O8 n h ++ [10] := ⟨_, rfl⟩
   rw [← hhd2]
   refine E0 (X := Nat) (fun i => ([(1, .s (.one (.ref 1 0))), (4, .s (.one (.buf 722 Str 1 K9 (base ++ (hd :: ((h.Rows.take i).map (P8 n)).flatten))))), (5, C3 k), (6, .s (.one (.ref 6 0))), (10, C3 i)], [(1, r9 c), (722, .spare (base ++ (hd :: ((h.Rows.take i).map (P8 n)).flatten)).length 1 9), (6, .box (pChunk h).s1.cells)])) (fun i => i ≤ h.Rows.length) (fun i => h.Rows.length - i) 0 (Nat.zero_le _) (Sees.of ⟨le1 rfl, le1 rfl, le1 rfl, le1 rfl, le1 rfl, trivial⟩ ⟨rfl, rfl, rfl, trivial⟩) ?_
   intro i hi
   dsimp only at hi ⊢
   have hrp := rowsPs_two n (h.Rows.take i)
   have hrt := szRow_take h.Rows i
   refine k2 (k2 ?_)
   refine A3 (A2 (A4 Z Z) Z (A2 (A7 Z) Z (A2 (B0 Z Z Z) Z (A2 (I2 Z (.pure _ _ _ _)) Z (A2 (D5 Z Z) Z (A6 ?_))))))
   refine k1 ?_
   refine B2 rfl (fun ht => ?_) (fun ht => ?_)
   ·have hlt2 : i < h.Rows.length := by have := A0 ht; omega
    have hv2 : h.Rows[i]? = some h.Rows[i] := by simp [hlt2]
    have hmem2 := List.getElem_mem hlt2
    have hrm := szRow_mem hmem2
    have hmm := hrw _ hmem2
    have hsucc2 : ((h.Rows.take (i + 1)).map (P8 n)).flatten = ((h.Rows.take i).map (P8 n)).flatten ++ P8 n h.Rows[i] := by
     rw [List.take_succ_eq_append_getElem hlt2]
     simp only [List.map_append, List.map_cons, List.map_nil, List.flatten_append, List.flatten_cons, List.flatten_nil, List.append_nil]
    obtain ⟨r, hy⟩ : ∃ x, x = h.Rows[i] := ⟨_, rfl⟩
    rw [← hy] at hv2 hrm hmm hsucc2
    have hrm : r.Text.length + 96 ≤ (h.Rows.map N0).sum := hrm
    have hml := Q7 n r
    have hmk := rmarked18_ok r n hn hmm
    rw [← hNc] at hmk
    obtain ⟨bs, hbs⟩ : ∃ bs, bs = base ++ (hd :: ((h.Rows.take i).map (P8 n)).flatten) := ⟨_, rfl⟩
    have hbsl : bs.length ≤ 2 + 268435456 + 1 + 268435456 := by rw [hbs, List.length_append, List.length_cons]; omega
    have hsucc3 : base ++ (hd :: ((h.Rows.take (i + 1)).map (P8 n)).flatten) = bs ++ P8 n r := by rw [hsucc2, hbs]; simp
    rw [← hbs]
    refine k5 (k1 (k2 (k3 (k2 ?_))))
    refine D1 (by kernel_rfl) (by kernel_rfl) (B1 (A4 Z Z) Z Z (B1 (A7 Z) Z Z (B1 (B0 Z Z Z) Z Z (B1 (A4 Z Z) Z Z (B1 (B8 Z (.pure _ _ _ _) Z (by omega) hv2) Z Z (B1 (H2 Z Z) Z Z (B1 (A7 Z) Z Z (B1 (B0 Z Z Z) Z Z (B1 (G4 (hmk) Z Z) Z Z (B1 (A7 Z) Z Z (B1 (B0 Z Z Z) Z Z (B1 (A4 Z Z) Z Z (B1 (B8 Z (.pure _ _ _ _) Z (by omega) hv2) Z Z (B1 (J9 Z) Z Z (B1 (C2 Z Z) Z Z (B1 (D8 Z Z (by (first | omega | (simp only [List.length_append, List.length_cons, List.length_nil]; omega)))) Z Z (B1 (D9 (c := K9) (ys := [_]) (F8 Z Z Z Z H5) Z Z Z) Z Z (d_effv (J0 Z Z Z (.pure _ _ _ _) (by (simp only [List.length_cons, List.length_nil]; omega)) Z) Z Z (B1 (A5 Z Z) Z Z (J4 ?_))))))))))))))))))))
    refine k1 (k2 ?_)
    refine A3 (A2 (A7 Z) Z (A2 (B0 Z Z Z) Z (A2 (A4 Z Z) Z (A2 (B8 Z (.pure _ _ _ _) Z (by omega) hv2) Z (A2 (J9 Z) Z (A2 (C2 Z Z) Z (B7 (ended_ok r.Text (by omega)) Z Z Z ?_))))))); rintro _ rfl; refine A2 (D3 Z) Z (A6 ?_)
    refine k1 ?_
    refine B2 rfl (fun ht => ?_) (fun ht => ?_)
    ·have he : ended r.Text = false := by simpa using ht
     have e : P8 n r = [H9 n r ++ r.Text] ++ [markS] := by unfold P8; rw [he, if_neg (by decide)]; rfl
     skip
     refine A3 (A2 (A4 Z Z) Z (A2 (D9 (c := K9) (ys := [markS]) (F8 Z Z Z Z H5) Z Z Z) Z (C0 (J0 Z Z Z (.pure _ _ _ _) (by (first | omega | (simp only [List.length_append, List.length_cons, List.length_nil]; omega))) Z) Z (A2 (A5 Z Z) Z (A6 ?_)))))
     refine k4 (k1 ?_)
     refine A3 (A2 (A4 Z Z) Z (A2 (B9 Z Z (by omega)) Z (A2 (A5 Z Z) Z (A6 ?_))))
     refine k1 ?_
     refine ⟨i + 1, by omega, by omega, ?_⟩
     rw [hsucc3, e, ← List.append_assoc]
     exact Sees.of ⟨le1 rfl, le1 rfl, le1 rfl, le1 rfl, le1 rfl, trivial⟩ ⟨rfl, rfl, rfl, trivial⟩
    ·have he : ended r.Text = true := by simpa using ht
     have e : P8 n r = [H9 n r ++ r.Text] := by unfold P8; rw [if_pos he]
     refine k5 (k4 (k1 ?_))
     refine A3 (A2 (A4 Z Z) Z (A2 (B9 Z Z (by omega)) Z (A2 (A5 Z Z) Z (A6 ?_))))
     refine k1 ?_
     refine ⟨i + 1, by omega, by omega, ?_⟩
     rw [hsucc3, e]
     exact Sees.of ⟨le1 rfl, le1 rfl, le1 rfl, le1 rfl, le1 rfl, trivial⟩ ⟨rfl, rfl, rfl, trivial⟩
   ·have hil : i = h.Rows.length := by have := A1 ht; omega
    subst hil
    rw [List.take_length]
    have e : j6 c ++ ((c.Hunks.take (k + 1)).map (K6 n)).flatten = base ++ (hd :: (h.Rows.map (P8 n)).flatten) := by
     rw [hsucc, ← List.append_assoc, ← hbase, hhd2]; rfl
    refine k6 (k7 (k7 (k8 Z (k4 (k1 ?_)))))
    refine A3 (A2 (A4 Z Z) Z (A2 (B9 Z Z (by omega)) Z (A2 (A5 Z Z) Z (A6 ?_))))
    refine k1 ?_
    refine ⟨k + 1, by omega, by omega, ?_⟩
    rw [e]
    exact Sees.of ⟨le1 rfl, le1 rfl, le1 rfl, trivial⟩ ⟨rfl, rfl, trivial⟩
 ·have hkl : k = c.Hunks.length := by have := A1 ht; omega
  subst hkl
  have e : (j6 c ++ ((c.Hunks.take c.Hunks.length).map (K6 n)).flatten).flatten = N7 c := by
   rw [List.take_length, hN]; unfold N7 combPs j6; simp
  rw [cTo_full] at hct
  have hao := all_ok (j6 c ++ ((c.Hunks.take c.Hunks.length).map (K6 n)).flatten) (by rw [e]; omega)
  rw [e] at hao
  refine k6 (k2 ?_)
  refine A3 (A2 (A4 Z Z) Z (B7 (hao) Z Z Z ?_)); rintro _ rfl; refine A2 (A5 Z Z) Z (A6 ?_)
  refine k1 (k10 ?_)
  exact B5 (F3 rfl rfl rfl) rfl
theorem rcheck18_ok (c : Comb) (hz : szC c.Hunks ≤ 268435456) (hr : ∀ h ∈ c.Hunks, L0 h.Rows) : FnOk Tryz.prog 50 [I7 c] (fun rs => rs = [E2 (G6 c)]) := by
 refine FnOk.intro Tryz.func50 (by decide) Z Z Z Z ?_
 refine k2 ?_
 refine A3 (C0 (R0 1 Z Z Z) Z (A2 (A5 Z Z) Z (A6 ?_)))
 refine k1 (k2 (k3 (k2 ?_)))
 refine A3 (A2 (A7 Z) Z (A2 (B0 Z Z Z) Z (B7 (rname_ok c.Path) Z Z Z ?_))); rintro _ rfl; refine A2 (D3 Z) Z (A2 (A5 Z Z) Z (A6 ?_))
 refine k1 ?_
 refine B2 rfl (fun ht => ?_) (fun ht => ?_)
 ·have h : d9 c.Path = false := by simpa using ht
  refine k2 ?_
  refine A3 (A2 (A5 Z Z) Z (A6 ?_))
  refine k1 (k10 (k12 (k11 ?_)))
  exact B5 (F3 rfl rfl rfl) (by unfold G6; rw [if_pos h])
 have h : d9 c.Path = true := by simpa using ht
 have hpl := A0 h
 refine k2 ?_
 refine A3 (A2 (A7 Z) Z (A2 (B0 Z Z Z) Z (A2 (D5 Z Z) Z (A2 (A4 Z Z) Z (A8 Z Z Z Z (fun hg => by rw [hg]; exact A7 Z) ?_))))); refine A8 Z Z Z Z (fun hg => by rw [hg]; exact B0 Z Z Z) ?_; refine A8 Z Z Z Z (fun hg => by rw [hg]; exact M7 Z Z) ?_; refine A2 (B3 Z (fun h => by first | rfl | (rw [h]; rfl)) (fun h => by first | rfl | (rw [h]; rfl))) Z ?_; refine A2 (A5 Z Z) Z (A6 ?_)
 refine k1 ?_
 refine B2 rfl (fun ht => ?_) (fun ht => ?_)
 ·have h1 := A0 (or_pick.symm.trans ht)
  refine k2 ?_
  refine A3 (A2 (A5 Z Z) Z (A6 ?_))
  refine k1 (k10 (k12 (k11 ?_)))
  exact B5 (F3 rfl rfl rfl) (by unfold G6; rw [if_neg (by rw [h]; decide), if_pos (by omega)])
 have h1 := A1 (or_pick.symm.trans ht)
 have hn : 1 ≤ c.Parents ∧ c.Parents ≤ 32 := by omega
 refine k2 ?_
 refine A3 (A2 (C1 Z Z Z) Z (B7 (rmarks18_ok c (by omega) hr hz) Z Z Z ?_)); rintro _ rfl; refine A2 (D3 Z) Z (A2 (A5 Z Z) Z (A6 ?_))
 refine k1 ?_
 refine B2 rfl (fun ht => ?_) (fun ht => ?_)
 ·have h2 : S6 c.Parents.toNat c.Hunks = false := by simpa using ht
  refine k2 ?_
  refine A3 (A2 (A5 Z Z) Z (A6 ?_))
  refine k1 (k10 (k12 (k11 ?_)))
  exact B5 (F3 rfl rfl rfl) (by unfold G6; rw [if_neg (by rw [h]; decide), if_neg (by omega), if_pos h2])
 have h2 : S6 c.Parents.toNat c.Hunks = true := by simpa using ht
 refine k2 ?_
 refine A3 (A2 (C1 Z Z Z) Z (B7 (rhunks18_ok c hn hr hz) Z Z Z ?_)); rintro _ rfl; refine A2 (D3 Z) Z (A2 (A5 Z Z) Z (A6 ?_))
 refine k1 ?_
 refine B2 rfl (fun ht => ?_) (fun ht => ?_)
 ·have h3 : M8 c.Parents.toNat c.Hunks = false := by simpa using ht
  refine k2 ?_
  refine A3 (A2 (A5 Z Z) Z (A6 ?_))
  refine k1 (k10 (k12 (k11 ?_)))
  exact B5 (F3 rfl rfl rfl) (by unfold G6; rw [if_neg (by rw [h]; decide), if_neg (by omega), if_neg (by rw [h2]; decide), if_pos h3])
 have h3 : M8 c.Parents.toNat c.Hunks = true := by simpa using ht
 refine k2 ?_
 refine A3 (A2 (C1 Z Z Z) Z (B7 (rwrite18_ok c (check_fit (by omega) hn hz hr h3)) Z Z Z ?_)); rintro _ rfl; refine A2 (C6 Z) Z (A2 (M7 Z Z) Z (A2 (A5 Z Z) Z (A6 ?_)))
 refine k1 ?_
 refine B2 rfl (fun ht => ?_) (fun ht => ?_)
 ·have h4 := A0 ht
  refine k2 ?_
  refine A3 (A2 (A5 Z Z) Z (A6 ?_))
  refine k1 (k10 (k12 (k11 ?_)))
  exact B5 (F3 rfl rfl rfl) (by unfold G6; rw [if_neg (by rw [h]; decide), if_neg (by omega), if_neg (by rw [h2]; decide), if_neg (by rw [h3]; decide), if_pos (by omega)])
 have h4 := A1 ht
 refine k5 (k2 ?_)
 refine A3 (A2 (A5 Z Z) Z (A6 ?_))
 refine k1 (k10 ?_)
 exact B5 (F3 rfl rfl rfl) (by unfold G6; rw [if_neg (by rw [h]; decide), if_neg (by omega), if_neg (by rw [h2]; decide), if_neg (by rw [h3]; decide), if_neg (by omega)])
abbrev rowV (q : Row) : List Value := [.bool q.Lost, .int .u32 q.Marks, .string ⟨q.Text.toArray⟩]
theorem row_eq (q q' : Row) : eqVs (rowV q) (rowV q') = decide (q = q') := by
 rw [Bool.eq_iff_iff]
 simp only [eqVs, eqV, ByteArray.toList_mk, Bool.and_eq_true, beq_iff_eq, decide_eq_true_eq, Bool.and_true]
 constructor
 ·rintro ⟨h1, h2, h3⟩
  obtain ⟨k, m, t⟩ := q
  obtain ⟨k', m', t'⟩ := q'
  obtain rfl : k = k' := h1
  obtain rfl : m = m' := h2
  obtain rfl : t = t' := h3
  rfl
 ·rintro rfl; exact ⟨rfl, rfl, rfl⟩
theorem gints_ok (a : List Int) (ha : a.length ≤ 1099511627776) : FnOk Tryz.prog 86 [t7 a, t7 a] (fun rs => rs = [C4 true]) := by
 refine FnOk.intro Tryz.func86 (by decide) Z Z Z Z ?_
 refine k2 ?_
 refine A3 (A2 (A5 Z Z) Z (A6 ?_))
 refine k1 (k2 (k2 ?_))
 refine A3 (A2 (A4 Z Z) Z (A2 (I2 Z (.pure _ _ _ _)) Z (A2 (A4 Z Z) Z (A2 (I2 Z (.pure _ _ _ _)) Z (A2 (O7 Z Z) Z (A6 ?_))))))
 refine k1 ?_
 refine B2 rfl (fun ht => ?_) (fun ht => ?_)
 ·exact absurd rfl (A0 ht)
 refine k5 (k1 (k2 (k2 ?_)))
 refine A3 (A2 (A5 Z Z) Z (A6 ?_))
 refine k1 (k3 ?_)
 refine E0 (X := Nat) (fun i => ([(0, F4 Int 1 H7 a), (1, F4 Int 1 H7 a), (5, C3 i)], [])) (fun i => i ≤ a.length) (fun i => a.length - i) 0 (Nat.zero_le _) (Sees.of ⟨le1 rfl, le1 rfl, le1 rfl, trivial⟩ trivial) ?_
 intro i hi
 dsimp only at hi ⊢
 refine k2 (k2 ?_)
 refine A3 (A2 (A4 Z Z) Z (A2 (A4 Z Z) Z (A2 (I2 Z (.pure _ _ _ _)) Z (A2 (D5 Z Z) Z (A6 ?_)))))
 refine k1 ?_
 refine B2 rfl (fun ht => ?_) (fun ht => ?_)
 ·have hlt : i < a.length := by have := A0 ht; omega
  have hv := getI hlt
  refine k5 (k1 (k2 (k3 (k2 ?_))))
  refine D1 (by kernel_rfl) (by kernel_rfl) (B1 (A4 Z Z) Z Z (B1 (A4 Z Z) Z Z (B1 (B8 Z (.pure _ _ _ _) Z (by omega) hv) Z Z (B1 (C2 Z Z) Z Z (B1 (A4 Z Z) Z Z (B1 (A4 Z Z) Z Z (B1 (B8 Z (.pure _ _ _ _) Z (by omega) hv) Z Z (B1 (C2 Z Z) Z Z (B1 (O7 Z Z) Z Z (J4 ?_))))))))))
  refine k1 ?_
  refine B2 rfl (fun ht => ?_) (fun ht => ?_)
  ·exact absurd rfl (A0 ht)
  refine k5 (k4 (k1 ?_))
  refine A3 (A2 (A4 Z Z) Z (A2 (B9 Z Z (by omega)) Z (A2 (A5 Z Z) Z (A6 ?_))))
  refine k1 ?_
  exact ⟨i + 1, by omega, by omega, Sees.of ⟨le1 rfl, le1 rfl, le1 rfl, trivial⟩ trivial⟩
 ·refine k6 (k2 ?_)
  refine A3 (A2 (A5 Z Z) Z (A6 ?_))
  refine k1 (k10 ?_)
  exact B5 (rs := [C4 true]) (F3 rfl rfl rfl) rfl
theorem grows_ok (a : List Row) (ha : a.length ≤ 1099511627776) : FnOk Tryz.prog 87 [pRows a, pRows a] (fun rs => rs = [C4 true]) := by
 refine FnOk.intro Tryz.func87 (by decide) Z Z Z Z ?_
 refine k2 ?_
 refine A3 (A2 (A5 Z Z) Z (A6 ?_))
 refine k1 (k2 (k2 ?_))
 refine A3 (A2 (A4 Z Z) Z (A2 (I2 Z (.pure _ _ _ _)) Z (A2 (A4 Z Z) Z (A2 (I2 Z (.pure _ _ _ _)) Z (A2 (O7 Z Z) Z (A6 ?_))))))
 refine k1 ?_
 refine B2 rfl (fun ht => ?_) (fun ht => ?_)
 ·exact absurd rfl (A0 ht)
 refine k5 (k1 (k2 (k2 ?_)))
 refine A3 (A2 (A5 Z Z) Z (A6 ?_))
 refine k1 (k3 ?_)
 refine E0 (X := Nat) (fun i => ([(0, F4 Row 3 rowC a), (1, F4 Row 3 rowC a), (5, C3 i)], [])) (fun i => i ≤ a.length) (fun i => a.length - i) 0 (Nat.zero_le _) (Sees.of ⟨le1 rfl, le1 rfl, le1 rfl, trivial⟩ trivial) ?_
 intro i hi
 dsimp only at hi ⊢
 refine k2 (k2 ?_)
 refine A3 (A2 (A4 Z Z) Z (A2 (A4 Z Z) Z (A2 (I2 Z (.pure _ _ _ _)) Z (A2 (D5 Z Z) Z (A6 ?_)))))
 refine k1 ?_
 refine B2 rfl (fun ht => ?_) (fun ht => ?_)
 ·have hlt : i < a.length := by have := A0 ht; omega
  have hv : a[i]? = some a[i] := by simp [hlt]
  obtain ⟨r, hr⟩ : ∃ r, r = a[i] := ⟨_, rfl⟩
  rw [← hr] at hv
  refine k5 (k1 (k2 (k3 (k2 ?_))))
  refine D1 (by kernel_rfl) (by kernel_rfl) (B1 (A4 Z Z) Z Z (B1 (A4 Z Z) Z Z (B1 (B8 Z (.pure _ _ _ _) Z (by omega) hv) Z Z (B1 (H2 Z Z) Z Z (B1 (A4 Z Z) Z Z (B1 (A4 Z Z) Z Z (B1 (B8 Z (.pure _ _ _ _) Z (by omega) hv) Z Z (B1 (H2 Z Z) Z Z (B1 (n_neq_st (rowV r) (rowV r) Z Z Z Z ((row_eq r r).trans (decide_eq_true Z))) Z Z (J4 ?_))))))))))
  refine k1 ?_
  refine B2 rfl (fun ht => ?_) (fun ht => ?_)
  ·cases ht
  refine k5 (k4 (k1 ?_))
  refine A3 (A2 (A4 Z Z) Z (A2 (B9 Z Z (by omega)) Z (A2 (A5 Z Z) Z (A6 ?_))))
  refine k1 ?_
  exact ⟨i + 1, by omega, by omega, Sees.of ⟨le1 rfl, le1 rfl, le1 rfl, trivial⟩ trivial⟩
 ·refine k6 (k2 ?_)
  refine A3 (A2 (A5 Z Z) Z (A6 ?_))
  refine k1 (k10 ?_)
  exact B5 (rs := [C4 true]) (F3 rfl rfl rfl) rfl
theorem gcomb_ok (c : Comb) (hz : szC c.Hunks ≤ 1099511627776) : FnOk Tryz.prog 38 [I7 c, I7 c] (fun rs => rs = [C4 true]) := by
 have hzl := j7 c.Hunks
 refine FnOk.intro Tryz.func38 (by decide) Z Z Z Z ?_
 refine k2 ?_
 refine A3 (C0 (R0 2 Z Z Z) Z (C0 (R0 3 Z Z Z) Z (A2 (A5 Z Z) Z (A6 ?_))))
 refine k1 (k2 (k2 ?_))
 refine A3 (A2 (A7 Z) Z (A2 (B0 Z Z Z) Z (A2 (A7 Z) Z (A2 (B0 Z Z Z) Z (A2 (V6 Z Z) Z (A2 (A4 Z Z) Z (A8 Z Z Z Z (fun hg => by rw [hg]; exact A7 Z) ?_))))))); refine A8 Z Z Z Z (fun hg => by rw [hg]; exact B0 Z Z Z) ?_; refine A8 Z Z Z Z (fun hg => by rw [hg]; exact A7 Z) ?_; refine A8 Z Z Z Z (fun hg => by rw [hg]; exact B0 Z Z Z) ?_; refine A8 Z Z Z Z (fun hg => by rw [hg]; exact n_neq_b Z Z TyBool.out) ?_; refine A2 (B3 Z (fun h => by first | rfl | (rw [h]; rfl)) (fun h => by first | rfl | (rw [h]; rfl))) Z ?_; refine A2 (A4 Z Z) Z (A8 Z Z Z Z (fun hg => by rw [hg]; exact A7 Z) ?_); refine A8 Z Z Z Z (fun hg => by rw [hg]; exact B0 Z Z Z) ?_; refine A8 Z Z Z Z (fun hg => by rw [hg]; exact A7 Z) ?_; refine A8 Z Z Z Z (fun hg => by rw [hg]; exact B0 Z Z Z) ?_; refine A8 Z Z Z Z (fun hg => by rw [hg]; exact O7 Z Z) ?_; refine A2 (B3 Z (fun h => by first | rfl | (rw [h]; rfl)) (fun h => by first | rfl | (rw [h]; rfl))) Z ?_; refine A2 (A4 Z Z) Z (A8 Z Z Z Z (fun hg => by rw [hg]; exact A7 Z) ?_); refine A8 Z Z Z Z (fun hg => by rw [hg]; exact B0 Z Z Z) ?_; refine A8 Z Z Z Z (fun hg => by rw [hg]; exact I2 Z (.pure _ _ _ _)) ?_; refine A8 Z Z Z Z (fun hg => by rw [hg]; exact A7 Z) ?_; refine A8 Z Z Z Z (fun hg => by rw [hg]; exact B0 Z Z Z) ?_; refine A8 Z Z Z Z (fun hg => by rw [hg]; exact I2 Z (.pure _ _ _ _)) ?_; refine A8 Z Z Z Z (fun hg => by rw [hg]; exact O7 Z Z) ?_; refine A2 (B3 Z (fun h => by first | rfl | (rw [h]; rfl)) (fun h => by first | rfl | (rw [h]; rfl))) Z ?_; refine A6 ?_
 refine k1 ?_
 refine B2 rfl (fun ht => ?_) (fun ht => ?_)
 ·exfalso; revert ht; simp
 refine T3 [(2, .s (.one (.ref 2 0))), (3, .s (.one (.ref 3 0)))] [(2, r9 c), (3, r9 c)] (Sees.of ⟨le1 rfl, le1 rfl, trivial⟩ ⟨rfl, rfl, trivial⟩) ?_
 refine k5 (k1 (k2 (k2 ?_)))
 refine A3 (A2 (A5 Z Z) Z (A6 ?_))
 refine k1 (k3 ?_)
 refine E0 (X := Nat) (fun k => ([(2, .s (.one (.ref 2 0))), (3, .s (.one (.ref 3 0))), (5, C3 k)], [(2, r9 c), (3, r9 c)])) (fun k => k ≤ c.Hunks.length) (fun k => c.Hunks.length - k) 0 (Nat.zero_le _) (Sees.of ⟨le1 rfl, le1 rfl, le1 rfl, trivial⟩ ⟨rfl, rfl, trivial⟩) ?_
 intro k hk
 dsimp only at hk ⊢
 refine k2 (k2 ?_)
 refine A3 (A2 (A4 Z Z) Z (A2 (A7 Z) Z (A2 (B0 Z Z Z) Z (A2 (I2 Z (.pure _ _ _ _)) Z (A2 (D5 Z Z) Z (A6 ?_))))))
 refine k1 ?_
 refine B2 rfl (fun ht => ?_) (fun ht => ?_)
 ·have hlt : k < c.Hunks.length := by have := A0 ht; omega
  have hv : c.Hunks[k]? = some c.Hunks[k] := by simp [hlt]
  have hzm := q8 (List.getElem_mem hlt)
  obtain ⟨h, hx⟩ : ∃ x, x = c.Hunks[k] := ⟨_, rfl⟩
  rw [← hx] at hv hzm
  have hz1 := S2 h.Rows
  unfold s8 at hzm
  refine k5 (k1 (k2 (k3 (k2 ?_))))
  refine D1 (by kernel_rfl) (by kernel_rfl) (B1 (A7 Z) Z Z (B1 (B0 Z Z Z) Z Z (B1 (A4 Z Z) Z Z (B1 (B8 Z (.pure _ _ _ _) Z (by omega) hv) Z Z (B1 (J9 Z) Z Z (B1 (C2 Z Z) Z Z (B1 (A7 Z) Z Z (B1 (B0 Z Z Z) Z Z (B1 (A4 Z Z) Z Z (B1 (B8 Z (.pure _ _ _ _) Z (by omega) hv) Z Z (B1 (J9 Z) Z Z (B1 (C2 Z Z) Z Z (B1 (G4 (gints_ok h.At (by omega)) Z Z) Z Z (B1 (D3 Z) Z Z (B1 (A4 Z Z) Z Z (E1 Z Z (fun hg => by rw [hg]; exact A7 Z) Z Z ?_)))))))))))))))); refine E1 Z Z (fun hg => by rw [hg]; exact B0 Z Z Z) Z Z ?_; refine E1 Z Z (fun hg => by rw [hg]; exact A4 Z Z) Z Z ?_; refine E1 Z Z (fun hg => by have hq := hg; (try simp at hq); rw [hg]; exact B8 Z (.pure _ _ _ _) Z (by omega) hv) Z Z ?_; refine E1 Z Z (fun hg => by rw [hg]; exact J9 Z) Z Z ?_; refine E1 Z Z (fun hg => by rw [hg]; exact C2 Z Z) Z Z ?_; refine E1 Z Z (fun hg => by rw [hg]; exact A7 Z) Z Z ?_; refine E1 Z Z (fun hg => by rw [hg]; exact B0 Z Z Z) Z Z ?_; refine E1 Z Z (fun hg => by rw [hg]; exact A4 Z Z) Z Z ?_; refine E1 Z Z (fun hg => by have hq := hg; (try simp at hq); rw [hg]; exact B8 Z (.pure _ _ _ _) Z (by omega) hv) Z Z ?_; refine E1 Z Z (fun hg => by rw [hg]; exact J9 Z) Z Z ?_; refine E1 Z Z (fun hg => by rw [hg]; exact C2 Z Z) Z Z ?_; refine E1 Z Z (fun hg => by have hq := hg; (try simp at hq); rw [hg]; exact G4 (grows_ok h.Rows (by omega)) Z Z) Z Z ?_; refine E1 Z Z (fun hg => by rw [hg]; exact D3 Z) Z Z ?_; refine B1 (B3 Z (fun h => by first | rfl | (rw [h]; rfl)) (fun h => by first | rfl | (rw [h]; rfl))) Z Z ?_; refine J4 ?_
  refine k1 ?_
  refine B2 rfl (fun ht => ?_) (fun ht => ?_)
  ·cases ht
  refine k5 (k4 (k1 ?_))
  refine A3 (A2 (A4 Z Z) Z (A2 (B9 Z Z (by omega)) Z (A2 (A5 Z Z) Z (A6 ?_))))
  refine k1 ?_
  exact ⟨k + 1, by omega, by omega, Sees.of ⟨le1 rfl, le1 rfl, le1 rfl, trivial⟩ ⟨rfl, rfl, trivial⟩⟩
 ·refine k6 (k2 ?_)
  refine A3 (A2 (A5 Z Z) Z (A6 ?_))
  refine k1 (k10 ?_)
  exact B5 (rs := [C4 true]) (F3 rfl rfl rfl) rfl
theorem lines_met {gf : Fr} (b : Str) (hb : b.length ≤ 536870912) : AL.Met Tryz.prog 61 [.one (.p (.v (.string ⟨b.toArray⟩)))] gf [] [740] (fun rs ob' => rs = [.one (.mut 740)] ∧ ob' = [(740, .grow 9 Str 1 K9 (G5 b))]) := by
 refine AL.Met.introH Tryz.func61 (by decide) rfl rfl rfl (fun hH => ?_)
 refine k2 ?_
 refine A3 (A2 (A5 Z Z) Z (A6 ?_))
 refine k1 (k2 ?_)
 refine A3 (C0 (e_adoptG 740 _ K9 Z Z) Z (A6 ?_))
 refine k1 (k2 ?_)
 refine A3 (A2 (A5 Z Z) Z (A6 ?_))
 refine k1 (k2 (k2 ?_))
 refine A3 (A2 (A5 Z Z) Z (A6 ?_))
 refine k1 (k3 ?_)
 refine E0 (X := Nat × Nat × List Str) (fun x => ([(0, F9 b), (3, .s (.one (.mut 740))), (4, C3 x.2.1), (5, C3 x.1)] ++ Fr.forget 740 gf, [(740, .grow 9 Str 1 K9 x.2.2)]))
  (fun x => x.1 ≤ b.length ∧ x.2.1 ≤ x.1 ∧ x.2.2.length ≤ x.1 ∧ (x.1 = b.length → x.2.1 = x.1) ∧ x.2.2 ++ G3 ((b.drop x.2.1).take (x.1 - x.2.1)) (b.drop x.1) = G5 b) (fun x => b.length - x.1) (0, 0, []) (by simp [G5]) ?_ ?_
 ·exact Sees.tailed ⟨le1 rfl, le1 rfl, le1 rfl, le1 rfl, trivial⟩ (P3 hH) (by repeat (first | exact C7 | refine tail_cons rfl ?_ | refine P4 _ ?_ | refine C8 _ ?_)) (ObIn.spec (ob' := [(740, _)]) ⟨rfl, trivial⟩)
 ·rintro ⟨i, from', out⟩ ⟨hi, hf, ho, he, hp⟩
  dsimp only at hi hf ho he hp ⊢
  refine k2 (k2 ?_)
  refine A3 (A2 (A4 Z Z) Z (A2 (A4 Z Z) Z (A2 (C6 Z) Z (A2 (D5 Z Z) Z (A6 ?_)))))
  refine k1 ?_
  refine B2 rfl (fun ht => ?_) (fun ht => ?_)
  ·have hlt : i < b.length := by simpa using ht
   have hv : b[i]? = some b[i] := by simp [hlt]
   refine k5 (k1 (k2 (k3 (k2 ?_))))
   refine A3 (A2 (A4 Z Z) Z (A2 (A4 Z Z) Z (A2 (D6 Z Z (by omega) hv) Z (A2 (E8 Z Z) Z (A2 (A4 Z Z) Z (A8 Z Z Z Z (fun hg => by rw [hg]; exact A4 Z Z) ?_)))))); refine A8 Z Z Z Z (fun hg => by have hq := hg; (try simp at hq); rw [hg]; exact B9 Z Z (by omega)) ?_; refine A8 Z Z Z Z (fun hg => by rw [hg]; exact A4 Z Z) ?_; refine A8 Z Z Z Z (fun hg => by rw [hg]; exact C6 Z) ?_; refine A8 Z Z Z Z (fun hg => by rw [hg]; exact E8 Z Z) ?_; refine A2 (B3 Z (fun h => by first | rfl | (rw [h]; rfl)) (fun h => by first | rfl | (rw [h]; rfl))) Z ?_; refine A6 ?_
   refine k1 ?_
   refine B2 rfl (fun ht2 => ?_) (fun ht2 => ?_)
   ·refine k2 ?_
    refine A3 (A2 (A4 Z Z) Z (A2 (A4 Z Z) Z (A2 (A4 Z Z) Z (A2 (A4 Z Z) Z (A2 (B9 Z Z (by omega)) Z (A2 (P2 Z Z Z (by omega) (by omega) (by omega)) Z (A2 (D9 (c := K9) (ys := [_]) (F8 Z Z Z Z H5) Z Z Z) Z (C0 (W1 Z Z Z (.pure _ _ _ _) (by simp; omega) Z) Z (A2 (A5 Z Z) Z (A6 ?_))))))))))
    refine k1 ?_
    refine A3 (A2 (A4 Z Z) Z (A2 (B9 Z Z (by omega)) Z (A2 (A5 Z Z) Z (A6 ?_))))
    refine k4 (k1 ?_)
    refine A3 (A2 (A4 Z Z) Z (A2 (B9 Z Z (by omega)) Z (A2 (A5 Z Z) Z (A6 ?_))))
    refine k1 ?_
    refine ⟨(i + 1, i + 1, _), ⟨?_, ?_, ?_, ?_, ?_⟩, ?_, Sees.tailed ⟨le1 rfl, le1 rfl, le1 rfl, le1 rfl, trivial⟩ (P3 hH) (by repeat (first | exact C7 | refine tail_cons rfl ?_ | refine P4 _ ?_)) (ObIn.spec (ob' := [(740, _)]) ⟨rfl, trivial⟩)⟩
    all_goals dsimp only
    ·omega
    ·omega
    ·simp; omega
    ·omega
    ·have hc : b[i] = 10 ∨ i + 1 = b.length := by
      simp only [u8_lf] at ht2
      by_cases h : b[i] = 10
      ·exact .inl h
      ·simp [h] at ht2; exact .inr (by omega)
     rw [toNat_succ, Int.toNat_natCast, Nat.sub_self, List.take_zero, ← part_snoc b from' i hf hlt, List.append_assoc, ← hp, List.drop_eq_getElem_cons hlt, V4]
     rcases hc with h | h
     ·rw [if_pos h]; rfl
     ·have hd : b.drop (i + 1) = [] := List.drop_eq_nil_of_le (by omega)
      rw [hd]
      split
      ·rfl
      ·rw [show G3 ([] : Str) [] = [] from rfl, linesAux_end _ (by simp)]; simp
    ·omega
   ·refine k5 (k4 (k1 ?_))
    refine A3 (A2 (A4 Z Z) Z (A2 (B9 Z Z (by omega)) Z (A2 (A5 Z Z) Z (A6 ?_))))
    refine k1 ?_
    refine ⟨(i + 1, from', out), ⟨?_, ?_, ?_, ?_, ?_⟩, ?_, Sees.tailed ⟨le1 rfl, le1 rfl, le1 rfl, le1 rfl, trivial⟩ (P3 hH) (by repeat (first | exact C7 | refine tail_cons rfl ?_ | refine P4 _ ?_)) (ObIn.spec (ob' := [(740, _)]) ⟨rfl, trivial⟩)⟩
    all_goals dsimp only
    ·omega
    ·omega
    ·omega
    ·intro h
     simp [show (i : Int) + 1 = (b.length : Int) by omega] at ht2
    ·have hc : b[i] ≠ 10 := fun h => by simp [h] at ht2
     rw [← part_snoc b from' i hf hlt, ← hp, List.drop_eq_getElem_cons hlt, V4, if_neg hc]
    ·omega
  ·refine k6 (k2 ?_)
   refine A3 (A2 (A4 Z Z) Z (A2 (A5 Z Z) Z (A6 ?_)))
   refine k1 (k10 ?_)
   have hi' : i = b.length := by simp at ht; omega
   subst hi'
   have := he rfl
   subst this
   rw [Nat.sub_self, List.take_zero, List.drop_eq_nil_of_le (Nat.le_refl _)] at hp
   have hp : out = G5 b := by rw [← hp]; simp [G3]
   subst hp
   exact F7 (V3 rfl rfl) (by repeat (first | exact C7 | refine tail_cons rfl ?_ | refine P4 _ ?_)) (ObIn.spec (ob' := [(740, _)]) ⟨rfl, trivial⟩) ⟨rfl, rfl⟩
theorem rbare_ok (s : Str) (hs : s.length ≤ 1099511627776) : FnOk Tryz.prog 77 [E6 s] (fun rs => rs = [E6 (d6 s)]) := by
 refine FnOk.intro Tryz.func77 (by decide) Z Z Z Z ?_
 refine k2 ?_
 refine A3 (A2 (A5 Z Z) Z (A6 ?_))
 refine k1 (k2 (k2 ?_))
 refine A3 (A2 (A4 Z Z) Z (B7 (ended_ok s hs) Z Z Z ?_)); rintro _ rfl; refine A6 ?_
 refine k1 ?_
 refine B2 rfl (fun ht => ?_) (fun ht => ?_)
 ·have h : ended s = true := ht
  have hl : 1 ≤ s.length := by obtain ⟨a, rfl⟩ := ended_iff.1 h; simp
  refine k2 ?_
  refine A3 (A2 (A4 Z Z) Z (A2 (A4 Z Z) Z (A2 (C6 Z) Z (A2 (W5 Z Z (by omega)) Z (A2 (o4 Z Z (by omega) (by omega)) Z (A2 (A5 Z Z) Z (A6 ?_)))))))
  refine k1 (k10 (k11 ?_))
  exact B5 (rs := [E6 s.dropLast]) (F3 rfl (by rw [show ((s.length : Int) - 1).toNat = s.length - 1 by omega, ← List.dropLast_eq_take]; rfl) rfl) (by unfold d6; rw [if_pos h])
 ·have h : ended s = false := ht
  refine k5 (k1 (k2 ?_))
  refine A3 (A2 (A4 Z Z) Z (A2 (A5 Z Z) Z (A6 ?_)))
  refine k1 (k10 ?_)
  exact B5 (rs := [E6 s]) (F3 rfl rfl rfl) (by unfold d6; rw [if_neg (by rw [h]; decide)])
theorem r13Lines_ok (s : Str) (hs : s.length ≤ 536870912) : FnOk Tryz.prog 84 [E6 s] (fun rs => rs = m6 s) := by
 obtain ⟨L, hL⟩ : ∃ L, L = G5 s := ⟨_, rfl⟩
 obtain ⟨f1, f2⟩ := lines_flat s
 rw [← hL] at f1 f2
 have hmem : ∀ x ∈ L, x.length ≤ 536870912 := fun x hx => by have := (List.sublist_flatten_of_mem hx).length_le; omega
 have hbut := (linesOf_ok s).2
 rw [← hL] at hbut
 have hLL : U9 s = if L.all ended = true then some (L.map List.dropLast) else none := by
  unfold U9
  by_cases h0 : s = []
  ·have : L = [] := by rw [hL, h0]; rfl
   rw [if_pos h0, this]; rfl
  ·rw [if_neg h0, ← hL]
   have hiff : (ended s = true) ↔ L.all ended = true := by
    have hfl : L.flatten = s := by rw [hL]; have := linesAux_flat2 s []; simpa [G5] using this
    have hne : L ≠ [] := fun e => by rw [e] at hfl; exact h0 hfl.symm
    have hsp := List.dropLast_concat_getLast hne
    have hlast : L.getLast hne ≠ [] := by
     have := (linesOf_ok s).1 (L.getLast hne) (by rw [← hL]; exact List.getLast_mem hne)
     intro e; rw [e] at this; cases this
    have hend : ended s = ended (L.getLast hne) := by
     rw [← hfl]
     conv => lhs; rw [← hsp, List.flatten_append]
     unfold ended
     simp only [List.flatten_cons, List.flatten_nil, List.append_nil]
     rw [List.getLast?_append]
     cases h : (L.getLast hne).getLast? with
     | none => exact absurd (List.getLast?_eq_none_iff.1 h) hlast
     | some x => rfl
    rw [hend, List.all_eq_true]
    constructor
    ·intro h x hx
     rw [← hsp] at hx
     rcases List.mem_append.1 hx with hx | hx
     ·have : ∀ (l : List Str) (z : Str), Q4 (l ++ [z]) = true → ∀ y ∈ l, ended y = true := by
       intro l
       induction l with
       | nil => intro z _ y hy; cases hy
       | cons a r ih =>
        intro z hz y hy
        rw [List.cons_append, Q4] at hz
        simp only [Bool.and_eq_true, Bool.or_eq_true] at hz
        rcases List.mem_cons.1 hy with rfl | hy
        ·rcases hz.1 with h | h
         ·simp at h
         ·exact h
        ·exact ih z hz.2 y hy
      rw [← hsp] at hbut
      exact this _ _ hbut x hx
     ·simp only [List.mem_cons, List.not_mem_nil, or_false] at hx
      rw [hx]; exact h
    ·intro h
     exact h _ (List.getLast_mem hne)
   by_cases he : ended s = true
   ·rw [if_pos he, if_pos (hiff.1 he)]
   ·rw [if_neg he, if_neg (fun h => he (hiff.2 h))]
 refine FnOk.intro Tryz.func84 (by decide) Z Z Z Z ?_
 refine k2 ?_
 refine A3 (A2 (A5 Z Z) Z (A2 (A5 Z Z) Z (A6 ?_)))
 refine k1 (k2 ?_)
 refine A3 (A2 (A4 Z Z) Z (R7 (lines_met s hs) Z Z Z ?_)); rintro _ _ ⟨rfl, rfl⟩; refine A2 (A5 Z Z) Z (A6 ?_)
 rw [← hL]
 refine k1 (k2 (k2 ?_))
 refine A3 (A2 (A5 Z Z) Z (A6 ?_))
 refine k1 (k3 ?_)
 refine E0 (X := Nat) (fun i => ([(4, .s (.one (.mut 740))), (5, C3 i)], [(740, .grow 9 Str 1 K9 ((L.take i).map List.dropLast ++ L.drop i))])) (fun i => i ≤ L.length ∧ (L.take i).all ended = true) (fun i => L.length - i) 0 ⟨Nat.zero_le _, rfl⟩ (Sees.of ⟨le1 rfl, le1 rfl, trivial⟩ ⟨rfl, trivial⟩) ?_
 rintro i ⟨hi, hall⟩
 dsimp only at hi hall ⊢
 have hcl : ((L.take i).map List.dropLast ++ L.drop i).length = L.length := by rw [List.length_append, List.length_map, List.length_take, List.length_drop]; omega
 refine k2 (k2 ?_)
 refine A3 (A2 (A4 Z Z) Z (A2 (A4 Z Z) Z (A2 (n_len_g Z Z) Z (A2 (D5 Z Z) Z (A6 ?_)))))
 rw [hcl]
 refine k1 ?_
 refine B2 rfl (fun ht => ?_) (fun ht => ?_)
 ·have hlt : i < L.length := by have := A0 ht; omega
  obtain ⟨x, hx⟩ : ∃ x, x = L[i] := ⟨_, rfl⟩
  have hxm : x ∈ L := by rw [hx]; exact List.getElem_mem hlt
  have hlm : ((L.take i).map List.dropLast).length = i := by rw [List.length_map, List.length_take]; omega
  have hv : ((L.take i).map List.dropLast ++ L.drop i)[i]? = some x := by rw [List.getElem?_append_right (by omega), hlm, Nat.sub_self, List.getElem?_drop, hx]; simp [hlt]
  have hset : ∀ y, ((L.take i).map List.dropLast ++ L.drop i).set i y = (L.take i).map List.dropLast ++ y :: L.drop (i + 1) := by
   intro y
   rw [List.set_append_right _ _ (by omega), hlm, Nat.sub_self, List.drop_eq_getElem_cons hlt, List.set_cons_zero]
  have htk : L.take (i + 1) = L.take i ++ [x] := by rw [List.take_succ_eq_append_getElem hlt, hx]
  refine k5 (k1 (k2 (k3 (k2 (k2 ?_)))))
  refine A3 (A2 (A4 Z Z) Z (A2 (A4 Z Z) Z (A2 (S0 Z Z Z (by omega) (by (rw [hcl]; omega))) Z ?_))); refine A2 (n_load_g Z Z hv Z) Z (B7 (ended_ok x (by have := hmem x hxm; omega)) Z Z Z ?_); rintro _ rfl; refine A2 (D3 Z) Z (A6 ?_)
  refine k1 ?_
  refine B2 rfl (fun ht => ?_) (fun ht => ?_)
  ·have he : ended x = false := by cases h : ended x <;> rw [h] at ht <;> simp at ht ⊢
   refine k2 ?_
   refine A3 (A2 (I8 _ 1 K9) Z (A2 (A5 Z Z) Z (A6 ?_)))
   refine k1 (k10 (k11 (k12 (k11 (k11 (k12 (k11 ?_)))))))
   refine B5 (rs := [i7 [], C4 false]) (j3 Z Z Z Z Z) ?_
   unfold m6
   rw [hLL, if_neg]
   intro h
   have := List.all_eq_true.1 h x hxm
   rw [he] at this; cases this
  ·have he : ended x = true := by cases h : ended x <;> rw [h] at ht <;> simp at ht ⊢
   have htr : d6 x = x.dropLast := by unfold d6; rw [if_pos he]
   refine k5 (k1 ?_)
   refine A3 (A2 (A4 Z Z) Z (A2 (A4 Z Z) Z (A2 (A4 Z Z) Z (A2 (A4 Z Z) Z (A2 (S0 Z Z Z (by omega) (by (rw [hcl]; omega))) Z ?_))))); refine A2 (n_load_g Z Z hv Z) Z (B7 (rbare_ok x (by have := hmem x hxm; omega)) Z Z Z ?_); rintro _ rfl; refine A2 (S0 Z Z Z (by omega) (by (rw [hcl]; omega))) Z ?_; refine D7 (e_store_g (d6 x) TySz.out Z Z hv Z Z Z Z (fun _ _ _ h => all2_unp h) (by intro j h1 h2; rcases j with _ | _ | _ | _ | _ | _ | _ | j <;> first | rfl | omega)) ?_; refine A6 ?_
   rw [Int.toNat_natCast, hset, htr]
   refine k4 (k1 ?_)
   refine A3 (A2 (A4 Z Z) Z (A2 (B9 Z Z (by omega)) Z (A2 (A5 Z Z) Z (A6 ?_))))
   refine k1 ?_
   refine ⟨i + 1, ⟨hlt, by rw [htk, List.all_append, hall]; simp [he]⟩, by omega, ?_⟩
   rw [htk, List.map_append, List.append_assoc]
   exact Sees.of ⟨le1 rfl, le1 rfl, trivial⟩ ⟨rfl, trivial⟩
 ·have hi2 : i = L.length := by have := A1 ht; omega
  subst hi2
  rw [List.take_length] at hall ⊢
  rw [List.drop_length, List.append_nil]
  refine k6 (k2 ?_)
  refine A3 (A2 (A4 Z Z) Z (A2 (A5 Z Z) Z (A2 (A5 Z Z) Z (A6 ?_))))
  refine H8 ?_
  refine F6 (Sees.growBuf (t := 2) Z Z Z) ?_
  refine k10 ?_
  refine B5 (rs := [i7 (L.map List.dropLast), C4 true]) (j3 Z Z Z Z Z) ?_
  unfold m6
  rw [hLL, if_pos hall]
theorem m7 (s p : Str) : FnOk Tryz.prog 160 [E6 s, E6 p] (fun rs => rs = [C4 (decide (s.take p.length = p))]) := by
 refine FnOk.intro Tryz.func160 (by decide) Z Z Z Z ?_
 refine k2 ?_
 refine A3 (A2 (A5 Z Z) Z (A6 ?_))
 refine k1 (k2 ?_)
 refine A3 (A2 (A4 Z Z) Z (A2 (C6 Z) Z (A2 (A4 Z Z) Z (A2 (C6 Z) Z (A2 (W6 Z Z) Z (A2 (A4 Z Z) Z (A8 Z Z Z Z (fun hg => by rw [hg]; exact A4 Z Z) ?_))))))); refine A8 Z Z Z Z (fun hg => by rw [hg]; exact A4 Z Z) ?_; refine A8 Z Z Z Z (fun hg => by rw [hg]; exact C6 Z) ?_; refine A8 Z Z Z Z (fun hg => by have hq := hg; (try simp at hq); rw [hg]; exact o4 Z Z (by omega) (by omega)) ?_; refine A8 Z Z Z Z (fun hg => by rw [hg]; exact A4 Z Z) ?_; refine A8 Z Z Z Z (fun hg => by rw [hg]; exact R3 Z Z) ?_; refine A2 (B3 Z (fun h => by first | rfl | (rw [h]; rfl)) (fun h => by first | rfl | (rw [h]; rfl))) Z ?_; refine A2 (A5 Z Z) Z (A6 ?_)
 simp only [I3, Int.toNat_natCast]
 refine k1 (k10 ?_)
 refine B5 (F3 Z Z Z) ?_
 congr 4
 congr 1
 apply propext; constructor
 ·intro h; exact h.2
 ·intro h
  refine ⟨?_, h⟩
  have := congrArg List.length h
  rw [List.length_take] at this; omega
theorem rngR_none {s : Str} {i : Nat} (h : L9 (s.drop i) = none) : rngR s i = [E2 0, E2 0, E2 0, C4 false] := by unfold rngR; rw [h]
theorem rngR_some {s : Str} {i k : Nat} {a n : Int} (h : L9 (s.drop i) = some (a, n, k)) : rngR s i = [E2 a, E2 n, E2 ((i + k : Nat) : Int), C4 true] := by unfold rngR; rw [h]
theorem szC_app (a b : List CHunk) : szC (a ++ b) = szC a + szC b := by simp [szC]
theorem szC_one (h : CHunk) : szC [h] = s8 h := by simp [szC]
theorem lastC {α : Type} {l : List α} {x : α} (h : l.getLast? = some x) : l = l.dropLast ++ [x] := by
 obtain ⟨ys, hy⟩ := List.getLast?_eq_some_iff.1 h
 rw [hy, List.dropLast_concat]
theorem szC_last {hs : List CHunk} {h : CHunk} (hl : hs.getLast? = some h) : szC hs = szC hs.dropLast + s8 h := by
 conv => lhs; rw [lastC hl, szC_app, szC_one]
theorem trimC_len (t : Str) : (d6 t).length ≤ t.length := by
 unfold d6; split
 ·rw [List.length_dropLast]; omega
 ·omega
theorem y4 (h : CHunk) : s8 h = 2048 + h.At.length + (h.Rows.map N0).sum := rfl
def CInv (n : Nat) (hs : List CHunk) : Prop := ∀ h ∈ hs, h.At.length = n + 1 ∧ L0 h.Rows
theorem CInv.app {n : Nat} {hs : List CHunk} {h : CHunk} (hi : CInv n hs) (hh : h.At.length = n + 1 ∧ L0 h.Rows) : CInv n (hs ++ [h]) := by
 intro x hx
 rcases List.mem_append.1 hx with hx | hx
 ·exact hi x hx
 ·simp only [List.mem_cons, List.not_mem_nil, or_false] at hx
  rw [hx]; exact hh
theorem CInv.init {n : Nat} {hs : List CHunk} (hi : CInv n hs) : CInv n hs.dropLast := fun x hx => hi x ((List.dropLast_sublist _).subset hx)
theorem headP_facts {n : Nat} {l : Str} {a : List Int} (h : n7 n l = some a) : a.length = n + 1 ∧ 2 * (n + 2) ≤ l.length := by
 unfold n7 at h
 split at h
 ·rename_i h1
  have hp : (preC n).length = n + 2 := by simp [preC, Y7]
  have hs : (v7 n).length = n + 2 := by simp [v7, Y7]
  have l1 := congrArg List.length h1.1
  rw [List.length_take, hp] at l1
  have l2 := h1.2
  unfold O5 at l2
  have l3 := (A0 l2).1
  rw [hs, List.length_drop] at l3
  split at h
  ·rename_i b hb
   split at h
   ·rename_i hbl
    cases h
    exact ⟨hbl, by omega⟩
   ·cases h
  ·cases h
 ·cases h
def Z2 (l : Str) : Nat := 420 * (l.length + 1)
theorem step_szC {n : Nat} (hn : 1 ≤ n ∧ n ≤ 32) {hs hs' : List CHunk} {l : Str} (h : R1 n hs l = some hs') (hi : CInv n hs) : szC hs' ≤ szC hs + Z2 l ∧ CInv n hs' := by
 unfold R1 at h
 unfold Z2
 split at h
 ·cases hp : n7 n l with
  | none => rw [hp] at h; cases h
  | some a =>
   rw [hp] at h
   have h : hs ++ [⟨a, []⟩] = hs' := Option.some.inj h
   obtain ⟨f1, f2⟩ := headP_facts hp
   rw [← h]
   refine ⟨?_, hi.app ⟨f1, fun r hr => by cases hr⟩⟩
   rw [szC_app, szC_one, y4]
   dsimp only
   rw [f1, List.map_nil, List.sum_nil]
   omega
 ·split at h
  ·cases h
  ·split at h
   ·unfold cutRow at h
    cases hl : hs.getLast? with
    | none => rw [hl] at h; cases h
    | some g =>
     rw [hl] at h
     dsimp only at h
     have hg := hi g (List.mem_of_getLast? hl)
     cases hx : g.Rows.getLast? with
     | none => rw [hx] at h; cases h
     | some r =>
      rw [hx] at h
      have h : hs.dropLast ++ [⟨g.At, g.Rows.dropLast ++ [⟨r.Lost, r.Marks, d6 r.Text⟩]⟩] = hs' := Option.some.inj h
      have ht := trimC_len r.Text
      have hrr := lastC hx
      have hsum : (g.Rows.map N0).sum = (g.Rows.dropLast.map N0).sum + N0 r := by
       conv => lhs; rw [hrr, List.map_append, List.sum_append]
       simp
      rw [← h]
      refine ⟨?_, hi.init.app ⟨hg.1, fun x hx2 => ?_⟩⟩
      ·rw [szC_app, szC_one, y4, szC_last hl, y4, hsum]
       simp only [List.map_append, List.sum_append, List.map_cons, List.map_nil, List.sum_cons, List.sum_nil, N0]
       omega
      ·rcases List.mem_append.1 hx2 with hx2 | hx2
       ·exact hg.2 x ((List.dropLast_sublist _).subset hx2)
       ·simp only [List.mem_cons, List.not_mem_nil, or_false] at hx2
        rw [hx2]; exact hg.2 r (List.mem_of_getLast? hx)
   ·cases hr : AL.rowAt (l ++ [10]) n with
    | none => rw [hr] at h; cases h
    | some r =>
     rw [hr] at h
     dsimp only at h
     unfold addRow at h
     cases hl : hs.getLast? with
     | none => rw [hl] at h; cases h
     | some g =>
      rw [hl] at h
      have h : hs.dropLast ++ [⟨g.At, g.Rows ++ [r]⟩] = hs' := Option.some.inj h
      have hg := hi g (List.mem_of_getLast? hl)
      have hrI : Z1 (l ++ [10]) (n : Int) = some r := by unfold Z1; rw [if_neg (by omega), Int.toNat_natCast]; exact hr
      obtain ⟨_, t1, t2, _⟩ := rowI_text hrI
      have t3 : r.Text.length ≤ l.length + 1 := by rw [t1, List.length_drop, List.length_append]; simp
      rw [← h]
      refine ⟨?_, hi.init.app ⟨hg.1, fun x hx2 => ?_⟩⟩
      ·rw [szC_app, szC_one, y4, szC_last hl, y4]
       simp only [List.map_append, List.sum_append, List.map_cons, List.map_nil, List.sum_cons, List.sum_nil, N0]
       omega
      ·rcases List.mem_append.1 hx2 with hx2 | hx2
       ·exact hg.2 x hx2
       ·simp only [List.mem_cons, List.not_mem_nil, or_false] at hx2
        rw [hx2]; exact t2
theorem fold_szC {n : Nat} (hn : 1 ≤ n ∧ n ≤ 32) : ∀ (ls : List Str) (hs hs' : List CHunk), T7 n hs ls = some hs' → CInv n hs → szC hs' ≤ szC hs + (ls.map Z2).sum ∧ CInv n hs'
 | [], hs, hs', h, hi => by cases h; exact ⟨by simp, hi⟩
 | x :: r, hs, hs', h, hi => by
  rw [T7] at h
  cases hx : R1 n hs x with
  | none => rw [hx] at h; cases h
  | some g =>
   rw [hx] at h
   obtain ⟨a1, a2⟩ := step_szC hn hx hi
   obtain ⟨b1, b2⟩ := fold_szC hn r g hs' h a2
   refine ⟨?_, b2⟩
   rw [List.map_cons, List.sum_cons]; omega
theorem title_par {q : Bool} {a b : Str} {d : Bool} {p : Str} {n : Int} (h : N9 q a b = some (d, p, n)) : 1 ≤ n ∧ n ≤ 32 := by
 unfold N9 at h
 split at h
 ·cases h
 ·split at h
  ·split at h
   ·split at h
    ·rename_i h2
     cases h; omega
    ·cases h
   ·cases h
  ·cases h
theorem parseC_sz {l : List Str} {c : Comb} (h : L3 l = some c) : (1 ≤ c.Parents ∧ c.Parents ≤ 32) ∧ szC c.Hunks ≤ (l.map Z2).sum ∧ CInv c.Parents.toNat c.Hunks := by
 unfold L3 at h
 split at h
 ·rename_i a b r
  split at h
  ·rename_i d p n ht
   have hn := title_par ht
   split at h
   ·rename_i hs hf
    cases h
    obtain ⟨f1, f2⟩ := fold_szC (n := n.toNat) (by omega) r [] hs hf (fun x hx => by cases hx)
    refine ⟨hn, ?_, f2⟩
    have e0 : szC ([] : List CHunk) = 0 := rfl
    rw [e0] at f1
    simp only [List.map_cons, List.sum_cons]
    omega
   ·cases h
  ·cases h
 ·cases h
theorem sides_facts {n : Nat} {l : Str} : ∀ (m k i : Nat) {a c : List Int}, i ≤ l.length → N8 n l m k i = some (a, c) → a.length = m ∧ c.length = m ∧ i + 2 * m ≤ l.length
 | 0, k, i, a, c, hi, h => by cases h; exact ⟨rfl, rfl, by omega⟩
 | m + 1, k, i, a, c, hi, h => by
  rw [N8] at h
  cases hs : O9 l i [32, J2 n k] with
  | none => rw [hs] at h; cases h
  | some q =>
   obtain ⟨x, y, j⟩ := q
   rw [hs] at h
   dsimp only at h
   have hj := spanAt_le hi hs
   have hj2 : i + 2 ≤ j := by
    unfold O9 at hs
    split at hs
    ·cases hr : L9 (l.drop (i + ([32, J2 n k] : Str).length)) with
     | none => rw [hr] at hs; cases hs
     | some z =>
      rw [hr] at hs
      obtain ⟨z1, z2, z3⟩ := z
      simp at hs
      omega
    ·cases hs
   cases hr : N8 n l m (k + 1) j with
   | none => rw [hr] at h; cases h
   | some q =>
    obtain ⟨a', c'⟩ := q
    rw [hr] at h
    cases h
    obtain ⟨b1, b2, b3⟩ := sides_facts m (k + 1) j hj hr
    exact ⟨by simp [b1], by simp [b2], by omega⟩
theorem headR_facts {n : Nat} {l : Str} {a c : List Int} (h : v8 n l = some (a, c)) : a.length = n + 1 ∧ c.length = n + 1 ∧ 2 * (n + 1) ≤ l.length := by
 have h1 : (l.takeWhile (fun c => decide (c = 64))).length ≤ l.length := by
  have := (List.takeWhile_sublist (fun c => decide (c = 64)) (l := l)).length_le
  exact this
 obtain ⟨b1, b2, b3⟩ := sides_facts (n + 1) 0 _ h1 h
 exact ⟨b1, b2, by omega⟩
def wgTo (l : List Str) (i : Nat) : Nat := ((l.take i).map Z2).sum
theorem wgTo_succ {l : List Str} {i : Nat} (h : i < l.length) : wgTo l (i + 1) = wgTo l i + Z2 l[i] := by
 unfold wgTo
 rw [List.take_succ_eq_append_getElem h, List.map_append, List.sum_append]
 simp only [List.map_cons, List.map_nil, List.sum_cons, List.sum_nil]
 omega
theorem wgTo_over {l : List Str} {i : Nat} (h : l.length ≤ i) : wgTo l i = wgTo l l.length := by unfold wgTo; rw [List.take_of_length_le h, List.take_length]
theorem wgTo_full (l : List Str) : wgTo l l.length = (l.map Z2).sum := by unfold wgTo; rw [List.take_length]
theorem downC_len (n : Nat) (r : Row) (cs : List Int) : (Z4 n r cs).length = n + 1 := by unfold Z4; simp
theorem bodyC_sz {n : Nat} (hn : 1 ≤ n ∧ n ≤ 32) (l : List Str) : ∀ (f i : Nat) (cs : List Int) (acc rs : List Row) (j : Nat), l.length - i ≤ f → R2 n l i cs acc = some (rs, j) → L0 acc →
  i ≤ j ∧ (rs.map N0).sum + wgTo l i ≤ (acc.map N0).sum + wgTo l j ∧ L0 rs := by
 intro f
 induction f with
 | zero =>
  intro i cs acc rs j hf h ha
  rw [R2] at h
  split at h
  ·rw [dif_neg (by omega)] at h; cases h
  ·cases h; exact ⟨Nat.le_refl _, Nat.le_refl _, ha⟩
 | succ f ih =>
  intro i cs acc rs j hf h ha
  rw [R2] at h
  split at h
  ·by_cases hi : i < l.length
   ·rw [dif_pos hi] at h
    have hw := wgTo_succ hi
    unfold Z2 at hw
    split at h
    ·cases h
    ·rename_i r hr
     have hrI : Z1 (l[i] ++ [10]) (n : Int) = some r := by unfold Z1; rw [if_neg (by omega), Int.toNat_natCast]; exact hr
     obtain ⟨_, t1, t2, _⟩ := rowI_text hrI
     have t3 : r.Text.length ≤ l[i].length + 1 := by rw [t1, List.length_drop, List.length_append]; simp
     have hin : ∀ t : Str, L0 (acc ++ [⟨r.Lost, r.Marks, t⟩]) := fun t x hx => by
      rcases List.mem_append.1 hx with hx | hx
      ·exact ha x hx
      ·simp only [List.mem_cons, List.not_mem_nil, or_false] at hx
       rw [hx]; exact t2
     split at h
     ·rename_i h2
      have hi2 := (List.getElem?_eq_some_iff.1 h2).1
      have hw2 := wgTo_succ hi2
      rw [show i + 1 + 1 = i + 2 from rfl] at hw2
      obtain ⟨a1, a2, a3⟩ := ih _ _ _ _ _ (by omega) h (hin _)
      simp only [List.map_append, List.sum_append, List.map_cons, List.map_nil, List.sum_cons, List.sum_nil, N0, List.length_dropLast] at a2
      exact ⟨by omega, by omega, a3⟩
     ·obtain ⟨a1, a2, a3⟩ := ih _ _ _ _ _ (by omega) h (hin r.Text)
      simp only [List.map_append, List.sum_append, List.map_cons, List.map_nil, List.sum_cons, List.sum_nil, N0] at a2
      exact ⟨by omega, by omega, a3⟩
   ·rw [dif_neg hi] at h; cases h
  ·cases h; exact ⟨Nat.le_refl _, Nat.le_refl _, ha⟩
theorem chunksR_end {n : Nat} {l : List Str} {i : Nat} {hs : List CHunk} (h : l.length ≤ i) : M3 n l i hs = some hs := by rw [M3, dif_neg (by omega)]
theorem chunksR_bad {n : Nat} {l : List Str} {i : Nat} {hs : List CHunk} {x : Str} (h : l[i]? = some x) (h2 : v8 n x = none) : M3 n l i hs = none := by
 obtain ⟨hi, he⟩ := List.getElem?_eq_some_iff.1 h
 rw [M3, dif_pos hi, he, h2]
theorem y5 {n : Nat} {l : List Str} {i : Nat} {hs : List CHunk} {x : Str} {a c : List Int} (h : l[i]? = some x) (h2 : v8 n x = some (a, c)) (h3 : R2 n l (i + 1) c [] = none) : M3 n l i hs = none := by
 obtain ⟨hi, he⟩ := List.getElem?_eq_some_iff.1 h
 rw [M3, dif_pos hi, he, h2]
 dsimp only
 rw [h3]
theorem chunksR_step {n : Nat} {l : List Str} {i j : Nat} {hs : List CHunk} {rs : List Row} {x : Str} {a c : List Int} (h : l[i]? = some x) (h2 : v8 n x = some (a, c)) (h3 : R2 n l (i + 1) c [] = some (rs, j)) (hj : i + 1 ≤ j) :
  M3 n l i hs = M3 n l j (hs ++ [⟨a, rs⟩]) := by
 obtain ⟨hi, he⟩ := List.getElem?_eq_some_iff.1 h
 rw [M3, dif_pos hi, he, h2]
 dsimp only
 rw [h3]
 dsimp only
 rw [show max j (i + 1) = j by omega]
theorem chunksR_sz {n : Nat} (hn : 1 ≤ n ∧ n ≤ 32) (l : List Str) : ∀ (f i : Nat) (hs hs' : List CHunk), l.length - i ≤ f → M3 n l i hs = some hs' → CInv n hs → szC hs' + wgTo l i ≤ szC hs + wgTo l l.length ∧ CInv n hs' := by
 intro f
 induction f with
 | zero =>
  intro i hs hs' hf h hc
  rw [chunksR_end (by omega)] at h
  cases h
  rw [wgTo_over (by omega)]; exact ⟨Nat.le_refl _, hc⟩
 | succ f ih =>
  intro i hs hs' hf h hc
  by_cases hi : i < l.length
  ·have hv : l[i]? = some l[i] := by simp [hi]
   have hw := wgTo_succ hi
   unfold Z2 at hw
   cases h2 : v8 n l[i] with
   | none => rw [chunksR_bad hv h2] at h; cases h
   | some q =>
    obtain ⟨a, c⟩ := q
    obtain ⟨g1, g2, g3⟩ := headR_facts h2
    cases h3 : R2 n l (i + 1) c [] with
    | none => rw [y5 hv h2 h3] at h; cases h
    | some r =>
     obtain ⟨rs, j⟩ := r
     obtain ⟨b1, b2, b3⟩ := bodyC_sz hn l _ _ _ _ _ _ (Nat.le_refl _) h3 (fun x hx => by cases hx)
     rw [chunksR_step hv h2 h3 b1] at h
     obtain ⟨c1, c2⟩ := ih _ _ _ (by omega) h (hc.app ⟨g1, b3⟩)
     refine ⟨?_, c2⟩
     rw [szC_app, szC_one, y4] at c1
     dsimp only at c1
     rw [g1] at c1
     simp only [List.map_nil, List.sum_nil] at b2
     omega
  ·rw [chunksR_end (by omega)] at h
   cases h
   rw [wgTo_over (by omega)]; exact ⟨Nat.le_refl _, hc⟩
theorem readC_sz {l : List Str} {c : Comb} (h : Z5 l = some c) : (1 ≤ c.Parents ∧ c.Parents ≤ 32) ∧ szC c.Hunks ≤ (l.map Z2).sum ∧ CInv c.Parents.toNat c.Hunks := by
 unfold Z5 at h
 split at h
 ·rename_i a b r
  split at h
  ·rename_i d p n ht
   have hn := title_par ht
   split at h
   ·rename_i hs hf
    cases h
    obtain ⟨f1, f2⟩ := chunksR_sz (n := n.toNat) (by omega) _ _ 2 [] hs (Nat.le_refl _) hf (fun x hx => by cases hx)
    refine ⟨hn, ?_, f2⟩
    have e0 : szC ([] : List CHunk) = 0 := rfl
    rw [e0, wgTo_full] at f1
    dsimp only
    omega
   ·cases h
  ·cases h
 ·cases h
theorem ropen_ok (cs : List Int) (hl : cs.length ≤ 1099511627776) : FnOk Tryz.prog 164 [t7 cs] (fun rs => rs = [C4 (n8 cs)]) := by
 refine FnOk.intro Tryz.func164 (by decide) Z Z Z Z ?_
 refine k2 ?_
 refine A3 (A2 (A5 Z Z) Z (A6 ?_))
 refine k1 (k2 (k2 ?_))
 refine A3 (A2 (A5 Z Z) Z (A6 ?_))
 refine k1 (k3 ?_)
 refine E0 (X := Nat) (fun k => ([(0, F4 Int 1 H7 cs), (3, C3 k)], [])) (fun k => k ≤ cs.length ∧ n8 cs = n8 (cs.drop k)) (fun k => cs.length - k) 0 ⟨Nat.zero_le _, rfl⟩ (Sees.of ⟨le1 rfl, le1 rfl, trivial⟩ trivial) ?_
 rintro k ⟨hk, hp⟩
 dsimp only at hk hp ⊢
 refine k2 (k2 ?_)
 refine A3 (A2 (A4 Z Z) Z (A2 (A4 Z Z) Z (A2 (I2 Z (.pure _ _ _ _)) Z (A2 (D5 Z Z) Z (A6 ?_)))))
 refine k1 ?_
 refine B2 rfl (fun ht => ?_) (fun ht => ?_)
 ·have hlt : k < cs.length := by have := A0 ht; omega
  have hv := getI hlt
  have hg : cs[k] = cs.getD k 0 := by rw [List.getD_eq_getElem?_getD, List.getElem?_eq_getElem hlt]; rfl
  rw [List.drop_eq_getElem_cons hlt, hg] at hp
  have hp : n8 cs = (decide (0 < cs.getD k 0) || n8 (cs.drop (k + 1))) := hp
  obtain ⟨x, hx⟩ : ∃ x, x = cs.getD k 0 := ⟨_, rfl⟩
  rw [← hx] at hv hp
  refine k5 (k1 (k2 (k3 (k2 ?_))))
  refine A3 (A2 (A4 Z Z) Z (A2 (A4 Z Z) Z (A2 (B8 Z (.pure _ _ _ _) Z (by omega) hv) Z (A2 (C2 Z Z) Z (A2 (M7 Z Z) Z (A6 ?_))))))
  refine k1 ?_
  refine B2 rfl (fun ht => ?_) (fun ht => ?_)
  ·have h := A0 ht
   rw [decide_eq_true (by omega), Bool.true_or] at hp
   refine k2 ?_
   refine A3 (A2 (A5 Z Z) Z (A6 ?_))
   refine k1 (k10 (k12 (k11 (k11 (k12 (k11 ?_))))))
   exact B5 (rs := [C4 true]) (F3 rfl rfl rfl) (by rw [hp])
  ·have h := A1 ht
   rw [decide_eq_false (by omega), Bool.false_or] at hp
   refine k5 (k4 (k1 ?_))
   refine A3 (A2 (A4 Z Z) Z (A2 (B9 Z Z (by omega)) Z (A2 (A5 Z Z) Z (A6 ?_))))
   refine k1 ?_
   exact ⟨k + 1, ⟨by omega, hp⟩, by omega, Sees.of ⟨le1 rfl, le1 rfl, trivial⟩ trivial⟩
 ·have hkl : k = cs.length := by have := A1 ht; omega
  rw [hkl, List.drop_eq_nil_of_le (Nat.le_refl _)] at hp
  refine k6 (k2 ?_)
  refine A3 (A2 (A5 Z Z) Z (A6 ?_))
  refine k1 (k10 ?_)
  exact B5 (rs := [C4 false]) (F3 rfl rfl rfl) (by rw [hp]; rfl)
theorem sides_step {n : Nat} {l : Str} {m k i j : Nat} {a c : Int} (h : O9 l i [32, J2 n k] = some (a, c, j)) : N8 n l (m + 1) k i = (N8 n l m (k + 1) j).map fun q => (a :: q.1, c :: q.2) := by rw [N8, h]
theorem sides_no {n : Nat} {l : Str} {m k i : Nat} (h : O9 l i [32, J2 n k] = none) : N8 n l (m + 1) k i = none := by rw [N8, h]
theorem rheader19_new (l : Str) (n : Nat) (hn : n ≤ 32) (hl : l.length ≤ 16777216) :
  AL.Met Tryz.prog 163 [(E6 l).s1, (E2 n).s1] [] [] []
   (fun rs ob' => match v8 n l with
    | some (a, c) => rs = [.one (.p (.list Int 1 H7 a)), .one (.mut 724), .one (.p (.v (.bool true)))] ∧ ob' = [(724, .grow 3 Int 1 H7 c)]
    | none => rs = [.one (.p (.list Int 1 H7 [])), .one (.p (.list Int 1 H7 [])), .one (.p (.v (.bool false)))] ∧ ob' = []) := by
 obtain ⟨T, hT⟩ : ∃ T, T = (l.takeWhile (fun c => decide (c = 64))).length := ⟨_, rfl⟩
 have hTl : T ≤ l.length := by rw [hT]; exact (List.takeWhile_sublist (fun c => decide (c = 64)) (l := l)).length_le
 have hTW := fun k hk => X9 (p := fun c => decide (c = 64)) l k hk
 rw [← hT] at hTW
 have hHR : v8 n l = N8 n l (n + 1) 0 T := by unfold v8; rw [hT]
 obtain ⟨H, hH⟩ : ∃ H, H = v8 n l := ⟨_, rfl⟩
 rw [← hH] at hHR ⊢
 refine AL.Met.intro Tryz.func163 (by decide) Z Z Z ?_
 refine k2 ?_
 refine A3 (A2 (A5 Z Z) Z (A2 (A5 Z Z) Z (A2 (A5 Z Z) Z (A6 ?_))))
 refine k1 (k2 ?_)
 refine A3 (C0 (f_adopt 723 _ H7 Z) Z (C0 (f_adoptG 724 _ H7 Z) Z (A6 ?_)))
 refine k1 (k2 ?_)
 refine A3 (A2 (A5 Z Z) Z (A6 ?_))
 refine k1 (k2 (k3 ?_))
 refine E0 (X := Nat) (fun i => ([(0, F9 l), (1, C3 n), (7, .s (.one (.buf 723 Int 1 H7 []))), (8, .s (.one (.mut 724))), (9, C3 i)], [(723, .spare 0 1 3), (724, .grow 3 Int 1 H7 [])])) (fun i => i ≤ T) (fun i => T - i) 0 (Nat.zero_le _) (Sees.of ⟨le1 rfl, le1 rfl, le1 rfl, le1 rfl, le1 rfl, trivial⟩ ⟨rfl, rfl, trivial⟩) ?_
 intro i hi
 dsimp only at hi ⊢
 have hat := hTW i hi
 by_cases hlt : i < T
 ·have hv : l[i]? = some (l.getD i 0) := gD (by omega)
  rw [hv, decide_eq_true hlt] at hat
  obtain ⟨c, hc⟩ : ∃ c, c = l.getD i 0 := ⟨_, rfl⟩
  rw [← hc] at hv hat
  have hc64 : c = 64 := A0 hat
  refine k2 (k2 ?_)
  refine A3 (A2 (A4 Z Z) Z (A2 (A4 Z Z) Z (A2 (C6 Z) Z (A2 (D5 Z Z) Z (A2 (A4 Z Z) Z (A8 Z Z Z Z (fun hg => by rw [hg]; exact A4 Z Z) ?_)))))); refine A8 Z Z Z Z (fun hg => by rw [hg]; exact A4 Z Z) ?_; refine A8 Z Z Z Z (fun hg => by have hq := hg; (try simp at hq); rw [hg]; exact D6 Z Z (by omega) hv) ?_; refine A8 Z Z Z Z (fun hg => by rw [hg]; exact E8 Z Z) ?_; refine A2 (B3 Z (fun h => by first | rfl | (rw [h]; rfl)) (fun h => by first | rfl | (rw [h]; rfl))) Z ?_; refine A6 ?_
  refine k1 ?_
  refine B2 rfl (fun ht => ?_) (fun ht => ?_)
  ·refine k5 (k1 (k3 ?_))
   refine A3 (A2 (A4 Z Z) Z (A2 (B9 Z Z (by omega)) Z (A2 (A5 Z Z) Z (A6 ?_))))
   refine k4 (k1 ?_)
   exact ⟨i + 1, hlt, by omega, Sees.of ⟨le1 rfl, le1 rfl, le1 rfl, le1 rfl, le1 rfl, trivial⟩ ⟨rfl, rfl, trivial⟩⟩
  ·exfalso
   rw [hc64] at ht
   revert ht
   simp; omega
 have hiT : i = T := by omega
 subst hiT
 by_cases hll : i < l.length
 ·have hv : l[i]? = some (l.getD i 0) := gD hll
  rw [hv, decide_eq_false (Nat.lt_irrefl i)] at hat
  obtain ⟨c, hc⟩ : ∃ c, c = l.getD i 0 := ⟨_, rfl⟩
  rw [← hc] at hv hat
  have hc64 : c ≠ 64 := A1 hat
  have hcn : ¬ (c.toNat : Int) = 64 := fun h => hc64 (by
   have : c.toNat = (64 : UInt8).toNat := by show c.toNat = 64; omega
   exact UInt8.toNat_inj.1 this)
  refine k2 (k2 ?_)
  refine A3 (A2 (A4 Z Z) Z (A2 (A4 Z Z) Z (A2 (C6 Z) Z (A2 (D5 Z Z) Z (A2 (A4 Z Z) Z (A8 Z Z Z Z (fun hg => by rw [hg]; exact A4 Z Z) ?_)))))); refine A8 Z Z Z Z (fun hg => by rw [hg]; exact A4 Z Z) ?_; refine A8 Z Z Z Z (fun hg => by have hq := hg; (try simp at hq); rw [hg]; exact D6 Z Z (by omega) hv) ?_; refine A8 Z Z Z Z (fun hg => by rw [hg]; exact E8 Z Z) ?_; refine A2 (B3 Z (fun h => by first | rfl | (rw [h]; rfl)) (fun h => by first | rfl | (rw [h]; rfl))) Z ?_; refine A6 ?_
  refine k1 ?_
  refine B2 rfl (fun ht => ?_) (fun ht => ?_)
  ·exfalso
   revert ht
   simp [hcn]
  refine k6 (k2 (k2 ?_))
  refine A3 (A2 (A5 Z Z) Z (A6 ?_))
  refine k1 (k3 ?_)
  refine E0 (X := Nat × Nat × List Int × List Int) (fun x => ([(0, F9 l), (1, C3 n), (7, .s (.one (.buf 723 Int 1 H7 x.2.2.1))), (8, .s (.one (.mut 724))), (9, C3 x.2.1), (10, C3 x.1)], [(723, .spare x.2.2.1.length 1 3), (724, .grow 3 Int 1 H7 x.2.2.2)])) (fun x => x.1 ≤ n + 1 ∧ x.2.1 ≤ l.length ∧ (x.2.2.1.length = x.1 ∧ x.2.2.2.length = x.1) ∧ H = (N8 n l (n + 1 - x.1) x.1 x.2.1).map fun q => (x.2.2.1 ++ q.1, x.2.2.2 ++ q.2)) (fun x => n + 1 - x.1) (0, i, [], []) ⟨Nat.zero_le _, hTl, ⟨rfl, rfl⟩, by dsimp only; rw [hHR]; simp⟩ (Sees.of ⟨le1 rfl, le1 rfl, le1 rfl, le1 rfl, le1 rfl, le1 rfl, trivial⟩ ⟨rfl, rfl, trivial⟩) ?_
  rintro ⟨k, j, a, c'⟩ ⟨hk, hj, ⟨hal, hcl⟩, hp⟩
  dsimp only at hk hj hal hcl hp ⊢
  refine k2 (k2 ?_)
  refine A3 (A2 (A4 Z Z) Z (A2 (A4 Z Z) Z (A2 (o3 Z Z) Z (A6 ?_))))
  refine k1 ?_
  refine B2 rfl (fun ht => ?_) (fun ht => ?_)
  ·have hlt2 : k < n + 1 := by have := A0 ht; omega
   obtain ⟨m, hm⟩ : ∃ m, n + 1 - k = m + 1 := ⟨n - k, by omega⟩
   have hm2 : n + 1 - (k + 1) = m := by omega
   rw [hm] at hp
   refine k5 (k1 (k2 (k3 (k2 ?_))))
   refine A3 (A2 (A5 Z Z) Z (A6 ?_))
   refine H8 ?_
   refine U7 [(0, F9 l), (1, C3 n), (7, .s (.one (.buf 723 Int 1 H7 a))), (8, .s (.one (.mut 724))), (9, C3 j), (10, C3 k), (11, F9 [32, J2 n k])] [(723, .spare a.length 1 3), (724, .grow 3 Int 1 H7 c')] ?_ ?_
   ·refine k2 ?_
    refine A3 (A2 (A4 Z Z) Z (A2 (A4 Z Z) Z (A2 (E8 Z Z) Z (A6 ?_))))
    refine k1 ?_
    refine B2 rfl (fun ht => ?_) (fun ht => ?_)
    ·have hkn := A0 ht
     skip
     refine A3 (A2 (A5 Z Z) Z (A6 ?_))
     refine k1 ?_
     rw [show J2 n k = 43 by unfold J2; rw [if_pos (by omega)]]
     exact Sees.of ⟨le1 rfl, le1 rfl, le1 rfl, le1 rfl, le1 rfl, le1 rfl, le1 rfl, trivial⟩ ⟨rfl, rfl, trivial⟩
    ·have hkn := A1 ht
     refine k5 (k1 ?_)
     rw [show J2 n k = 45 by unfold J2; rw [if_neg (by omega)]]
     exact Sees.of ⟨le1 rfl, le1 rfl, le1 rfl, le1 rfl, le1 rfl, le1 rfl, le1 rfl, trivial⟩ ⟨rfl, rfl, trivial⟩
   have hst := m7 (l.drop j) [32, J2 n k]
   by_cases hs : (l.drop j).take 2 = [32, J2 n k]
   rotate_left
   ·rw [show ([32, J2 n k] : Str).length = 2 from rfl, decide_eq_false hs] at hst
    have hno : O9 l j [32, J2 n k] = none := by unfold O9; exact if_neg hs
    rw [sides_no hno] at hp
    have hp : H = none := hp
    refine k2 (k2 ?_)
    refine A3 (A2 (A4 Z Z) Z (A2 (A4 Z Z) Z (A2 (T9 Z Z (by omega) (by omega)) Z (A2 (A4 Z Z) Z (B7 (hst) Z Z Z ?_))))); rintro _ rfl; refine A2 (D3 Z) Z (A6 ?_)
    refine k1 ?_
    refine B2 rfl (fun ht => ?_) (fun ht => ?_)
    ·refine k2 ?_
     refine A3 (A2 (I8 _ 1 H7) Z (A2 (I8 _ 1 H7) Z (A2 (A5 Z Z) Z (A6 ?_))))
     refine k1 (k10 (k11 (k12 (k11 (k11 (k12 (k11 ?_)))))))
     exact F7 (rets3 rfl rfl rfl rfl) (by repeat (first | exact C7 | refine tail_cons rfl ?_ | refine C8 _ ?_)) (ObIn.spec (ob' := []) trivial) (by rw [hp]; exact ⟨rfl, rfl⟩)
    ·cases ht
   rw [show ([32, J2 n k] : Str).length = 2 from rfl, decide_eq_true hs] at hst
   have hj2 := take_len (l := l) (pre := [32, J2 n k]) hj hs
   have hj2 : j + 2 ≤ l.length := hj2
   have hrg := rRange_ok l (j + 2) hj2 (by omega)
   have hsp : O9 l j [32, J2 n k] = match L9 (l.drop (j + 2)) with | none => none | some (a, n, e) => some (a, n, j + 2 + e) := by
    unfold O9; exact if_pos hs
   cases g : L9 (l.drop (j + 2)) with
   | none =>
    rw [rngR_none g, show ((j + 2 : Nat) : Int) = (j : Int) + 2 by omega] at hrg
    rw [g] at hsp
    rw [sides_no hsp] at hp
    have hp : H = none := hp
    refine k2 (k2 ?_)
    refine A3 (A2 (A4 Z Z) Z (A2 (A4 Z Z) Z (A2 (T9 Z Z (by omega) (by omega)) Z (A2 (A4 Z Z) Z (B7 (hst) Z Z Z ?_))))); rintro _ rfl; refine A2 (D3 Z) Z (A6 ?_)
    refine k1 ?_
    refine B2 rfl (fun ht => ?_) (fun ht => ?_)
    ·cases ht
    refine k5 (k1 (k2 ?_))
    refine A3 (A2 (A4 Z Z) Z (A2 (A4 Z Z) Z (A2 (B9 Z Z (by omega)) Z (B7 (hrg) Z Z Z ?_)))); rintro _ rfl; refine A2 (A4 Z Z) Z (A2 (A9 Z Z) Z (A2 (A9 Z Z) Z (A2 (A9 Z Z) Z (A2 (A9 Z Z) Z (A2 (A5 Z Z) Z (A2 (A5 Z Z) Z (A2 (A5 Z Z) Z (A2 (A5 Z Z) Z (A6 ?_)))))))))
    refine k1 (k2 (k2 ?_))
    refine A3 (A2 (A4 Z Z) Z (A2 (D3 Z) Z (A6 ?_)))
    refine k1 ?_
    refine B2 rfl (fun ht => ?_) (fun ht => ?_)
    ·refine k2 ?_
     refine A3 (A2 (I8 _ 1 H7) Z (A2 (I8 _ 1 H7) Z (A2 (A5 Z Z) Z (A6 ?_))))
     refine k1 (k10 (k11 (k12 (k11 (k11 (k12 (k11 ?_)))))))
     exact F7 (rets3 rfl rfl rfl rfl) (by repeat (first | exact C7 | refine tail_cons rfl ?_ | refine C8 _ ?_)) (ObIn.spec (ob' := []) trivial) (by rw [hp]; exact ⟨rfl, rfl⟩)
    ·cases ht
   | some q =>
    obtain ⟨s, w, e⟩ := q
    rw [rngR_some g, show ((j + 2 : Nat) : Int) = (j : Int) + 2 by omega] at hrg
    rw [g] at hsp
    have hsp : O9 l j [32, J2 n k] = some (s, w, j + 2 + e) := hsp
    have hje := spanAt_le hj hsp
    rw [sides_step hsp] at hp
    obtain ⟨jj, hjj⟩ : ∃ jj, jj = j + 2 + e := ⟨_, rfl⟩
    rw [← hjj] at hp hrg hje
    refine k2 (k2 ?_)
    refine A3 (A2 (A4 Z Z) Z (A2 (A4 Z Z) Z (A2 (T9 Z Z (by omega) (by omega)) Z (A2 (A4 Z Z) Z (B7 (hst) Z Z Z ?_))))); rintro _ rfl; refine A2 (D3 Z) Z (A6 ?_)
    refine k1 ?_
    refine B2 rfl (fun ht => ?_) (fun ht => ?_)
    ·cases ht
    refine k5 (k1 (k2 ?_))
    refine A3 (A2 (A4 Z Z) Z (A2 (A4 Z Z) Z (A2 (B9 Z Z (by omega)) Z (B7 (hrg) Z Z Z ?_)))); rintro _ rfl; refine A2 (A4 Z Z) Z (A2 (A9 Z Z) Z (A2 (A9 Z Z) Z (A2 (A9 Z Z) Z (A2 (A9 Z Z) Z (A2 (A5 Z Z) Z (A2 (A5 Z Z) Z (A2 (A5 Z Z) Z (A2 (A5 Z Z) Z (A6 ?_)))))))))
    refine k1 (k2 (k2 ?_))
    refine A3 (A2 (A4 Z Z) Z (A2 (D3 Z) Z (A6 ?_)))
    refine k1 ?_
    refine B2 rfl (fun ht => ?_) (fun ht => ?_)
    ·cases ht
    refine k5 (k1 (k2 ?_))
    refine A3 (A2 (A4 Z Z) Z (A2 (A4 Z Z) Z (A2 (D9 (c := H7) (ys := [s]) (F8 Z Z Z Z H5) Z Z Z) Z (C0 (J0 Z Z Z (.pure _ _ _ _) (by (simp only [List.length_cons, List.length_nil]; omega)) Z) Z (A2 (A4 Z Z) Z (A2 (A4 Z Z) Z (A2 (D9 (c := H7) (ys := [w]) (F8 Z Z Z Z H5) Z Z Z) Z (C0 (W1 Z Z Z (.pure _ _ _ _) (by (simp only [List.length_cons, List.length_nil]; omega)) Z) Z (A2 (A5 Z Z) Z (A2 (A5 Z Z) Z (A6 ?_)))))))))))
    refine k1 ?_
    refine A3 (A2 (A4 Z Z) Z (A2 (A5 Z Z) Z (A6 ?_)))
    refine k4 (k1 ?_)
    refine A3 (A2 (A4 Z Z) Z (A2 (B9 Z Z (by omega)) Z (A2 (A5 Z Z) Z (A6 ?_))))
    refine k1 ?_
    refine ⟨(k + 1, jj, a ++ [s], c' ++ [w]), ⟨by dsimp only; omega, hje, ⟨by dsimp only; rw [List.length_append]; simp; omega, by dsimp only; rw [List.length_append]; simp; omega⟩, ?_⟩, by dsimp only; omega, Sees.of ⟨le1 rfl, le1 rfl, le1 rfl, le1 rfl, le1 rfl, le1 rfl, trivial⟩ ⟨rfl, rfl, trivial⟩⟩
    dsimp only
    rw [hm2, hp, Option.map_map]
    congr 1
    funext q
    simp
  ·have hkn : k = n + 1 := by have := A1 ht; omega
   subst hkn
   rw [Nat.sub_self] at hp
   have hp : H = some (a, c') := by rw [hp]; simp [N8]
   rw [hp]
   refine k6 (k2 ?_)
   refine A3 (A2 (A4 Z Z) Z (A2 (A4 Z Z) Z (A2 (A5 Z Z) Z (A2 (A5 Z Z) Z (A2 (A5 Z Z) Z (A6 ?_))))))
   refine F6 (fr' := [(4, F4 Int 1 H7 a), (5, .s (.one (.mut 724))), (6, O0 true)]) (ob' := [(724, .grow 3 Int 1 H7 c')]) (Sees.of ⟨leL rfl, le1 rfl, le1 rfl, trivial⟩ ⟨rfl, trivial⟩) ?_
   refine k10 ?_
   exact F7 (rets3 rfl rfl rfl rfl) (by repeat (first | exact C7 | refine tail_cons rfl ?_ | refine C8 _ ?_)) (ObIn.spec (ob' := [(724, _)]) ⟨rfl, trivial⟩) ⟨rfl, rfl⟩
 ·refine k2 (k2 ?_)
  refine A3 (A2 (A4 Z Z) Z (A2 (A4 Z Z) Z (A2 (C6 Z) Z (A2 (D5 Z Z) Z (A2 (A4 Z Z) Z (A8 Z Z Z Z (fun hg => by rw [hg]; exact A4 Z Z) ?_)))))); refine A8 Z Z Z Z (fun hg => by rw [hg]; exact A4 Z Z) ?_; refine A8 Z Z Z Z (fun hg => by have hq := hg; (try simp at hq); rw [hg]; exact D6 Z Z (by omega) (gD (by omega))) ?_; refine A8 Z Z Z Z (fun hg => by rw [hg]; exact E8 Z Z) ?_; refine A2 (B3 Z (fun h => by first | rfl | (rw [h]; rfl)) (fun h => by first | rfl | (rw [h]; rfl))) Z ?_; refine A6 ?_
  refine k1 ?_
  refine B2 rfl (fun ht => ?_) (fun ht => ?_)
  ·exfalso
   revert ht
   simp; omega
  refine k6 (k2 (k2 ?_))
  refine A3 (A2 (A5 Z Z) Z (A6 ?_))
  refine k1 (k3 ?_)
  refine E0 (X := Nat × Nat × List Int × List Int) (fun x => ([(0, F9 l), (1, C3 n), (7, .s (.one (.buf 723 Int 1 H7 x.2.2.1))), (8, .s (.one (.mut 724))), (9, C3 x.2.1), (10, C3 x.1)], [(723, .spare x.2.2.1.length 1 3), (724, .grow 3 Int 1 H7 x.2.2.2)])) (fun x => x.1 ≤ n + 1 ∧ x.2.1 ≤ l.length ∧ (x.2.2.1.length = x.1 ∧ x.2.2.2.length = x.1) ∧ H = (N8 n l (n + 1 - x.1) x.1 x.2.1).map fun q => (x.2.2.1 ++ q.1, x.2.2.2 ++ q.2)) (fun x => n + 1 - x.1) (0, i, [], []) ⟨Nat.zero_le _, hTl, ⟨rfl, rfl⟩, by dsimp only; rw [hHR]; simp⟩ (Sees.of ⟨le1 rfl, le1 rfl, le1 rfl, le1 rfl, le1 rfl, le1 rfl, trivial⟩ ⟨rfl, rfl, trivial⟩) ?_
  rintro ⟨k, j, a, c'⟩ ⟨hk, hj, ⟨hal, hcl⟩, hp⟩
  dsimp only at hk hj hal hcl hp ⊢
  refine k2 (k2 ?_)
  refine A3 (A2 (A4 Z Z) Z (A2 (A4 Z Z) Z (A2 (o3 Z Z) Z (A6 ?_))))
  refine k1 ?_
  refine B2 rfl (fun ht => ?_) (fun ht => ?_)
  ·have hlt2 : k < n + 1 := by have := A0 ht; omega
   obtain ⟨m, hm⟩ : ∃ m, n + 1 - k = m + 1 := ⟨n - k, by omega⟩
   have hm2 : n + 1 - (k + 1) = m := by omega
   rw [hm] at hp
   refine k5 (k1 (k2 (k3 (k2 ?_))))
   refine A3 (A2 (A5 Z Z) Z (A6 ?_))
   refine H8 ?_
   refine U7 [(0, F9 l), (1, C3 n), (7, .s (.one (.buf 723 Int 1 H7 a))), (8, .s (.one (.mut 724))), (9, C3 j), (10, C3 k), (11, F9 [32, J2 n k])] [(723, .spare a.length 1 3), (724, .grow 3 Int 1 H7 c')] ?_ ?_
   ·refine k2 ?_
    refine A3 (A2 (A4 Z Z) Z (A2 (A4 Z Z) Z (A2 (E8 Z Z) Z (A6 ?_))))
    refine k1 ?_
    refine B2 rfl (fun ht => ?_) (fun ht => ?_)
    ·have hkn := A0 ht
     skip
     refine A3 (A2 (A5 Z Z) Z (A6 ?_))
     refine k1 ?_
     rw [show J2 n k = 43 by unfold J2; rw [if_pos (by omega)]]
     exact Sees.of ⟨le1 rfl, le1 rfl, le1 rfl, le1 rfl, le1 rfl, le1 rfl, le1 rfl, trivial⟩ ⟨rfl, rfl, trivial⟩
    ·have hkn := A1 ht
     refine k5 (k1 ?_)
     rw [show J2 n k = 45 by unfold J2; rw [if_neg (by omega)]]
     exact Sees.of ⟨le1 rfl, le1 rfl, le1 rfl, le1 rfl, le1 rfl, le1 rfl, le1 rfl, trivial⟩ ⟨rfl, rfl, trivial⟩
   have hst := m7 (l.drop j) [32, J2 n k]
   by_cases hs : (l.drop j).take 2 = [32, J2 n k]
   rotate_left
   ·rw [show ([32, J2 n k] : Str).length = 2 from rfl, decide_eq_false hs] at hst
    have hno : O9 l j [32, J2 n k] = none := by unfold O9; exact if_neg hs
    rw [sides_no hno] at hp
    have hp : H = none := hp
    refine k2 (k2 ?_)
    refine A3 (A2 (A4 Z Z) Z (A2 (A4 Z Z) Z (A2 (T9 Z Z (by omega) (by omega)) Z (A2 (A4 Z Z) Z (B7 (hst) Z Z Z ?_))))); rintro _ rfl; refine A2 (D3 Z) Z (A6 ?_)
    refine k1 ?_
    refine B2 rfl (fun ht => ?_) (fun ht => ?_)
    ·refine k2 ?_
     refine A3 (A2 (I8 _ 1 H7) Z (A2 (I8 _ 1 H7) Z (A2 (A5 Z Z) Z (A6 ?_))))
     refine k1 (k10 (k11 (k12 (k11 (k11 (k12 (k11 ?_)))))))
     exact F7 (rets3 rfl rfl rfl rfl) (by repeat (first | exact C7 | refine tail_cons rfl ?_ | refine C8 _ ?_)) (ObIn.spec (ob' := []) trivial) (by rw [hp]; exact ⟨rfl, rfl⟩)
    ·cases ht
   rw [show ([32, J2 n k] : Str).length = 2 from rfl, decide_eq_true hs] at hst
   have hj2 := take_len (l := l) (pre := [32, J2 n k]) hj hs
   have hj2 : j + 2 ≤ l.length := hj2
   have hrg := rRange_ok l (j + 2) hj2 (by omega)
   have hsp : O9 l j [32, J2 n k] = match L9 (l.drop (j + 2)) with | none => none | some (a, n, e) => some (a, n, j + 2 + e) := by
    unfold O9; exact if_pos hs
   cases g : L9 (l.drop (j + 2)) with
   | none =>
    rw [rngR_none g, show ((j + 2 : Nat) : Int) = (j : Int) + 2 by omega] at hrg
    rw [g] at hsp
    rw [sides_no hsp] at hp
    have hp : H = none := hp
    refine k2 (k2 ?_)
    refine A3 (A2 (A4 Z Z) Z (A2 (A4 Z Z) Z (A2 (T9 Z Z (by omega) (by omega)) Z (A2 (A4 Z Z) Z (B7 (hst) Z Z Z ?_))))); rintro _ rfl; refine A2 (D3 Z) Z (A6 ?_)
    refine k1 ?_
    refine B2 rfl (fun ht => ?_) (fun ht => ?_)
    ·cases ht
    refine k5 (k1 (k2 ?_))
    refine A3 (A2 (A4 Z Z) Z (A2 (A4 Z Z) Z (A2 (B9 Z Z (by omega)) Z (B7 (hrg) Z Z Z ?_)))); rintro _ rfl; refine A2 (A4 Z Z) Z (A2 (A9 Z Z) Z (A2 (A9 Z Z) Z (A2 (A9 Z Z) Z (A2 (A9 Z Z) Z (A2 (A5 Z Z) Z (A2 (A5 Z Z) Z (A2 (A5 Z Z) Z (A2 (A5 Z Z) Z (A6 ?_)))))))))
    refine k1 (k2 (k2 ?_))
    refine A3 (A2 (A4 Z Z) Z (A2 (D3 Z) Z (A6 ?_)))
    refine k1 ?_
    refine B2 rfl (fun ht => ?_) (fun ht => ?_)
    ·refine k2 ?_
     refine A3 (A2 (I8 _ 1 H7) Z (A2 (I8 _ 1 H7) Z (A2 (A5 Z Z) Z (A6 ?_))))
     refine k1 (k10 (k11 (k12 (k11 (k11 (k12 (k11 ?_)))))))
     exact F7 (rets3 rfl rfl rfl rfl) (by repeat (first | exact C7 | refine tail_cons rfl ?_ | refine C8 _ ?_)) (ObIn.spec (ob' := []) trivial) (by rw [hp]; exact ⟨rfl, rfl⟩)
    ·cases ht
   | some q =>
    obtain ⟨s, w, e⟩ := q
    rw [rngR_some g, show ((j + 2 : Nat) : Int) = (j : Int) + 2 by omega] at hrg
    rw [g] at hsp
    have hsp : O9 l j [32, J2 n k] = some (s, w, j + 2 + e) := hsp
    have hje := spanAt_le hj hsp
    rw [sides_step hsp] at hp
    obtain ⟨jj, hjj⟩ : ∃ jj, jj = j + 2 + e := ⟨_, rfl⟩
    rw [← hjj] at hp hrg hje
    refine k2 (k2 ?_)
    refine A3 (A2 (A4 Z Z) Z (A2 (A4 Z Z) Z (A2 (T9 Z Z (by omega) (by omega)) Z (A2 (A4 Z Z) Z (B7 (hst) Z Z Z ?_))))); rintro _ rfl; refine A2 (D3 Z) Z (A6 ?_)
    refine k1 ?_
    refine B2 rfl (fun ht => ?_) (fun ht => ?_)
    ·cases ht
    refine k5 (k1 (k2 ?_))
    refine A3 (A2 (A4 Z Z) Z (A2 (A4 Z Z) Z (A2 (B9 Z Z (by omega)) Z (B7 (hrg) Z Z Z ?_)))); rintro _ rfl; refine A2 (A4 Z Z) Z (A2 (A9 Z Z) Z (A2 (A9 Z Z) Z (A2 (A9 Z Z) Z (A2 (A9 Z Z) Z (A2 (A5 Z Z) Z (A2 (A5 Z Z) Z (A2 (A5 Z Z) Z (A2 (A5 Z Z) Z (A6 ?_)))))))))
    refine k1 (k2 (k2 ?_))
    refine A3 (A2 (A4 Z Z) Z (A2 (D3 Z) Z (A6 ?_)))
    refine k1 ?_
    refine B2 rfl (fun ht => ?_) (fun ht => ?_)
    ·cases ht
    refine k5 (k1 (k2 ?_))
    refine A3 (A2 (A4 Z Z) Z (A2 (A4 Z Z) Z (A2 (D9 (c := H7) (ys := [s]) (F8 Z Z Z Z H5) Z Z Z) Z (C0 (J0 Z Z Z (.pure _ _ _ _) (by (simp only [List.length_cons, List.length_nil]; omega)) Z) Z (A2 (A4 Z Z) Z (A2 (A4 Z Z) Z (A2 (D9 (c := H7) (ys := [w]) (F8 Z Z Z Z H5) Z Z Z) Z (C0 (W1 Z Z Z (.pure _ _ _ _) (by (simp only [List.length_cons, List.length_nil]; omega)) Z) Z (A2 (A5 Z Z) Z (A2 (A5 Z Z) Z (A6 ?_)))))))))))
    refine k1 ?_
    refine A3 (A2 (A4 Z Z) Z (A2 (A5 Z Z) Z (A6 ?_)))
    refine k4 (k1 ?_)
    refine A3 (A2 (A4 Z Z) Z (A2 (B9 Z Z (by omega)) Z (A2 (A5 Z Z) Z (A6 ?_))))
    refine k1 ?_
    refine ⟨(k + 1, jj, a ++ [s], c' ++ [w]), ⟨by dsimp only; omega, hje, ⟨by dsimp only; rw [List.length_append]; simp; omega, by dsimp only; rw [List.length_append]; simp; omega⟩, ?_⟩, by dsimp only; omega, Sees.of ⟨le1 rfl, le1 rfl, le1 rfl, le1 rfl, le1 rfl, le1 rfl, trivial⟩ ⟨rfl, rfl, trivial⟩⟩
    dsimp only
    rw [hm2, hp, Option.map_map]
    congr 1
    funext q
    simp
  ·have hkn : k = n + 1 := by have := A1 ht; omega
   subst hkn
   rw [Nat.sub_self] at hp
   have hp : H = some (a, c') := by rw [hp]; simp [N8]
   rw [hp]
   refine k6 (k2 ?_)
   refine A3 (A2 (A4 Z Z) Z (A2 (A4 Z Z) Z (A2 (A5 Z Z) Z (A2 (A5 Z Z) Z (A2 (A5 Z Z) Z (A6 ?_))))))
   refine F6 (fr' := [(4, F4 Int 1 H7 a), (5, .s (.one (.mut 724))), (6, O0 true)]) (ob' := [(724, .grow 3 Int 1 H7 c')]) (Sees.of ⟨leL rfl, le1 rfl, le1 rfl, trivial⟩ ⟨rfl, trivial⟩) ?_
   refine k10 ?_
   exact F7 (rets3 rfl rfl rfl rfl) (by repeat (first | exact C7 | refine tail_cons rfl ?_ | refine C8 _ ?_)) (ObIn.spec (ob' := [(724, _)]) ⟨rfl, trivial⟩) ⟨rfl, rfl⟩
end Go.Proofs.YtgejaedjnbjpoaaGreatDoor
