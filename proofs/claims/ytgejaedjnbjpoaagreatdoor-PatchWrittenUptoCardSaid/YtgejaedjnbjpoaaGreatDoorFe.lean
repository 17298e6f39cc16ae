/- Walks of the program's functions. -/
import Derived.Test.YtgejaedjnbjpoaaGreatDoorFd
import Derived.Test.YtgejaedjnbjpoaaGreatDoorFs
import Derived.Test.YtgejaedjnbjpoaaGreatDoorFc
namespace Go.Proofs.YtgejaedjnbjpoaaGreatDoor
open Go Go.AL
set_option maxRecDepth 100000
abbrev iBox (i : Int) : Ob := .box [.p (.v (.int .i64 i))]
theorem spairs1_met {gf : Fr} {ob : Obs} (e i j : Int) (out : List Span) (he : e ≤ 1048576) (hj : 0 ≤ j) (hj2 : j ≤ 536870912) (ho : (out.length : Int) ≤ i)
  (h5 : D4 ob 5 = some (.box [.buf 20 Span 2 spanC out])) (h6 : D4 ob 6 = some (iBox i)) (h7 : D4 ob 7 = some (iBox j)) (h20 : D4 ob 20 = some (.spare out.length 2 95)) :
  AL.Met Tryz.prog 271 [.one (.p (.v (.int .i64 e))), .one (.ref 6 0), .one (.ref 5 0), .one (.ref 7 0)] gf ob [20]
   (fun rs ob' => rs = [] ∧ ob' = (5, .box [.buf 20 Span 2 spanC (out ++ N1 i j (e - i).toNat)]) :: (6, iBox (i + (e - i).toNat)) :: (7, iBox (j + (e - i).toNat)) :: (20, .spare (out ++ N1 i j (e - i).toNat).length 2 95) :: Obs.forget 20 ob) := by
 refine AL.Met.introH Tryz.func271 (by decide) rfl rfl rfl (fun hH => ?_)
 refine k3 ?_
 refine E2 (X := Nat) (fun t => ([(0, C2 e), (1, .s (.one (.ref 6 0))), (2, .s (.one (.ref 5 0))), (3, .s (.one (.ref 7 0)))] ++ Fr.forget 20 gf, (5, .box [.buf 20 Span 2 spanC (out ++ N1 i j t)]) :: (6, iBox (i + t)) :: (7, iBox (j + t)) :: (20, .spare (out ++ N1 i j t).length 2 95) :: Obs.forget 20 ob)) (fun t => t ≤ (e - i).toNat) (fun t => (e - i).toNat - t) 0 (Nat.zero_le _) ?_ ?_
 ·rw [x8, List.append_nil, show i + ((0 : Nat) : Int) = i by omega, show j + ((0 : Nat) : Int) = j by omega]
  exact Sees.tailL 20 (l := [(0, C2 e), (1, .s (.one (.ref 6 0))), (2, .s (.one (.ref 5 0))), (3, .s (.one (.ref 7 0)))]) (L := [(5, _), (6, _), (7, _), (20, _)]) ⟨le1 rfl, le1 rfl, le1 rfl, le1 rfl, trivial⟩ hH (by repeat (first | exact C6 | refine C5 rfl ?_)) ⟨h5, h6, h7, h20, trivial⟩
 intro t ht0
 dsimp only at ht0 ⊢
 have hsl := Y1 i j t
 refine k2 (k2 ?_)
 refine A4 (A2 (A9 Z Z Z) Z (A2 (A3 Z Z) Z (A2 (E3 Z Z) Z (A6 ?_))))
 refine k1 ?_
 refine B2 rfl (fun ht => ?_) (fun ht => ?_)
 ·have h1 := A0 ht
  refine k5 (k1 (k2 (k3 (k2 ?_))))
  refine A4 (A2 (A9 Z Z Z) Z (A2 (A9 Z Z Z) Z (A2 (A9 Z Z Z) Z (A2 (F6 Z) Z (A2 (E0 (c := spanC) (ys := [⟨i + t, j + t⟩]) (E6 Z Z Z Z I6) Z Z Z) Z (C9 (J4 Z Z Z (.pure _ _ _ _) (by (simp only [List.length_append, List.length_cons, List.length_nil]; omega)) Z) Z (E9 (B7 TySz.out Z Z Z Z Z Z) (A6 ?_))))))))
  refine k1 ?_
  refine A4 (A2 (A9 Z Z Z) Z (A2 (C0 Z Z (by omega)) Z (E9 (B7 TySz.out Z Z Z Z Z Z) (A6 ?_))))
  refine k4 (k1 ?_)
  refine A4 (A2 (A9 Z Z Z) Z (A2 (C0 Z Z (by omega)) Z (E9 (B7 TySz.out Z Z Z Z Z Z) (A6 ?_))))
  refine k1 ?_
  refine ⟨t + 1, by omega, by omega, ?_⟩
  rw [spanRun_snoc, ← List.append_assoc, show i + ((t + 1 : Nat) : Int) = i + t + 1 by omega, show j + ((t + 1 : Nat) : Int) = j + t + 1 by omega]
  exact Sees.tailed ⟨le1 rfl, le1 rfl, le1 rfl, le1 rfl, trivial⟩ (L8 hH) (by repeat (first | exact C6 | refine C5 rfl ?_ | refine J0 _ ?_)) (obs_put (L := [(5, _), (6, _), (7, _), (20, _)]) ⟨rfl, rfl, rfl, rfl, trivial⟩ (by repeat (first | exact obs_refl | refine obs_skip rfl ?_ | refine obs_fgt _ ?_)))
 ·have h1 := A1 ht
  have h2 : t = (e - i).toNat := by omega
  subst h2
  refine k6 (k7 (k7 (k8 Z ?_)))
  exact met_normal (rets0 rfl) (by repeat (first | exact C6 | refine C5 rfl ?_ | refine D2 _ ?_)) (fun _ _ h => h) ⟨rfl, rfl⟩
theorem spairs_ok (l : List Change) (m : Int) (hl : l.length ≤ 32768) (hm : m ≤ 4096) (hb : ∀ c ∈ l, c.Old ≤ 4096 ∧ 0 ≤ c.OldLen ∧ c.OldLen ≤ 4096 ∧ 0 ≤ c.NewLen ∧ c.NewLen ≤ 4096) :
  FnOk Tryz.prog 250 [pChanges l, F0 m] (fun rs => rs = [pSpans (W3 l m)]) := by
 refine FnOk.intro Tryz.func250 (by decide) Z Z Z Z ?_
 refine k2 ?_
 refine A4 (A2 (A5 Z Z) Z (A6 ?_))
 refine k1 (k2 ?_)
 refine A4 (C9 (G3 5 Z) Z (A6 ?_))
 refine F8 (Sees.adoptB 20 Span 2 spanC 95 (kb := 5) (o := 0) Z Z Z) ?_
 refine k2 ?_
 refine A4 (C9 (G3 6 Z) Z (C9 (G3 7 Z) Z (E9 (B7 TySz.out Z Z Z Z Z Z) (E9 (B7 TySz.out Z Z Z Z Z Z) (A6 ?_)))))
 refine k1 (k2 ?_)
 refine A4 (A2 (n_makeFunc Z Z) Z (A2 (A5 Z Z) Z (A6 ?_)))
 refine k1 (k2 (k2 ?_))
 refine A4 (A2 (A3 Z Z) Z (A2 (E1 Z (.pure _ _ _ _)) Z (A2 (A3 Z Z) Z (A6 ?_))))
 refine k1 (k3 ?_)
 refine E2 (X := Nat × Int × Int × List Span) (fun x => ([(1, C2 m), (5, .s (.one (.ref 5 0))), (6, .s (.one (.ref 6 0))), (7, .s (.one (.ref 7 0))), (8, .s (.one (.clo 271 [] [(6, 0), (5, 0), (7, 0)]))), (12, D3 Change 4 changeC l), (13, C2 l.length), (14, C2 x.1)], [(5, .box [.buf 20 Span 2 spanC x.2.2.2]), (6, iBox x.2.1), (7, iBox x.2.2.1), (20, .spare x.2.2.2.length 2 95)]))
  (fun x => x.1 ≤ l.length ∧ 0 ≤ x.2.1 ∧ (x.2.2.2.length : Int) ≤ x.2.1 ∧ x.2.1 ≤ 4096 + x.1 * 4096 ∧ 0 ≤ x.2.2.1 ∧ x.2.2.1 ≤ x.1 * 8192 ∧ x.2.2.2 ++ U8 x.2.1 x.2.2.1 (l.drop x.1) m = W3 l m)
  (fun x => l.length - x.1) (0, 0, 0, []) (by simp [W3]) (Sees.of ⟨le1 rfl, le1 rfl, le1 rfl, le1 rfl, le1 rfl, le1 rfl, le1 rfl, le1 rfl, trivial⟩ ⟨rfl, rfl, rfl, rfl, trivial⟩) ?_
 rintro ⟨k, i, j, out⟩ ⟨hk, hi, ho, hi2, hj, hj2, hp⟩
 dsimp only at hk hi ho hi2 hj hj2 hp ⊢
 refine k2 ?_
 refine A4 (A2 (E3 Z Z) Z (A6 ?_))
 refine k1 (k2 ?_)
 refine B2 rfl (fun ht => ?_) (fun ht => ?_)
 ·have hlt : k < l.length := by have := A0 ht; omega
  obtain ⟨c, hcd⟩ : ∃ c, c = l[k] := ⟨_, rfl⟩
  have hv : l[k]? = some c := by rw [hcd]; simp [hlt]
  have hc := hb c (List.mem_of_getElem? hv)
  rw [List.drop_eq_getElem_cons hlt, ← hcd, U8] at hp
  refine k5 (k1 (k2 (k3 (k2 ?_))))
  refine A4 (A2 (B5 Z (.pure _ _ _ _) Z (by omega) hv) Z (A2 (E5 Z Z) Z (C9 (G3 10 Z) Z (E9 (B7 TySz.out Z Z Z Z Z Z) (A6 ?_)))))
  refine k1 (k2 ?_)
  refine T5 [(1, C2 m), (5, .s (.one (.ref 5 0))), (6, .s (.one (.ref 6 0))), (7, .s (.one (.ref 7 0))), (8, .s (.one (.clo 271 [] [(6, 0), (5, 0), (7, 0)]))), (10, .s (.one (.ref 10 0))), (12, D3 Change 4 changeC l), (13, C2 l.length), (14, C2 k)] [(5, .box [.buf 20 Span 2 spanC out]), (6, iBox i), (7, iBox j), (20, .spare out.length 2 95), (10, .box [.p (.v (.int .i64 c.Old)), .p (.v (.int .i64 c.OldLen)), .p (.v (.int .i64 c.New)), .p (.v (.int .i64 c.NewLen))])] (Sees.of ⟨le1 rfl, le1 rfl, le1 rfl, le1 rfl, le1 rfl, le1 rfl, le1 rfl, le1 rfl, le1 rfl, trivial⟩ ⟨rfl, rfl, rfl, rfl, rfl, trivial⟩) ?_
  refine A4 (A2 (A3 Z Z) Z (A2 (A7 Z) Z (A2 (A9 Z Z Z) Z (w8 (spairs1_met c.Old i j out (by omega) hj (by omega) ho Z Z Z Z) Z Z Z Z ?_)))); rintro _ _ ⟨rfl, rfl⟩; refine A6 ?_
  refine k1 ?_
  obtain ⟨n, hn⟩ : ∃ n, n = (c.Old - i).toNat := ⟨_, rfl⟩
  rw [← hn] at hp ⊢
  refine T5 [(1, C2 m), (5, .s (.one (.ref 5 0))), (6, .s (.one (.ref 6 0))), (7, .s (.one (.ref 7 0))), (8, .s (.one (.clo 271 [] [(6, 0), (5, 0), (7, 0)]))), (10, .s (.one (.ref 10 0))), (12, D3 Change 4 changeC l), (13, C2 l.length), (14, C2 k)] [(5, .box [.buf 20 Span 2 spanC (out ++ N1 i j n)]), (6, iBox (i + n)), (7, iBox (j + n)), (20, .spare (out ++ N1 i j n).length 2 95), (10, .box [.p (.v (.int .i64 c.Old)), .p (.v (.int .i64 c.OldLen)), .p (.v (.int .i64 c.New)), .p (.v (.int .i64 c.NewLen))])] (Sees.of ⟨le1 rfl, le1 rfl, le1 rfl, le1 rfl, le1 rfl, le1 rfl, le1 rfl, le1 rfl, le1 rfl, trivial⟩ ⟨rfl, rfl, rfl, rfl, rfl, trivial⟩) ?_
  refine c_region_any [9, 8] [[], [8], [9, 8]] [(4, [8]), (5, [8]), (6, [8]), (7, [8])] (by kernel_rfl) (by kernel_rfl) (u7 Z (A9 Z Z Z) (u7 Z (A7 Z) (u7 Z (A9 Z Z Z) (u7 Z (C0 Z Z (by omega)) (u7 Z (A9 Z Z Z) (u7 Z (A7 Z) (u7 Z (A9 Z Z Z) (u7 Z (C0 Z Z (by omega)) (a_store (u0 TySz.out Z Z Z Z Z Z) (a_store (u0 TySz.out Z Z Z Z Z Z) ?_)))))))))); refine a_nil rfl ?_ ?_
  ·refine O6 Z Z (A9 Z Z Z) (O6 Z Z (A7 Z) (O6 Z Z (A9 Z Z Z) (O6 Z Z (C0 Z Z (by omega)) ?_))); exact o_nil
  refine k4 (k1 ?_)
  refine A4 (A2 (C0 Z Z (by omega)) Z (A2 (A3 Z Z) Z (A6 ?_)))
  refine k1 ?_
  have hsl := Y1 i j n
  have h3 : max i c.Old = i + n := by omega
  rw [h3] at hp
  exact ⟨(k + 1, i + n + c.OldLen, j + n + c.NewLen, out ++ N1 i j n), ⟨by dsimp only; omega, by dsimp only; omega, by dsimp only; rw [List.length_append, hsl]; omega, by dsimp only; omega, by dsimp only; omega, by dsimp only; omega, by dsimp only; rw [List.append_assoc]; exact hp⟩, by dsimp only; omega, Sees.of ⟨le1 rfl, le1 rfl, le1 rfl, le1 rfl, le1 rfl, le1 rfl, le1 rfl, le1 rfl, trivial⟩ ⟨rfl, rfl, rfl, rfl, trivial⟩⟩
 ·have hk' : k = l.length := by have := A1 ht; omega
  rw [hk', List.drop_eq_nil_of_le (Nat.le_refl _), U8] at hp
  refine k6 (k2 ?_)
  refine A4 (A2 (A3 Z Z) Z (A2 (A3 Z Z) Z (w8 (spairs1_met m i j out (by omega) hj (by omega) ho Z Z Z Z) Z Z Z Z ?_))); rintro _ _ ⟨rfl, rfl⟩; refine A6 ?_
  refine k1 (k2 ?_)
  rw [hp]
  refine F8 (Sees.forget 20) ?_
  refine A4 (A2 (A9 Z Z Z) Z (A2 (A5 Z Z) Z (A6 ?_)))
  refine k1 (k10 ?_)
  exact B6 (H1 rfl rfl rfl) rfl
theorem script_cs {l : List Change} {m n : Int} (hok : ScOk 0 0 l m n) : ∀ c ∈ l, c.Old ≤ 4096 ∧ 0 ≤ c.OldLen ∧ c.OldLen ≤ 4096 ∧ 0 ≤ c.NewLen ∧ c.NewLen ≤ 4096 := by
 intro c hc
 obtain ⟨k, hk, rfl⟩ := List.mem_iff_getElem.1 hc
 have := hok.get k hk
 have e : cAt l k = l[k] := by unfold cAt; simp [hk]
 rw [e] at this
 obtain ⟨⟨_, h1⟩, ⟨h2, h3⟩, _, ⟨h4, h5⟩, _⟩ := this
 exact ⟨h1, h2, h3, h4, h5⟩
theorem matched_len {l : List Change} {m n : Int} (hm : m ≤ 4096) (hok : ScOk 0 0 l m n) : (W3 l m).length ≤ 4096 := by
 have := matchedGo_length l 0 0 m (by omega) 4096 (by omega) (fun c hc => ⟨by have := (script_cs hok c hc).1; omega, (script_cs hok c hc).2.1⟩)
 unfold W3; omega
def PairAt (a b : List Int) (p : Span) : Prop := 0 ≤ p.From ∧ 0 ≤ p.To ∧ ∃ v, a[p.From.toNat]? = some v ∧ b[p.To.toNat]? = some v
theorem sFits_ok (l : List Change) (a b : List Int) (hl : l.length ≤ 32768) (hc : Q4 l a.length b.length = 0) (hp : ∀ p ∈ W3 l a.length, PairAt a b p) :
  FnOk Tryz.prog 204 [pChanges l, W8 a, W8 b] (fun rs => rs = [F9 true]) := by
 obtain ⟨⟨_, ha⟩, ⟨_, hb⟩, hok⟩ := check8_ok hc
 have hcs := script_cs hok
 have hpl := matched_len (by omega) hok
 obtain ⟨ps, hps⟩ : ∃ ps, ps = W3 l a.length := ⟨_, rfl⟩
 rw [← hps] at hpl
 refine FnOk.intro Tryz.func204 (by decide) Z Z Z Z ?_
 refine k2 ?_
 refine A4 (A2 (A5 Z Z) Z (A6 ?_))
 refine k1 (k2 (k2 ?_))
 refine A4 (A2 (A3 Z Z) Z (A2 (A3 Z Z) Z (A2 (E1 Z (.pure _ _ _ _)) Z (A2 (A3 Z Z) Z (A2 (E1 Z (.pure _ _ _ _)) Z (C3 (scheck_ok l a.length b.length (by omega)) Z Z Z ?_)))))); rintro _ rfl; refine A2 (K7 Z Z) Z (A6 ?_)
 rw [hc]
 refine k1 ?_
 refine B2 rfl (fun ht => ?_) (fun ht => ?_)
 ·cases ht
 refine k5 (k1 (k2 (k2 ?_)))
 refine A4 (A2 (A3 Z Z) Z (A2 (A3 Z Z) Z (A2 (E1 Z (.pure _ _ _ _)) Z (C3 (spairs_ok l a.length hl ha hcs) Z Z Z ?_)))); rintro _ rfl; refine A2 (E1 Z (.pure _ _ _ _)) Z (A2 (A3 Z Z) Z (A6 ?_))
 rw [← hps] at hp ⊢
 refine k1 (k3 ?_)
 refine E2 (X := Nat) (fun k => ([(1, D3 Int 1 K5 a), (2, D3 Int 1 K5 b), (19, D3 Span 2 spanC ps), (20, C2 ps.length), (21, C2 k)], [])) (fun k => k ≤ ps.length) (fun k => ps.length - k) 0 (Nat.zero_le _) (Sees.of ⟨le1 rfl, le1 rfl, le1 rfl, le1 rfl, le1 rfl, trivial⟩ trivial) ?_
 intro k hk
 dsimp only at hk ⊢
 refine k2 ?_
 refine A4 (A2 (E3 Z Z) Z (A6 ?_))
 refine k1 (k2 ?_)
 refine B2 rfl (fun ht => ?_) (fun ht => ?_)
 ·have hlt : k < ps.length := by have := A0 ht; omega
  obtain ⟨p, hpd⟩ : ∃ p, p = ps[k] := ⟨_, rfl⟩
  have hv : ps[k]? = some p := by rw [hpd]; simp [hlt]
  obtain ⟨h1, h2, v, h3, h4⟩ := hp p (List.mem_of_getElem? hv)
  have h5 := (List.getElem?_eq_some_iff.1 h3).1
  have h6 := (List.getElem?_eq_some_iff.1 h4).1
  refine k5 (k1 (k2 (k3 (k2 ?_))))
  refine A4 (A2 (B5 Z (.pure _ _ _ _) Z (by omega) hv) Z (A2 (E5 Z Z) Z (C9 (G3 8 Z) Z (E9 (B7 TySz.out Z Z Z Z Z Z) (A6 ?_)))))
  refine k1 (k2 ?_)
  refine C7 (by kernel_rfl) (by kernel_rfl) (A8 (A3 Z Z) Z Z (A8 (A7 Z) Z Z (A8 (A9 Z Z Z) Z Z (A8 (B5 Z (.pure _ _ _ _) Z (by omega) h3) Z Z (A8 (B9 Z Z) Z Z (A8 (A3 Z Z) Z Z (A8 (A7 Z) Z Z (A8 (A9 Z Z Z) Z Z (A8 (B5 Z (.pure _ _ _ _) Z (by omega) h4) Z Z (A8 (B9 Z Z) Z Z (A8 (K7 Z Z) Z Z (H2 ?_))))))))))))
  refine k1 ?_
  refine B2 rfl (fun ht => ?_) (fun ht => ?_)
  ·exact absurd (A0 ht) (by simp)
  refine k5 (k4 (k1 ?_))
  refine A4 (A2 (C0 Z Z (by omega)) Z (A2 (A3 Z Z) Z (A6 ?_)))
  refine k1 ?_
  exact ⟨k + 1, hlt, by omega, Sees.of ⟨le1 rfl, le1 rfl, le1 rfl, le1 rfl, le1 rfl, trivial⟩ trivial⟩
 ·refine k6 (k2 ?_)
  refine A4 (A2 (A5 Z Z) Z (A6 ?_))
  refine k1 (k10 ?_)
  exact B6 (H1 rfl rfl rfl) rfl
theorem fit_pairs {x y : List Str} {names : List Str} {l : List Change} (h : ScFit x y l) : ∀ p ∈ W3 l ((F2 names x).length : Int), PairAt (F2 names x) (F2 names y) p := by
 intro p hp
 rw [show ((F2 names x).length : Int) = x.length by simp [F2]] at hp
 obtain ⟨h1, h2, v, h3, h4⟩ := h.pairs p hp
 refine ⟨h1, h2, I7 names v 0, ?_, ?_⟩
 ·unfold F2; rw [List.getElem?_map, h3]; rfl
 ·unfold F2; rw [List.getElem?_map, h4]; rfl
abbrev tI (i : Int) : S1 := .one (.p (.v (.int .i64 i)))
abbrev tIs (l : List Int) : S1 := .one (.p (.list Int 1 K5 l))
abbrev tB (b : Bool) : S1 := .one (.p (.v (.bool b)))
abbrev mvO (l : List Change) (a b : List Int) : Obs := [(700, .box [.mut 701, .p (.list Int 1 K5 a), .p (.list Int 1 K5 b)]), (701, .grow 164 Change 4 changeC l)]
def sideS (c : Change) (a b : List Int) : List S1 := if c.NewLen = 0 then [tIs a, tI c.Old, tI c.OldLen, tB true] else if c.OldLen = 0 then [tIs b, tI c.New, tI c.NewLen, tB true] else [.one (.p (.v (.slice none 0 0))), tI 0, tI 0, tB false]
theorem region_met {gf : Fr} (l : List Change) (a b : List Int) (k : Nat) (c : Change) (hv : l[k]? = some c) :
  AL.Met Tryz.prog 206 [.one (.ref 700 0), tI k] gf (mvO l a b) [708] (fun rs ob' => rs = sideS c a b ∧ ob' = mvO l a b) := by
 have hk := (List.getElem?_eq_some_iff.1 hv).1
 refine AL.Met.intro Tryz.func206 (by decide) Z Z Z ?_
 refine k2 ?_
 refine A4 (A2 (A5 Z Z) Z (A2 (A5 Z Z) Z (A2 (A5 Z Z) Z (A2 (A5 Z Z) Z (A6 ?_)))))
 refine k1 (k2 ?_)
 refine A4 (A2 (A3 Z Z) Z (A2 (B4 Z) Z (A2 (A7 Z) Z (A2 (A9 Z Z Z) Z (A2 (A3 Z Z) Z (A2 (K9 Z Z Z (by omega) (by omega)) Z (A2 (n_loads_g Z Z hv Z) Z (C9 (e_alloc 708 Z (by decide)) Z (E9 (B7 TySz.out Z Z Z Z Z Z) (A6 ?_))))))))))
 refine k1 (k2 (k3 (k2 ?_)))
 refine A4 (A2 (A7 Z) Z (A2 (A9 Z Z Z) Z (A2 (I8 Z Z) Z (A2 (A5 Z Z) Z (A6 ?_)))))
 refine k1 ?_
 refine B2 rfl (fun ht => ?_) (fun ht => ?_)
 ·have h1 := A0 ht
  refine k2 ?_
  refine C7 (by kernel_rfl) (by kernel_rfl) (A8 (A3 Z Z) Z Z (A8 (B4 Z) Z Z (A8 (A7 Z) Z Z (A8 (A9 Z Z Z) Z Z (A8 (A7 Z) Z Z (A8 (A9 Z Z Z) Z Z (A8 (A7 Z) Z Z (A8 (A9 Z Z Z) Z Z (A8 (A5 Z Z) Z Z (A8 (A5 Z Z) Z Z (A8 (A5 Z Z) Z Z (A8 (A5 Z Z) Z Z (H2 ?_)))))))))))))
  refine k1 (k10 (k12 (k11 ?_)))
  exact G1 (rets4 rfl rfl rfl rfl rfl) (by repeat (first | exact C6 | refine C5 rfl ?_ | refine D2 _ ?_)) (ObIn.spec (ob' := mvO l a b) ⟨rfl, rfl, trivial⟩) ⟨by unfold sideS; rw [if_pos h1]; rfl, rfl⟩
 ·have h1 := A1 ht
  refine k2 ?_
  refine A4 (A2 (A7 Z) Z (A2 (A9 Z Z Z) Z (A2 (I8 Z Z) Z (A2 (A5 Z Z) Z (A6 ?_)))))
  refine k1 ?_
  refine B2 rfl (fun ht => ?_) (fun ht => ?_)
  ·have h2 := A0 ht
   refine k2 ?_
   refine C7 (by kernel_rfl) (by kernel_rfl) (A8 (A3 Z Z) Z Z (A8 (B4 Z) Z Z (A8 (A7 Z) Z Z (A8 (A9 Z Z Z) Z Z (A8 (A7 Z) Z Z (A8 (A9 Z Z Z) Z Z (A8 (A7 Z) Z Z (A8 (A9 Z Z Z) Z Z (A8 (A5 Z Z) Z Z (A8 (A5 Z Z) Z Z (A8 (A5 Z Z) Z Z (A8 (A5 Z Z) Z Z (H2 ?_)))))))))))))
   refine k1 (k10 (k12 (k11 ?_)))
   exact G1 (rets4 rfl rfl rfl rfl rfl) (by repeat (first | exact C6 | refine C5 rfl ?_ | refine D2 _ ?_)) (ObIn.spec (ob' := mvO l a b) ⟨rfl, rfl, trivial⟩) ⟨by unfold sideS; rw [if_neg h1, if_pos h2]; rfl, rfl⟩
  ·have h2 := A1 ht
   refine k5 (k2 ?_)
   refine A4 (A2 (A5 Z Z) Z (A2 (A5 Z Z) Z (A2 (A5 Z Z) Z (A2 (A5 Z Z) Z (A6 ?_)))))
   refine k1 (k10 ?_)
   exact G1 (rets4 rfl rfl rfl rfl rfl) (by repeat (first | exact C6 | refine C5 rfl ?_ | refine D2 _ ?_)) (ObIn.spec (ob' := mvO l a b) ⟨rfl, rfl, trivial⟩) ⟨by unfold sideS; rw [if_neg h1, if_neg h2], rfl⟩
theorem end_met {gf : Fr} (l : List Change) (a b : List Int) (k : Nat) (c : Change) (hv : l[k]? = some c) (h1 : 0 ≤ c.Old ∧ c.Old ≤ 4096) (h2 : 0 ≤ c.OldLen ∧ c.OldLen ≤ 4096) :
  AL.Met Tryz.prog 207 [.one (.ref 700 0), tI k] gf (mvO l a b) [] (fun rs ob' => rs = [tI (c.Old + c.OldLen)] ∧ ob' = mvO l a b) := by
 have hk := (List.getElem?_eq_some_iff.1 hv).1
 refine AL.Met.intro Tryz.func207 (by decide) Z Z Z ?_
 refine k2 ?_
 refine A4 (A2 (A5 Z Z) Z (A6 ?_))
 refine k1 (k2 ?_)
 refine C7 (by kernel_rfl) (by kernel_rfl) (A8 (A3 Z Z) Z Z (A8 (B4 Z) Z Z (A8 (A7 Z) Z Z (A8 (A9 Z Z Z) Z Z (A8 (A3 Z Z) Z Z (A8 (K9 Z Z Z (by omega) (by omega)) Z Z (A8 (H4 Z) Z Z (A8 (n_load_g Z Z hv Z) Z Z (A8 (A3 Z Z) Z Z (A8 (B4 Z) Z Z (A8 (A7 Z) Z Z (A8 (A9 Z Z Z) Z Z (A8 (A3 Z Z) Z Z (A8 (K9 Z Z Z (by omega) (by omega)) Z Z (A8 (H4 Z) Z Z (A8 (n_load_g Z Z hv Z) Z Z (A8 (C0 Z Z (by omega)) Z Z (A8 (A5 Z Z) Z Z (H2 ?_)))))))))))))))))))
 refine k1 (k10 ?_)
 exact G1 (R4 rfl rfl) (by repeat (first | exact C6 | refine C5 rfl ?_ | refine D2 _ ?_)) (ObIn.spec (ob' := mvO l a b) ⟨rfl, rfl, trivial⟩) ⟨rfl, rfl⟩
theorem sdown_met {gf : Fr} (l : List Change) (a b : List Int) (k : Nat) (hk : k < l.length) (hl : l.length ≤ 32768) (ha : a.length ≤ 4096) (hb : b.length ≤ 4096) (hsc : J3 0 0 0 l a.length b.length = true) :
  AL.Met Tryz.prog 137 [.one (.ref 700 0), tI k] gf (mvO l a b) [708] (fun rs ob' => rs = [tB (S4 l a b k)] ∧ ob' = mvO (if S4 l a b k = true then R0 l k else l) a b) := by
 have hok := l4 _ _ _ _ _ _ hsc
 obtain ⟨c, hc⟩ : ∃ c, c = cAt l k := ⟨_, rfl⟩
 have hv : l[k]? = some c := by rw [hc]; exact i6 hk
 have hg := hok.get k hk
 rw [← hc] at hg
 obtain ⟨c1, c2, c3, c4, c5, c6⟩ := hg
 unfold G7 at c1 c2 c3 c4
 have hnx : k + 1 < l.length → l[k + 1]? = some (cAt l (k + 1)) ∧ 0 ≤ (cAt l (k + 1)).Old ∧ (cAt l (k + 1)).Old ≤ a.length := fun h => by
  have := hok.get (k + 1) h
  unfold G7 at this
  exact ⟨i6 h, this.1.1, by omega⟩
 have hnx' : k + 1 < l.length → l[((k : Int) + 1).toNat]? = some (cAt l (k + 1)) := fun h => by
  rw [show ((k : Int) + 1).toNat = k + 1 by omega]; exact i6 h
 obtain ⟨z, hz⟩ : ∃ z : Int, z = if k + 1 < l.length then (cAt l (k + 1)).Old - (c.Old + c.OldLen) - 1 else a.length - (c.Old + c.OldLen) := ⟨_, rfl⟩
 have hge := sc_end _ _ _ 0 0 0 hsc
 have hcase : (∃ (t : List Int) (f n : Int), sideS c a b = [tIs t, tI f, tI n, tB true] ∧ S4 l a b k = decide (1 ≤ z ∧ atI t f = atI t (f + n)) ∧ t.length ≤ 4096 ∧ 0 ≤ f ∧ 0 ≤ n ∧ (1 ≤ z → f + n < t.length)) ∨ (sideS c a b = [.one (.p (.v (.slice none 0 0))), tI 0, tI 0, tB false] ∧ S4 l a b k = false) := by
  have hzr : (1 ≤ z ↔ (k + 1 = l.length ∨ c.Old + c.OldLen + 1 < (cAt l (k + 1)).Old) ∧ c.Old + c.OldLen < a.length) ∧ (1 ≤ z ↔ (k + 1 = l.length ∨ c.Old + c.OldLen + 1 < (cAt l (k + 1)).Old) ∧ c.New + c.NewLen < b.length) := by
   by_cases q : k + 1 < l.length
   ·rw [if_pos q] at hz
    have g1 := hnx q
    have g2 := hok.get (k + 1) q
    have g3 := r7 _ _ _ 0 0 0 hsc (k + 1) q
    rw [eoI_succ, enI_succ, ← hc] at g3
    unfold G7 V8 endN at g3
    unfold G7 at g2
    omega
   ·rw [if_neg q] at hz
    have q2 : l.length = k + 1 := by omega
    rw [q2, eoI_succ, enI_succ, ← hc] at hge
    unfold V8 endN at hge
    omega
  unfold sideS S4
  rw [← hc]
  by_cases h1 : c.NewLen = 0
  ·rw [if_pos h1, if_pos h1]
   refine .inl ⟨_, _, _, rfl, ?_, ha, c1.1, c2.1, fun h => (hzr.1.1 h).2⟩
   have e : downT l k a c.Old c.OldLen ↔ 1 ≤ z ∧ atI a c.Old = atI a (c.Old + c.OldLen) := by
    unfold downT
    rw [← hc, hzr.1]
    constructor
    ·rintro ⟨⟨q1, q2⟩, q3⟩; exact ⟨⟨q3, q1⟩, q2⟩
    ·rintro ⟨⟨q3, q1⟩, q2⟩; exact ⟨⟨q1, q2⟩, q3⟩
   simp only [e]
  ·rw [if_neg h1, if_neg h1]
   by_cases h2 : c.OldLen = 0
   ·rw [if_pos h2, if_pos h2]
    refine .inl ⟨_, _, _, rfl, ?_, hb, c3.1, c4.1, fun h => (hzr.2.1 h).2⟩
    have e : downT l k b c.New c.NewLen ↔ 1 ≤ z ∧ atI b c.New = atI b (c.New + c.NewLen) := by
     unfold downT
     rw [← hc, hzr.2]
     constructor
     ·rintro ⟨⟨q1, q2⟩, q3⟩; exact ⟨⟨q3, q1⟩, q2⟩
     ·rintro ⟨⟨q3, q1⟩, q2⟩; exact ⟨⟨q1, q2⟩, q3⟩
    simp only [e]
   ·rw [if_neg h2, if_neg h2]; exact .inr ⟨rfl, rfl⟩
 rcases hcase with ⟨t, f, n, hr, hcd, ht4, f0, n0, fn⟩ | ⟨hr, hcd⟩
 ·have hrm := fun gf => region_met (gf := gf) l a b k c hv
  rw [hr] at hrm
  have hat : ∀ i : Int, 0 ≤ i → i < t.length → t[i.toNat]? = some (atI t i) := fun i h0 h1 => by
   unfold atI; rw [List.getD_eq_getElem?_getD, List.getElem?_eq_getElem (show i.toNat < t.length by omega)]; rfl
  refine AL.Met.introH Tryz.func137 (by decide) rfl rfl rfl (fun hH => ?_)
  refine k2 ?_
  refine A4 (A2 (A5 Z Z) Z (A6 ?_))
  refine k1 (k2 ?_)
  refine A4 (A2 (A3 Z Z) Z (A2 (A3 Z Z) Z (R5 (hrm _) Z Z Z ?_))); rintro _ _ ⟨rfl, rfl⟩; refine A2 (A3 Z Z) Z (A2 (B3 Z Z) Z (A2 (B3 Z Z) Z (A2 (B3 Z Z) Z (A2 (B3 Z Z) Z (A2 (A5 Z Z) Z (A2 (A5 Z Z) Z (A2 (A5 Z Z) Z (A2 (A5 Z Z) Z (A6 ?_)))))))))
  refine k1 (k2 (k2 ?_))
  refine A4 (A2 (A3 Z Z) Z (A2 (F4 Z) Z (A6 ?_)))
  refine k1 ?_
  refine B2 rfl (fun ht => ?_) (fun ht => ?_)
  ·cases ht
  refine k5 (k1 (k2 ?_))
  refine T5 ([(0, .s (.one (.ref 700 0))), (1, C2 k), (5, D3 Int 1 K5 t), (6, C2 f), (7, C2 n)] ++ Fr.forget 708 gf) (mvO l a b) (Sees.tailed ⟨le1 rfl, le1 rfl, le1 rfl, le1 rfl, le1 rfl, trivial⟩ (L8 hH) (by repeat (first | exact C6 | refine tail_drop rfl ?_ | refine C5 rfl ?_ | refine J0 _ ?_)) (ObIn.spec (ob' := mvO l a b) ⟨rfl, rfl, trivial⟩)) ?_
  refine n4 [7] [[], [7]] [(7, ([], []))] [(0, []), (1, []), (2, []), (3, []), (4, []), (5, []), (6, []), (7, []), (8, [7]), (9, [7])] [(0, [7]), (1, [7]), (2, [7]), (3, [7]), (4, [7])] (by kernel_rfl) (by kernel_rfl) (J8 Z Z Z Z Z (A3 Z Z) (J8 Z Z Z Z Z (B4 Z) (J8 Z Z Z Z Z (A7 Z) (J8 Z Z Z Z Z (A9 Z Z Z) (J8 Z Z Z Z Z (E1 Z (.pure _ _ _ _)) (J8 Z Z Z Z Z (A3 Z Z) (J8 Z Z Z Z Z (A3 Z Z) (w_eff Z Z Z Z Z (r_met (fun gf => end_met l a b k c hv c1 c2) Z Z) Z (J8 Z Z Z Z Z (I1 Z Z (by omega)) (J8 Z Z Z Z Z (A5 Z Z) ?_)))))))))); refine w_nil rfl rfl ?_ ?_
  ·refine R9 Z Z Z Z Z (A3 Z Z) (R9 Z Z Z Z Z (B4 Z) (R9 Z Z Z Z Z (A7 Z) (R9 Z Z Z Z Z (A9 Z Z Z) (R9 Z Z Z Z Z (E1 Z (.pure _ _ _ _)) ?_)))); exact x_nil
  refine H9 ?_
  refine T5 ([(0, .s (.one (.ref 700 0))), (1, C2 k), (5, D3 Int 1 K5 t), (6, C2 f), (7, C2 n), (9, C2 ((a.length : Int) - (c.Old + c.OldLen)))] ++ Fr.forget 708 gf) (mvO l a b) (Sees.tailed ⟨le1 rfl, le1 rfl, le1 rfl, le1 rfl, le1 rfl, le1 rfl, trivial⟩ (L8 hH) (by repeat (first | exact C6 | refine tail_drop rfl ?_ | refine C5 rfl ?_ | refine J0 _ ?_)) (ObIn.spec (ob' := mvO l a b) ⟨rfl, rfl, trivial⟩)) ?_
  refine W6 ([(0, .s (.one (.ref 700 0))), (1, C2 k), (5, D3 Int 1 K5 t), (6, C2 f), (7, C2 n), (9, C2 z)] ++ Fr.forget 708 gf) (mvO l a b) ?_ ?_
  ·refine k2 ?_
   refine A4 (A2 (A3 Z Z) Z (A2 (C0 Z Z (by omega)) Z (A2 (A3 Z Z) Z (A2 (B4 Z) Z (A2 (A7 Z) Z (A2 (A9 Z Z Z) Z (A2 (n_len_g Z Z) Z (A2 (E3 Z Z) Z (A6 ?_)))))))))
   refine k1 ?_
   refine B2 rfl (fun ht => ?_) (fun ht => ?_)
   ·have h1 : k + 1 < l.length := by have := A0 ht; omega
    have hn1 := hnx h1
    rw [if_pos h1] at hz
    skip
    refine n4 [11] [[], [11]] [(11, ([], []))] [(0, []), (1, []), (2, []), (3, []), (4, []), (5, []), (6, []), (7, []), (8, []), (9, []), (10, []), (11, []), (12, [11]), (13, [11]), (14, [11])] [(0, [11]), (1, [11]), (2, [11]), (3, [11]), (4, [11]), (5, [11]), (6, [11]), (7, [11]), (8, [11])] (by kernel_rfl) (by kernel_rfl) (J8 Z Z Z Z Z (A3 Z Z) (J8 Z Z Z Z Z (B4 Z) (J8 Z Z Z Z Z (A7 Z) (J8 Z Z Z Z Z (A9 Z Z Z) (J8 Z Z Z Z Z (A3 Z Z) (J8 Z Z Z Z Z (C0 Z Z (by omega)) (J8 Z Z Z Z Z (K9 Z Z Z (by omega) (by omega)) (J8 Z Z Z Z Z (H4 Z) (J8 Z Z Z Z Z (n_load_g Z Z (hnx' h1) Z) (J8 Z Z Z Z Z (A3 Z Z) (J8 Z Z Z Z Z (A3 Z Z) (w_eff Z Z Z Z Z (r_met (fun gf => end_met l a b k c hv c1 c2) Z Z) Z (J8 Z Z Z Z Z (I1 Z Z (by omega)) (J8 Z Z Z Z Z (I1 Z Z (by omega)) (J8 Z Z Z Z Z (A5 Z Z) ?_))))))))))))))); refine w_nil rfl rfl ?_ ?_
    ·refine R9 Z Z Z Z Z (A3 Z Z) (R9 Z Z Z Z Z (B4 Z) (R9 Z Z Z Z Z (A7 Z) (R9 Z Z Z Z Z (A9 Z Z Z) (R9 Z Z Z Z Z (A3 Z Z) (R9 Z Z Z Z Z (C0 Z Z (by omega)) (R9 Z Z Z Z Z (K9 Z Z Z (by omega) (by omega)) (R9 Z Z Z Z Z (H4 Z) (R9 Z Z Z Z Z (n_load_g Z Z (hnx' h1) Z) ?_)))))))); exact x_nil
    refine k1 ?_
    rw [hz]
    exact (Sees.tailed ⟨le1 rfl, le1 rfl, le1 rfl, le1 rfl, le1 rfl, le1 rfl, trivial⟩ (L8 hH) (by repeat (first | exact C6 | refine tail_drop rfl ?_ | refine C5 rfl ?_ | refine J0 _ ?_)) (ObIn.spec (ob' := mvO l a b) ⟨rfl, rfl, trivial⟩))
   ·have h1 : ¬ k + 1 < l.length := by have := A1 ht; omega
    rw [if_neg h1] at hz
    refine k5 (k1 ?_)
    rw [hz]
    exact (Sees.tailed ⟨le1 rfl, le1 rfl, le1 rfl, le1 rfl, le1 rfl, le1 rfl, trivial⟩ (L8 hH) (by repeat (first | exact C6 | refine tail_drop rfl ?_ | refine C5 rfl ?_ | refine J0 _ ?_)) (ObIn.spec (ob' := mvO l a b) ⟨rfl, rfl, trivial⟩))
  ·refine k2 (k2 ?_)
   refine C7 (by kernel_rfl) (by kernel_rfl) (A8 (A3 Z Z) Z Z (A8 (E3 Z Z) Z Z (A8 (A3 Z Z) Z Z (B8 Z Z (fun hg => by rw [hg]; exact A3 Z Z) Z Z ?_)))); refine B8 Z Z (fun hg => by rw [hg]; exact A3 Z Z) Z Z ?_; refine B8 Z Z (fun hg => by have hq := hg; (try simp at hq); rw [hg]; exact B5 Z (.pure _ _ _ _) Z (by omega) (hat f f0 (by have := fn (by omega); omega))) Z Z ?_; refine B8 Z Z (fun hg => by rw [hg]; exact B9 Z Z) Z Z ?_; refine B8 Z Z (fun hg => by rw [hg]; exact A3 Z Z) Z Z ?_; refine B8 Z Z (fun hg => by rw [hg]; exact A3 Z Z) Z Z ?_; refine B8 Z Z (fun hg => by rw [hg]; exact A3 Z Z) Z Z ?_; refine B8 Z Z (fun hg => by have hq := hg; (try simp at hq); rw [hg]; exact C0 Z Z (by omega)) Z Z ?_; refine B8 Z Z (fun hg => by have hq := hg; (try simp at hq); rw [hg]; exact B5 Z (.pure _ _ _ _) Z (by omega) (hat (f + n) (by omega) (by have := fn (by omega); omega))) Z Z ?_; refine B8 Z Z (fun hg => by rw [hg]; exact B9 Z Z) Z Z ?_; refine B8 Z Z (fun hg => by rw [hg]; exact K7 Z Z) Z Z ?_; refine A8 (B1 Z (fun h => by first | rfl | (rw [h]; rfl)) (fun h => by first | rfl | (rw [h]; rfl))) Z Z ?_; refine H2 ?_
   refine k1 ?_
   refine B2 rfl (fun ht => ?_) (fun ht => ?_)
   ·have h1 : ¬ (1 ≤ z ∧ atI t f = atI t (f + n)) := by
     rintro ⟨q1, q2⟩
     simp [q2] at ht
     omega
    rw [hcd, decide_eq_false h1]
    refine k2 ?_
    refine A4 (A2 (A5 Z Z) Z (A6 ?_))
    refine k1 (k10 (k11 ?_))
    exact G1 (R4 rfl rfl) (by repeat (first | exact C6 | refine C5 rfl ?_ | refine D2 _ ?_)) (ObIn.spec (ob' := mvO l a b) ⟨rfl, rfl, trivial⟩) ⟨rfl, rfl⟩
   ·have h1 : 1 ≤ z := Classical.byContradiction fun q => by simp [show z < 1 by omega] at ht
    have h2 : atI t f = atI t (f + n) := Classical.byContradiction fun q => by simp [q] at ht
    rw [hcd, decide_eq_true (show 1 ≤ z ∧ atI t f = atI t (f + n) from ⟨h1, h2⟩)]
    rw [if_pos rfl]
    obtain ⟨c', hc'⟩ : ∃ c' : Change, c' = { c with Old := c.Old + 1 } := ⟨_, rfl⟩
    have hv' : (l.set k c')[k]? = some c' := List.getElem?_set_self hk
    have hfin : (l.set k c').set k ({ c' with New := c'.New + 1 } : Change) = R0 l k := by
     rw [List.set_set]; unfold R0; rw [← hc, hc']; rfl
    have hl' : (l.set k c').length = l.length := by simp
    refine k5 (k1 (k2 ?_))
    refine A4 (A2 (A3 Z Z) Z (A2 (B4 Z) Z (A2 (A7 Z) Z (A2 (A9 Z Z Z) Z (A2 (A3 Z Z) Z (A2 (K9 Z Z Z (by omega) (by omega)) Z (A2 (H4 Z) Z (A2 (n_load_g Z Z hv Z) Z (A2 (C0 Z Z (by omega)) Z (A2 (K9 Z Z Z (by omega) (by omega)) Z (A2 (H4 Z) Z (E9 (y6 (({ c with Old := c.Old + 1 } : Change)) TySz.out Z Z hv Z Z Z Z (fun _ _ _ h => all2_unp h) (by intro j h1 h2; rcases j with _ | _ | _ | _ | _ | _ | _ | j <;> first | rfl | omega)) ?_)))))))))))); refine A6 ?_
    rw [Int.toNat_natCast, ← hc']
    refine k1 (k2 ?_)
    refine A4 (A2 (A3 Z Z) Z (A2 (B4 Z) Z (A2 (A7 Z) Z (A2 (A9 Z Z Z) Z (A2 (A3 Z Z) Z (A2 (K9 Z Z Z (by omega) (by (rw [hl']; omega))) Z ?_)))))); refine A2 (H4 Z) Z (A2 (n_load_g Z Z hv' Z) Z (A2 (C0 Z Z (by (rw [hc']; dsimp only; omega))) Z ?_)); refine A2 (K9 Z Z Z (by omega) (by (rw [hl']; omega))) Z ?_; refine A2 (H4 Z) Z (E9 (y6 (({ c' with New := c'.New + 1 } : Change)) TySz.out Z Z hv' Z Z Z Z (fun _ _ _ h => all2_unp h) (by intro j h1 h2; rcases j with _ | _ | _ | _ | _ | _ | _ | j <;> first | rfl | omega)) ?_); refine A6 ?_
    rw [Int.toNat_natCast, hfin]
    refine k1 (k2 ?_)
    refine A4 (A2 (A5 Z Z) Z (A6 ?_))
    refine k1 (k10 ?_)
    exact G1 (R4 rfl rfl) (by repeat (first | exact C6 | refine C5 rfl ?_ | refine D2 _ ?_)) (ObIn.spec (ob' := mvO (R0 l k) a b) ⟨rfl, rfl, trivial⟩) ⟨rfl, rfl⟩
 ·have hrm := fun gf => region_met (gf := gf) l a b k c hv
  rw [hr] at hrm
  rw [hcd]
  refine AL.Met.intro Tryz.func137 (by decide) Z Z Z ?_
  refine k2 ?_
  refine A4 (A2 (A5 Z Z) Z (A6 ?_))
  refine k1 (k2 ?_)
  refine A4 (A2 (A3 Z Z) Z (A2 (A3 Z Z) Z (R5 (hrm _) Z Z Z ?_))); rintro _ _ ⟨rfl, rfl⟩; refine A2 (A3 Z Z) Z (A2 (B3 Z Z) Z (A2 (B3 Z Z) Z (A2 (B3 Z Z) Z (A2 (B3 Z Z) Z (A2 (A5 Z Z) Z (A2 (A5 Z Z) Z (A2 (A5 Z Z) Z (A2 (A5 Z Z) Z (A6 ?_)))))))))
  refine k1 (k2 (k2 ?_))
  refine A4 (A2 (A3 Z Z) Z (A2 (F4 Z) Z (A6 ?_)))
  refine k1 ?_
  refine B2 rfl (fun ht => ?_) (fun ht => ?_)
  ·refine k2 ?_
   refine A4 (A2 (A5 Z Z) Z (A6 ?_))
   refine k1 (k10 (k11 ?_))
   exact G1 (R4 rfl rfl) (by repeat (first | exact C6 | refine C5 rfl ?_ | refine D2 _ ?_)) (ObIn.spec (ob' := mvO l a b) ⟨rfl, rfl, trivial⟩) ⟨rfl, rfl⟩
  ·cases ht
theorem often_met {gf : Fr} {x y : List Str} {a b : List Int} (ia : IdsOf x a) (ib : IdsOf y b) (l : List Change) (k : Nat) (hk : k < l.length) (hl : l.length ≤ 32768) (h : ScFit x y l) :
  AL.Met Tryz.prog 136 [.one (.clo 137 [(700, 0)] []), tI k] gf (mvO l a b) [708] (fun rs ob' => (∃ n : Int, rs = [tI n]) ∧ ob' = mvO (T7 a b l k) a b) := by
 have hla := ia.len
 have hlb := ib.len
 have hxl := h.lx
 have hyl := h.ly
 refine AL.Met.introH Tryz.func136 (by decide) rfl rfl rfl (fun hH => ?_)
 refine k2 ?_
 refine A4 (A2 (A5 Z Z) Z (A6 ?_))
 refine k1 (k2 ?_)
 refine A4 (A2 (A5 Z Z) Z (A6 ?_))
 refine k1 (k2 (k3 ?_))
 refine F8 (Sees.tailL 708 (l := [(0, .s (.one (.clo 137 [(700, 0)] []))), (1, C2 k), (5, C2 0)]) (L := mvO l a b) ⟨le1 rfl, le1 rfl, le1 rfl, trivial⟩ hH (by repeat (first | exact C6 | refine C5 rfl ?_)) ⟨rfl, rfl, trivial⟩) ?_
 refine E2 (X := Nat × List Change) (fun s => ([(0, .s (.one (.clo 137 [(700, 0)] []))), (1, C2 k), (5, C2 s.1)] ++ Fr.forget 708 gf, mvO s.2 a b)) (fun s => s.2.length = l.length ∧ ScFit x y s.2 ∧ T7 a b s.2 k = T7 a b l k ∧ s.1 + measK s.2 a b k ≤ measK l a b k) (fun s => measK s.2 a b k) (0, l) ⟨rfl, h, rfl, by dsimp only; omega⟩ (Sees.tailed ⟨le1 rfl, le1 rfl, le1 rfl, trivial⟩ (L8 hH) (by repeat (first | exact C6 | refine C5 rfl ?_)) (ObIn.spec (ob' := mvO l a b) ⟨rfl, rfl, trivial⟩)) ?_
 rintro ⟨n, l2⟩ ⟨hl2, hf2, hs2, hn⟩
 dsimp only at hl2 hf2 hs2 hn ⊢
 have hsc := hf2.sc
 rw [← hla, ← hlb] at hsc
 have hml : measK l a b k ≤ 16384 := by
  have := (l4 _ _ _ _ _ _ h.sc).get k hk
  unfold measK
  obtain ⟨⟨q1, _⟩, _, ⟨q2, _⟩, _⟩ := this
  omega
 refine k2 (k2 ?_)
 refine A4 (A2 (A3 Z Z) Z (A2 (A3 Z Z) Z (w8 (sdown_met l2 a b k (by omega) (by omega) (by omega) (by omega) hsc) Z Z Z Z ?_))); rintro _ _ ⟨rfl, rfl⟩; refine A6 ?_
 refine k1 ?_
 refine B2 rfl (fun ht => ?_) (fun ht => ?_)
 ·have hm := meas_down ia ib hf2 (by omega) ht
  have hst := slideOne_down ia ib hf2 (by omega) ht
  rw [if_pos ht]
  refine k5 (k1 (k3 ?_))
  refine A4 (A2 (A3 Z Z) Z (A2 (C0 Z Z (by omega)) Z (A2 (A5 Z Z) Z (A6 ?_))))
  refine k4 (k1 ?_)
  refine ⟨(n + 1, R0 l2 k), ⟨by dsimp only; rw [N9]; exact hl2, hf2.down ia ib (by omega) ht, by dsimp only; rw [← hst]; exact hs2, by dsimp only; omega⟩, hm, ?_⟩
  exact Sees.tailed ⟨le1 rfl, le1 rfl, le1 rfl, trivial⟩ (L8 hH) (by repeat (first | exact C6 | refine tail_drop rfl ?_ | refine C5 rfl ?_ | refine J0 _ ?_)) (ObIn.spec (ob' := mvO (R0 l2 k) a b) ⟨rfl, rfl, trivial⟩)
 ·have hst := slideOne_stop (a := a) (b := b) ht
  rw [hst] at hs2
  have hif : (if S4 l2 a b k = true then R0 l2 k else l2) = T7 a b l k := by rw [← hs2, if_neg (by rw [ht]; decide)]
  rw [hif]
  refine k6 (k2 ?_)
  refine A4 (A2 (A3 Z Z) Z (A2 (A5 Z Z) Z (A6 ?_)))
  refine k1 (k10 ?_)
  exact G1 (R4 rfl rfl) (by repeat (first | exact C6 | refine C5 rfl ?_ | refine J0 _ ?_)) (ObIn.spec (ob' := mvO (T7 a b l k) a b) ⟨rfl, rfl, trivial⟩) ⟨⟨_, rfl⟩, rfl⟩
theorem clone_met {gf : Fr} (l : List Change) (hl : l.length ≤ 1073741824) :
  AL.Met Tryz.prog 205 [.one (.p (.list Change 4 changeC l))] gf [] [701] (fun rs ob' => rs = [.one (.mut 701)] ∧ ob' = [(701, .grow 164 Change 4 changeC l)]) := by
 refine AL.Met.intro Tryz.func205 (by decide) Z Z Z ?_
 refine k2 ?_
 refine A4 (A2 (A5 Z Z) Z (A6 ?_))
 refine k1 (k2 (k2 ?_))
 refine A4 (A2 (A3 Z Z) Z ?_); (first | (refine l_neuP (n_eql_nil rfl (.pure _ _ _ _)) rfl ?_) | (refine l_neuP (n_eql_nil rfl (.buf _ _ _ _ _)) rfl ?_)); rintro _ ⟨b1, rfl, hnil⟩; refine A6 ?_
 refine k1 ?_
 refine B2 rfl (fun ht => ?_) (fun ht => ?_)
 ·rw [hnil ht]
  refine k2 ?_
  refine A4 (C9 (e_adoptG 701 _ changeC Z Z) Z (A6 ?_))
  refine k1 (k10 (k11 ?_))
  exact G1 (R4 rfl rfl) (by repeat (first | exact C6 | refine C5 rfl ?_ | refine D2 _ ?_)) (fun _ _ h => h) ⟨rfl, rfl⟩
 ·refine k5 (k1 (k2 ?_))
  refine A4 (C9 (e_buildG 701 _ changeC Z Z Z) Z (A2 (A3 Z Z) Z (C9 (y9 Z Z Z (.pure _ _ _ _) (by (simp; omega)) Z) Z (A2 (A5 Z Z) Z (A6 ?_)))))
  simp only [List.nil_append]
  refine k1 (k10 ?_)
  exact G1 (R4 rfl rfl) (by (repeat refine C5 rfl ?_); refine J0 _ ?_; (repeat refine C5 rfl ?_); refine D2 _ ?_; (repeat (first | exact C6 | refine C5 rfl ?_))) (ObIn.spec (ob' := [(701, .grow 164 Change 4 changeC l)]) ⟨rfl, trivial⟩) ⟨rfl, rfl⟩
theorem start_met {gf : Fr} (l : List Change) (a b : List Int) (hl : l.length ≤ 32768) (hc : Q4 l a.length b.length = 0) (hp : ∀ p ∈ W3 l a.length, PairAt a b p) :
  AL.Met Tryz.prog 135 [.one (.p (.list Change 4 changeC l)), tIs a, tIs b] gf [] [701, 700] (fun rs ob' => rs = [.one (.ref 700 0), tI 0] ∧ ob' = mvO l a b) := by
 refine AL.Met.intro Tryz.func135 (by decide) Z Z Z ?_
 refine k2 ?_
 refine A4 (A2 (A5 Z Z) Z (A2 (A5 Z Z) Z (A6 ?_)))
 refine k1 (k2 (k2 ?_))
 refine A4 (A2 (A3 Z Z) Z (A2 (A3 Z Z) Z (A2 (A3 Z Z) Z (C3 (sFits_ok l a b hl hc hp) Z Z Z ?_)))); rintro _ rfl; refine A2 (F4 Z) Z (A6 ?_)
 refine k1 ?_
 refine B2 rfl (fun ht => ?_) (fun ht => ?_)
 ·cases ht
 refine k5 (k1 (k2 ?_))
 refine A4 (A2 (A3 Z Z) Z (R5 (clone_met l (by omega)) Z Z Z ?_)); rintro _ _ ⟨rfl, rfl⟩; refine A2 (A3 Z Z) Z (A2 (A3 Z Z) Z (A2 (F6 Z) Z (C9 (e_box 700 Z Z Z (by decide)) Z (A2 (A5 Z Z) Z (A2 (A5 Z Z) Z (A6 ?_))))))
 refine k1 (k10 ?_)
 exact G1 (rets2 rfl rfl rfl) (by repeat (first | exact C6 | refine C5 rfl ?_ | refine D2 _ ?_)) (ObIn.spec (ob' := mvO l a b) ⟨rfl, rfl, trivial⟩) ⟨rfl, rfl⟩
theorem sDown_ok (x y names : List Str) (l : List Change) (h : ScFit x y l) (hl : l.length ≤ 32768) (hx : ∀ s ∈ x, s ∈ names) (hy : ∀ s ∈ y, s ∈ names) :
  FnOk Tryz.prog 70 [pChanges l, W8 (F2 names x), W8 (F2 names y)] (fun rs => rs = [pChanges (downOf l (F2 names x) (F2 names y)), F0 0]) := by
 obtain ⟨a, ha⟩ : ∃ a, a = F2 names x := ⟨_, rfl⟩
 obtain ⟨b, hb⟩ : ∃ b, b = F2 names y := ⟨_, rfl⟩
 have hpp := fit_pairs (names := names) h
 have ia : IdsOf x a := by rw [ha]; exact idsOf_ids hx
 have ib : IdsOf y b := by rw [hb]; exact idsOf_ids hy
 rw [← ha, ← hb] at hpp ⊢
 have hla := ia.len
 have hlb := ib.len
 have hck := h.check
 rw [← hla, ← hlb] at hck
 refine FnOk.intro Tryz.func70 (by decide) Z Z Z Z ?_
 refine k2 ?_
 refine A4 (A2 (A5 Z Z) Z (A2 (A5 Z Z) Z (A6 ?_)))
 refine k1 (k2 ?_)
 refine A4 (A2 (A3 Z Z) Z (A2 (A3 Z Z) Z (A2 (A3 Z Z) Z (R5 (start_met l a b hl hck hpp) Z Z Z ?_)))); rintro _ _ ⟨rfl, rfl⟩; refine A2 (A3 Z Z) Z (A2 (B3 Z Z) Z (A2 (B3 Z Z) Z (A2 (A5 Z Z) Z (A2 (A5 Z Z) Z (A6 ?_)))))
 refine k1 (k2 (k2 ?_))
 refine A4 (A2 (A3 Z Z) Z (A2 (K7 Z Z) Z (A6 ?_)))
 refine k1 ?_
 refine B2 rfl (fun ht => ?_) (fun ht => ?_)
 ·cases ht
 refine k5 (k1 (k2 (k2 ?_)))
 refine A4 (A2 (A3 Z Z) Z (A2 (E1 Z (.pure _ _ _ _)) Z (A2 (I1 Z Z (by omega)) Z (A2 (A5 Z Z) Z (A6 ?_)))))
 refine k1 (k3 ?_)
 refine E2 (X := Nat × List Change) (fun s => ([(8, .s (.one (.ref 700 0))), (10, C2 ((s.1 : Int) - 1))], mvO s.2 a b)) (fun s => s.1 ≤ l.length ∧ s.2.length = l.length ∧ ScFit x y s.2 ∧ slideAll a b s.1 s.2 = downOf l a b) (fun s => s.1) (l.length, l) ⟨Nat.le_refl _, rfl, h, rfl⟩ (Sees.of ⟨le1 rfl, le1 rfl, trivial⟩ ⟨rfl, rfl, trivial⟩) ?_
 rintro ⟨n, l1⟩ ⟨hn, hl1, hf1, hs1⟩
 dsimp only at hn hl1 hf1 hs1 ⊢
 refine k2 (k2 ?_)
 refine A4 (A2 (A3 Z Z) Z (A2 (l8 Z Z) Z (A6 ?_)))
 refine k1 ?_
 refine B2 rfl (fun ht => ?_) (fun ht => ?_)
 ·have hn0 : 0 < n := by have := A0 ht; omega
  obtain ⟨k, rfl⟩ : ∃ k, n = k + 1 := ⟨n - 1, by omega⟩
  rw [show ((k + 1 : Nat) : Int) - 1 = k by omega]
  have hfit := slideOne_fit ia ib hf1 (k := k) (by omega)
  have hlen := lens_len hfit.2
  refine k5 (k1 (k2 (k3 ?_)))
  refine A4 (A2 (A3 Z Z) Z (A2 (n_makeFunc Z Z) Z (A2 (A3 Z Z) Z (R5 (often_met ia ib l1 k (by omega) (by omega) hf1) Z Z Z ?_)))); rintro _ _ ⟨⟨cnt, rfl⟩, rfl⟩; refine A6 ?_
  refine k4 (k1 ?_)
  refine A4 (A2 (A3 Z Z) Z (A2 (I1 Z Z (by omega)) Z (A2 (A5 Z Z) Z (A6 ?_))))
  refine k1 ?_
  exact ⟨(k, T7 a b l1 k), ⟨by dsimp only; omega, by dsimp only; omega, hfit.1, hs1⟩, by dsimp only; omega, Sees.of ⟨le1 rfl, le1 rfl, trivial⟩ ⟨rfl, rfl, trivial⟩⟩
 ·have hn0 : n = 0 := by have := A1 ht; omega
  subst hn0
  have hs1 : l1 = downOf l a b := hs1
  refine k6 (k2 ?_)
  refine A4 (A2 (A3 Z Z) Z (A2 (B4 Z) Z (A2 (A7 Z) Z (A2 (A9 Z Z Z) Z (A2 (A5 Z Z) Z (A2 (A5 Z Z) Z (A6 ?_)))))))
  refine k1 ?_
  refine F8 (Sees.growBuf (t := 6) Z Z Z) ?_
  refine k10 ?_
  exact B6 (U5 rfl rfl rfl rfl rfl) (by rw [hs1])
set_option maxHeartbeats 1000000
theorem umake_ok (on nn a b : Str) (ctx : Int) (d : Bool) (ha : a.length ≤ 4096) (hb : b.length ≤ 4096) :
  FnOk Tryz.prog 24 [G6 on, G6 nn, G6 a, G6 b, F0 ctx, F9 d] (fun rs => rs = [pPatch (made12 on nn a b ctx d).1, F0 (made12 on nn a b ctx d).2]) := by
 obtain ⟨x, hx⟩ : ∃ x, x = D8 a := ⟨_, rfl⟩
 obtain ⟨y, hy⟩ : ∃ y, y = D8 b := ⟨_, rfl⟩
 obtain ⟨f1, f2⟩ := Y4 a
 obtain ⟨f3, f4⟩ := Y4 b
 rw [← hx] at f1 f2
 rw [← hy] at f3 f4
 have hsa := splitOf_small ha
 have hsb := splitOf_small hb
 rw [← hx] at hsa
 rw [← hy] at hsb
 have hxm : ∀ s ∈ x, s ∈ D1 [x, y] := fun s hs => j7 _ _ x (by simp) hs
 have hym : ∀ s ∈ y, s ∈ D1 [x, y] := fun s hs => j7 _ _ y (by simp) hs
 have i1 : (F2 (D1 [x, y]) x).length = x.length := by simp [F2]
 have i2 : (F2 (D1 [x, y]) y).length = y.length := by simp [F2]
 have hs0 := script_fit x y (by omega) (by omega)
 have hs0l := y3 x y
 have hdf := (scriptD_fit x y d (by omega) (by omega)).1
 have hdl := scriptD_len x y d (by omega) (by omega)
 obtain ⟨l, hl⟩ : ∃ l, l = scriptD x y d := ⟨_, rfl⟩
 rw [← hl] at hdf hdl
 have hmk : made12 on nn a b ctx d = if L2 on = false ∨ L2 nn = false then (K3, 120) else if ctx < 0 ∨ 1048576 < ctx then (K3, 3) else (⟨on, nn, P8 l x y ctx⟩, 0) := by rw [hl, hx, hy]; rfl
 refine FnOk.intro Tryz.func24 (by decide) Z Z Z Z ?_
 refine k2 ?_
 refine A4 (C9 (G3 12 Z) Z (A2 (A5 Z Z) Z (A6 ?_)))
 refine k1 (k2 (k2 ?_))
 refine A4 (A2 (A3 Z Z) Z (C3 (unamed_ok on) Z Z Z ?_)); rintro _ rfl; refine A2 (F4 Z) Z (A2 (A3 Z Z) Z (B0 Z Z Z Z (fun hg => by rw [hg]; exact A3 Z Z) ?_)); refine B0 Z Z Z Z (fun hg => by have hq := hg; (try simp at hq); rw [hg]; exact G9 (unamed_ok nn) Z Z) ?_; refine B0 Z Z Z Z (fun hg => by rw [hg]; exact F4 Z) ?_; refine A2 (B1 Z (fun h => by first | rfl | (rw [h]; rfl)) (fun h => by first | rfl | (rw [h]; rfl))) Z ?_; refine A6 ?_
 refine k1 ?_
 refine B2 rfl (fun ht => ?_) (fun ht => ?_)
 ·simp only [notB, or_pick] at ht
  have h := A0 ht
  refine k2 ?_
  refine A4 (A2 (F6 Z) Z (E9 (B7 TySz.out Z Z Z Z Z Z) (A2 (A5 Z Z) Z (A6 ?_))))
  refine k1 ?_
  refine F8 (Sees.listB PatchHunk 3 phunkC 12 2 Z Z) ?_
  refine k10 (k11 ?_)
  exact B6 (rs := [pPatch K3, F0 120]) (Z5 rfl rfl rfl rfl rfl rfl rfl) (by rw [hmk, if_pos h])
 simp only [notB, or_pick] at ht
 have h := A1 ht
 rw [if_neg h] at hmk
 have hn1 : L2 on = true := by cases q : L2 on <;> simp [q] at h ⊢
 have hn2 : L2 nn = true := by cases q : L2 nn <;> simp [q] at h ⊢
 refine k5 (k1 (k2 ?_))
 refine A4 (A2 (A3 Z Z) Z (C3 (tsplit_ok a (by omega)) Z Z Z ?_)); rintro _ rfl; refine A2 (A3 Z Z) Z (A2 (B3 Z Z) Z (A2 (B3 Z Z) Z (A2 (A5 Z Z) Z (A2 (A5 Z Z) Z (A6 ?_)))))
 rw [hsa]
 refine k1 (k2 (k2 ?_))
 refine A4 (A2 (A3 Z Z) Z (A2 (K7 Z Z) Z (A6 ?_)))
 refine k1 ?_
 refine B2 rfl (fun ht => ?_) (fun ht => ?_)
 ·cases ht
 refine k5 (k1 (k2 ?_))
 refine A4 (A2 (A3 Z Z) Z (C3 (tsplit_ok b (by omega)) Z Z Z ?_)); rintro _ rfl; refine A2 (A3 Z Z) Z (A2 (B3 Z Z) Z (A2 (B3 Z Z) Z (A2 (A5 Z Z) Z (A2 (A5 Z Z) Z (A6 ?_)))))
 rw [hsb]
 refine k1 (k2 (k2 ?_))
 refine A4 (A2 (A3 Z Z) Z (A2 (K7 Z Z) Z (A6 ?_)))
 refine k1 ?_
 refine B2 rfl (fun ht => ?_) (fun ht => ?_)
 ·cases ht
 refine k5 (k1 (k2 ?_))
 refine A4 (A2 (A3 Z Z) Z (A2 (A3 Z Z) Z (A2 (E0 (c := strsC) (ys := [x, y]) (E6 Z Z Z Z (E6 Z Z Z Z I6)) Z Z Z) Z (C3 (internIds_ok [x, y] (by simp) (by simp; omega)) Z Z Z ?_)))); rintro _ rfl; refine A2 (A5 Z Z) Z (A6 ?_)
 refine k1 (k2 ?_)
 refine C7 (by kernel_rfl) (by kernel_rfl) (A8 (A3 Z Z) Z Z (A8 (B5 Z (.pure _ _ _ _) Z (by omega) (show ([x, y].map (F2 (D1 [x, y])))[(0 : Int).toNat]? = some (F2 (D1 [x, y]) x) from Z)) Z Z (A8 (B9 Z Z) Z Z (A8 (A3 Z Z) Z Z (A8 (B5 Z (.pure _ _ _ _) Z (by omega) (show ([x, y].map (F2 (D1 [x, y])))[(1 : Int).toNat]? = some (F2 (D1 [x, y]) y) from Z)) Z Z (A8 (B9 Z Z) Z Z (A8 (G9 (sScript_ok (F2 (D1 [x, y]) x) (F2 (D1 [x, y]) y) (by omega) (by omega)) Z Z) Z Z (A8 (A3 Z Z) Z Z (A8 (B3 Z Z) Z Z (A8 (B3 Z Z) Z Z (A8 (A5 Z Z) Z Z (A8 (A5 Z Z) Z Z (H2 ?_)))))))))))))
 rw [show walkOf (F2 (D1 [x, y]) x) (F2 (D1 [x, y]) y) = L4 x y from rfl]
 refine H9 ?_
 refine T5 [(0, O7 on), (1, O7 nn), (4, C2 ctx), (5, J9 (.bool d)), (12, .s (.one (.ref 12 0))), (14, D3 Str 1 I2 x), (16, D3 Str 1 I2 y), (17, D3 (List Int) 1 intsC ([x, y].map (F2 (D1 [x, y])))), (18, D3 Change 4 changeC (L4 x y))] [(12, .box [.p (.v (.string ⟨#[]⟩)), .p (.v (.string ⟨#[]⟩)), .p (.v (.slice none 0 0))])] (Sees.of ⟨le1 rfl, le1 rfl, le1 rfl, le1 rfl, le1 rfl, le1 rfl, le1 rfl, le1 rfl, le1 rfl, trivial⟩ ⟨rfl, trivial⟩) ?_
 refine W6 [(0, O7 on), (1, O7 nn), (4, C2 ctx), (12, .s (.one (.ref 12 0))), (14, D3 Str 1 I2 x), (16, D3 Str 1 I2 y), (18, D3 Change 4 changeC l)] [(12, .box [.p (.v (.string ⟨#[]⟩)), .p (.v (.string ⟨#[]⟩)), .p (.v (.slice none 0 0))])] ?_ ?_
 ·refine k2 ?_
  refine A4 (A2 (A3 Z Z) Z (A6 ?_))
  refine k1 ?_
  refine B2 rfl (fun ht => ?_) (fun ht => ?_)
  ·have hd : d = true := ht
   have hl2 : l = downOf (L4 x y) (F2 (D1 [x, y]) x) (F2 (D1 [x, y]) y) := by rw [hl, hd]; rfl
   skip
   refine C7 (by kernel_rfl) (by kernel_rfl) (A8 (A3 Z Z) Z Z (A8 (A3 Z Z) Z Z (A8 (B5 Z (.pure _ _ _ _) Z (by omega) (show ([x, y].map (F2 (D1 [x, y])))[(0 : Int).toNat]? = some (F2 (D1 [x, y]) x) from Z)) Z Z (A8 (B9 Z Z) Z Z (A8 (A3 Z Z) Z Z (A8 (B5 Z (.pure _ _ _ _) Z (by omega) (show ([x, y].map (F2 (D1 [x, y])))[(1 : Int).toNat]? = some (F2 (D1 [x, y]) y) from Z)) Z Z (A8 (B9 Z Z) Z Z (A8 (G9 (sDown_ok x y (D1 [x, y]) (L4 x y) hs0 (by omega) hxm hym) Z Z) Z Z (A8 (A3 Z Z) Z Z (A8 (B3 Z Z) Z Z (A8 (B3 Z Z) Z Z (A8 (A5 Z Z) Z Z (H2 ?_)))))))))))))
   rw [← hl2]
   refine k1 ?_
   exact Sees.of ⟨le1 rfl, le1 rfl, le1 rfl, le1 rfl, le1 rfl, le1 rfl, le1 rfl, trivial⟩ ⟨rfl, trivial⟩
  ·have hd : d = false := ht
   have hl2 : l = L4 x y := by rw [hl, hd]; rfl
   rw [← hl2]
   refine k5 (k1 ?_)
   exact Sees.of ⟨le1 rfl, le1 rfl, le1 rfl, le1 rfl, le1 rfl, le1 rfl, le1 rfl, trivial⟩ ⟨rfl, trivial⟩
 refine k2 ?_
 refine A4 (A2 (A3 Z Z) Z (A2 (A3 Z Z) Z (A2 (E1 Z (.pure _ _ _ _)) Z (A2 (A3 Z Z) Z (A2 (E1 Z (.pure _ _ _ _)) Z (A2 (A3 Z Z) Z (C3 (hGroup_ok l x.length y.length ctx (by omega)) Z Z Z ?_))))))); rintro _ rfl; refine A2 (A3 Z Z) Z (A2 (B3 Z Z) Z (A2 (B3 Z Z) Z (A2 (A5 Z Z) Z (A2 (A5 Z Z) Z (A6 ?_)))))
 refine k1 (k2 (k2 ?_))
 by_cases hcx : ctx < 0 ∨ 1048576 < ctx
 ·rw [group_err hcx]
  refine A4 (A2 (A3 Z Z) Z (A2 (K7 Z Z) Z (A6 ?_)))
  refine k1 ?_
  refine B2 rfl (fun ht => ?_) (fun ht => ?_)
  ·refine k2 ?_
   refine A4 (A2 (F6 Z) Z (A2 (A3 Z Z) Z (E9 (B7 TySz.out Z Z Z Z Z Z) (A2 (A5 Z Z) Z (A6 ?_)))))
   refine k1 ?_
   refine F8 (Sees.listB PatchHunk 3 phunkC 12 2 Z Z) ?_
   refine k10 (k11 ?_)
   exact B6 (rs := [pPatch K3, F0 3]) (Z5 rfl rfl rfl rfl rfl rfl rfl) (by rw [hmk, if_pos hcx])
  ·cases ht
 rw [group_fit hdf hcx]
 rw [if_neg hcx] at hmk
 have hmd := made12_is on nn a b l ctx hn1 hn2 hcx ha hb (by rw [← hx, ← hy]; exact hdf)
 have hgo := groupTo_ok hdf.ok (by omega) (ctx := ctx) l.length (Nat.le_refl _)
 have hgl := (V2 l x.length ctx l.length).1
 have hho : P8 l x y ctx = (H0 l x.length ctx l.length).map (H5 l x y) := rfl
 obtain ⟨g, hg⟩ : ∃ g, g = H0 l x.length ctx l.length := ⟨_, rfl⟩
 rw [← hg] at hgo hgl hho ⊢
 refine A4 (A2 (A3 Z Z) Z (A2 (K7 Z Z) Z (A6 ?_)))
 refine k1 ?_
 refine B2 rfl (fun ht => ?_) (fun ht => ?_)
 ·cases ht
 refine k5 (k1 (k2 ?_))
 refine A4 (A2 (A3 Z Z) Z (A2 (A3 Z Z) Z (A2 (F6 Z) Z (C9 (G3 21 Z) Z (E9 (B7 TySz.out Z Z Z Z Z Z) (A6 ?_))))))
 refine T5 [(12, .s (.one (.ref 12 0))), (14, D3 Str 1 I2 x), (16, D3 Str 1 I2 y), (18, D3 Change 4 changeC l), (20, D3 Hunk 6 hunkC g), (21, .s (.one (.ref 21 0)))] [(12, .box [.p (.v (.string ⟨#[]⟩)), .p (.v (.string ⟨#[]⟩)), .p (.v (.slice none 0 0))]), (21, .box [.p (.v (.string ⟨on.toArray⟩)), .p (.v (.string ⟨nn.toArray⟩)), .p (.v (.slice none 0 0))])] (Sees.of ⟨le1 rfl, le1 rfl, le1 rfl, le1 rfl, le1 rfl, le1 rfl, trivial⟩ ⟨rfl, rfl, trivial⟩) ?_
 refine F8 (Sees.adoptB 702 PatchHunk 3 phunkC 29 (kb := 21) (o := 2) Z Z Z) ?_
 refine k2 (k2 ?_)
 refine A4 (A2 (A3 Z Z) Z (A2 (E1 Z (.pure _ _ _ _)) Z (A2 (A3 Z Z) Z (A6 ?_))))
 refine k1 (k3 ?_)
 refine E2 (X := Nat) (fun k => ([(12, .s (.one (.ref 12 0))), (14, D3 Str 1 I2 x), (16, D3 Str 1 I2 y), (18, D3 Change 4 changeC l), (21, .s (.one (.ref 21 0))), (94, D3 Hunk 6 hunkC g), (95, C2 g.length), (96, C2 k)], [(12, .box [.p (.v (.string ⟨#[]⟩)), .p (.v (.string ⟨#[]⟩)), .p (.v (.slice none 0 0))]), (21, .box [.p (.v (.string ⟨on.toArray⟩)), .p (.v (.string ⟨nn.toArray⟩)), .buf 702 PatchHunk 3 phunkC ((g.take k).map (H5 l x y))]), (702, .spare ((g.take k).map (H5 l x y)).length 3 29)])) (fun k => k ≤ g.length) (fun k => g.length - k) 0 (Nat.zero_le _) (Sees.of ⟨le1 rfl, le1 rfl, le1 rfl, le1 rfl, le1 rfl, le1 rfl, le1 rfl, le1 rfl, trivial⟩ ⟨rfl, rfl, rfl, trivial⟩) ?_
 intro k hk
 dsimp only at hk ⊢
 refine k2 ?_
 refine A4 (A2 (E3 Z Z) Z (A6 ?_))
 refine k1 (k2 ?_)
 refine B2 rfl (fun ht => ?_) (fun ht => ?_)
 ·have hlt : k < g.length := by have := A0 ht; omega
  obtain ⟨q, hqe⟩ : ∃ q, q = g[k] := ⟨_, rfl⟩
  have hv : g[k]? = some q := by rw [hqe]; simp [hlt]
  have hq := hgo _ (List.mem_of_getElem? hv)
  have htk : (g.take (k + 1)).map (H5 l x y) = (g.take k).map (H5 l x y) ++ [H5 l x y q] := by rw [List.take_succ_eq_append_getElem hlt, List.map_append, hqe]; rfl
  obtain ⟨hs, hhs⟩ : ∃ hs, hs = (g.take k).map (H5 l x y) := ⟨_, rfl⟩
  have hhl : hs.length = k := by rw [hhs, List.length_map, List.length_take]; omega
  rw [← hhs] at htk ⊢
  obtain ⟨z, hz⟩ : ∃ z, z = H5 l x y q := ⟨_, rfl⟩
  refine k5 (k1 (k2 (k3 (k2 ?_))))
  refine A4 (A2 (B5 Z (.pure _ _ _ _) Z (by omega) hv) Z (A2 (E5 Z Z) Z (C9 (G3 23 Z) Z (E9 (B7 TySz.out Z Z Z Z Z Z) (A6 ?_)))))
  refine k1 ?_
  refine C7 (by kernel_rfl) (by kernel_rfl) (A8 (A7 Z) Z Z (A8 (A9 Z Z Z) Z Z (A8 (E4 Z Z Z) Z Z (A8 (A3 Z Z) Z Z (A8 (A3 Z Z) Z Z (A8 (A3 Z Z) Z Z (A8 (G9 (ubuild_ok l x y q hdf.ok hq (by omega) (by omega) (by omega)) Z Z) Z Z (A8 (E0 (c := phunkC) (ys := [H5 l x y q]) (E6 Z Z Z Z I6) Z Z Z) Z Z (d_effv (J4 Z Z Z (.pure _ _ _ _) (by (simp only [List.length_cons, List.length_nil]; omega)) Z) Z Z (A8 (A7 Z) Z Z (y7 (B7 TySz.out Z Z Z Z Z Z) Z (H2 ?_))))))))))))
  rw [← htk]
  refine k4 (k1 ?_)
  refine A4 (A2 (C0 Z Z (by omega)) Z (A2 (A3 Z Z) Z (A6 ?_)))
  refine k1 ?_
  exact ⟨k + 1, hlt, by omega, Sees.of ⟨le1 rfl, le1 rfl, le1 rfl, le1 rfl, le1 rfl, le1 rfl, le1 rfl, le1 rfl, trivial⟩ ⟨rfl, rfl, rfl, trivial⟩⟩
 ·have hk' : k = g.length := by have := A1 ht; omega
  subst hk'
  rw [List.take_length, ← hho]
  have hfit := hmd.fit
  have hrg := hmd.rg
  have hwr := hmd.wr
  rw [← hx, ← hy] at hfit hrg hwr
  refine k6 (k2 (k2 ?_))
  refine A4 (A2 (E4 Z Z Z) Z (C3 (usize_ok ⟨on, nn, P8 l x y ctx⟩ hfit hrg) Z Z Z ?_)); rintro _ rfl; refine A2 (N4 Z Z) Z (A6 ?_)
  refine k1 ?_
  refine B2 rfl (fun ht => ?_) (fun ht => ?_)
  ·have h4 := A0 ht
   exact absurd h4 (by omega)
  ·refine k5 (k1 (k2 ?_))
   refine A4 (A2 (E4 Z Z Z) Z (E9 (B7 TySz.out Z Z Z Z Z Z) (A2 (A5 Z Z) Z (A6 ?_))))
   refine k1 (k10 ?_)
   exact B6 (rs := [pPatch ⟨on, nn, P8 l x y ctx⟩, F0 0]) (Z5 rfl rfl rfl rfl rfl rfl rfl) (by rw [hmk])
set_option maxHeartbeats 1000000
theorem check12_names {p : Patch} (h1 : F7 p = 0) : L2 p.OldName = true ∧ L2 p.NewName = true := by
 have h : ¬ (L2 p.OldName = false ∨ L2 p.NewName = false) := fun q => by
  unfold F7 at h1; rw [if_pos q] at h1; exact absurd h1 (by decide)
 exact ⟨by cases q : L2 p.OldName <;> simp [q] at h ⊢, by cases q : L2 p.NewName <;> simp [q] at h ⊢⟩
theorem uformat_ok (p : Patch) (hp : szP p.Hunks ≤ 268435456) : FnOk Tryz.prog 25 [pPatch p] (fun rs => rs = [G6 (if F7 p ≠ 0 then [] else J6 p), F0 (F7 p)]) := by
 refine FnOk.intro Tryz.func25 (by decide) Z Z Z Z ?_
 refine k2 ?_
 refine A4 (C9 (c8 1 Z Z Z) Z (A2 (A5 Z Z) Z (A2 (A5 Z Z) Z (A6 ?_))))
 refine k1 (k2 (k2 ?_))
 refine A4 (A2 (E4 Z Z Z) Z (C3 (ucheck_ok p hp) Z Z Z ?_)); rintro _ rfl; refine A2 (A5 Z Z) Z (A6 ?_)
 refine k1 (k2 ?_)
 refine A4 (A2 (A3 Z Z) Z (A2 (K7 Z Z) Z (A6 ?_)))
 refine k1 ?_
 refine B2 rfl (fun ht => ?_) (fun ht => ?_)
 ·have h1 : F7 p ≠ 0 := A0 ht
  rw [if_pos h1]
  refine k2 ?_
  refine A4 (A2 (A3 Z Z) Z (A2 (A5 Z Z) Z (A2 (A5 Z Z) Z (A6 ?_))))
  refine k1 (k10 (k11 ?_))
  exact B6 (U5 rfl rfl rfl rfl rfl) rfl
 ·have h1 : ¬ F7 p ≠ 0 := A1 ht
  have hr := y2 (check12_good h1)
  obtain ⟨hn1, hn2⟩ := check12_names (Decidable.not_not.1 h1)
  have hn3 := A0 hn1
  have hn4 := A0 hn2
  have hpf : PFit p := ⟨by omega, by omega, hp⟩
  rw [if_neg h1, Decidable.not_not.1 h1]
  refine k5 (k1 (k2 ?_))
  refine A4 (A2 (E4 Z Z Z) Z (C3 (uwritten_ok p hpf (fun x hx => by have := hr x hx; omega)) Z Z Z ?_)); rintro _ rfl; refine A2 (A5 Z Z) Z (A2 (A5 Z Z) Z (A6 ?_))
  refine k1 (k10 ?_)
  exact B6 (U5 rfl rfl rfl rfl rfl) rfl
theorem szP_app (a b : List PatchHunk) : szP (a ++ b) = szP a + szP b := by simp [szP]
theorem szL_app (a b : List PatchLine) : ((a ++ b).map szL).sum = (a.map szL).sum + (b.map szL).sum := by simp
theorem last_split {α : Type} {l : List α} {x : α} (h : l.getLast? = some x) : l = l.dropLast ++ [x] := by
 obtain ⟨ys, hy⟩ := List.getLast?_eq_some_iff.1 h
 rw [hy, List.dropLast_concat]
theorem trimS_len (t : Str) : (trimS t).length ≤ t.length := by
 unfold trimS; split
 ·rw [List.length_dropLast]; omega
 ·omega
theorem szP_last {hs : List PatchHunk} {h : PatchHunk} (hl : hs.getLast? = some h) : szP hs = szP hs.dropLast + szH h := by
 conv => lhs; rw [last_split hl, szP_app]
 simp [szP]
theorem step_sz {hs hs' : List PatchHunk} {l : Str} (h : stepP hs l = some hs') : szP hs' ≤ szP hs + l.length + 65 := by
 cases l with
 | nil => cases h
 | cons c r =>
  simp only [stepP] at h
  split at h
  ·cases hh : r9 (c :: r) with
   | none => rw [hh] at h; cases h
   | some q =>
    obtain ⟨a, m, b, n⟩ := q
    rw [hh] at h
    have h : hs ++ [⟨a, b, []⟩] = hs' := Option.some.inj h
    rw [← h, szP_app]; simp [szP, szH]; omega
  ·split at h
   ·unfold addLine at h
    cases hl : hs.getLast? with
    | none => rw [hl] at h; cases h
    | some g =>
     rw [hl] at h
     have h : hs.dropLast ++ [⟨g.Old, g.New, g.Lines ++ [⟨c, r ++ [10]⟩]⟩] = hs' := Option.some.inj h
     rw [← h, szP_app, szP_last hl]
     simp [szP, szH, szL]; omega
   ·split at h
    ·unfold cutLine at h
     cases hl : hs.getLast? with
     | none => rw [hl] at h; cases h
     | some g =>
      rw [hl] at h
      dsimp only at h
      cases hx : g.Lines.getLast? with
      | none => rw [hx] at h; cases h
      | some x =>
       rw [hx] at h
       dsimp only at h
       split at h
       ·have h : hs.dropLast ++ [⟨g.Old, g.New, g.Lines.dropLast ++ [⟨x.Kind, trimS x.Text⟩]⟩] = hs' := Option.some.inj h
        have ht := trimS_len x.Text
        have hg : szH g = 64 + ((g.Lines.dropLast.map szL).sum + szL x) := by
         unfold szH
         conv => lhs; rw [last_split hx, szL_app]
         simp
        rw [← h, szP_app, szP_last hl, hg]
        simp [szP, szH, szL]; omega
       ·cases h
    ·cases h
def wTo60 (R : List Str) (k : Nat) : Nat := ((R.take k).map fun s => s.length + 65).sum
theorem wTo60_succ (R : List Str) (k : Nat) (x : Str) (h : R[k]? = some x) : wTo60 R (k + 1) = wTo60 R k + (x.length + 65) := by
 obtain ⟨hi, rfl⟩ := List.getElem?_eq_some_iff.1 h
 unfold wTo60
 rw [List.take_succ_eq_append_getElem hi, List.map_append, List.sum_append]; simp
theorem wTo60_le (R : List Str) (k : Nat) : wTo60 R k ≤ (R.map fun s => s.length + 65).sum := by
 unfold wTo60
 conv => rhs; rw [← List.take_append_drop k R, List.map_append, List.sum_append]
 omega
def objP (o n : Str) (hs : List PatchHunk) : Obs := match hs.getLast? with
 | some h => (match h.Lines with
  | [] => X9 o n hs
  | _ :: _ => U0 o n hs h.Old h.New h.Lines)
 | none => X9 o n hs
section
variable {P : Program} {nt : Nat} {fr : Fr} {o n : Str} {hs : List PatchHunk}
theorem shutP {h : PatchHunk} (hf : I3 732 fr = true) (hl : hs.getLast? = some h) (hne : h.Lines ≠ []) : Sees P nt fr (U0 o n hs h.Old h.New h.Lines) fr (X9 o n hs) := by
 have h1 := Sees.freezeG (P := P) (nt := nt) (fr := fr) (ob := U0 o n hs h.Old h.New h.Lines) (k := 732) rfl rfl
 rw [mapS_free hf] at h1
 refine h1.trans ?_
 have hset : hs.set (hs.length - 1) h = hs := by
  have h2 := last_split hl
  have hlen : hs.length - 1 = hs.dropLast.length := by rw [List.length_dropLast]
  conv => lhs; rw [hlen]; arg 1; rw [h2]
  rw [List.set_append_right _ _ (Nat.le_refl _), Nat.sub_self, List.set_cons_zero, ← h2]
 have h3 := Sees.closeA (P := P) (nt := nt) (fr := fr) (ob := Obs.mapO (Ob.freeze 732 PatchLine 2 plineC h.Lines) (Obs.drop 732 (U0 o n hs h.Old h.New h.Lines))) 731 h rfl (by
  obtain ⟨a, b, ls⟩ := h
  cases ls with
  | nil => exact absurd rfl hne
  | cons x r => rfl)
 rw [hset] at h3
 refine h3.trans (Sees.fewer (ObIn.spec ⟨rfl, rfl, rfl, trivial⟩))
theorem openP {h : PatchHunk} (hf : I3 732 fr = true) (hl : hs.getLast? = some h) (hne : h.Lines = []) : Sees P nt fr (X9 o n hs) fr (U0 o n hs h.Old h.New []) := by
 have hv : hs[hs.length - 1]? = some h := by rw [← List.getLast?_eq_getElem?]; exact hl
 refine (Sees.openA 731 (hs.length - 1) (v := h) Z hv).trans ?_
 have hcells : (cellsOf phunkN h 0 3).map TC.p = [.p (.v (.int .i64 h.Old)), .p (.v (.int .i64 h.New)), .p (.v (.slice none 0 0))] := by
  obtain ⟨a, b, ls⟩ := h
  have hne : ls = [] := hne
  subst hne; rfl
 rw [hcells]
 refine (Sees.adoptA 732 PatchLine 2 plineC 36 (kb := 731) (o := 2) Z Z (by rw [hf]; rfl)).trans ?_
 exact Sees.fewer (ObIn.spec ⟨rfl, rfl, rfl, rfl, trivial⟩)
theorem toShut (hf : I3 732 fr = true) : Sees P nt fr (objP o n hs) fr (X9 o n hs) := by
 unfold objP
 cases hl : hs.getLast? with
 | none => exact Sees.fewer fun _ _ h => h
 | some h =>
  dsimp only
  cases hh : h.Lines with
  | nil => exact Sees.fewer fun _ _ h => h
  | cons x r =>
   dsimp only
   rw [← hh]
   exact shutP hf hl (by rw [hh]; simp)
theorem toOpen {h : PatchHunk} (hf : I3 732 fr = true) (hl : hs.getLast? = some h) : Sees P nt fr (objP o n hs) fr (U0 o n hs h.Old h.New h.Lines) := by
 unfold objP
 rw [hl]
 dsimp only
 cases hh : h.Lines with
 | nil => dsimp only; exact openP hf hl hh
 | cons x r => exact Sees.fewer fun _ _ h => h
theorem ofShut {a b : Int} : objP o n (hs ++ [⟨a, b, []⟩]) = X9 o n (hs ++ [⟨a, b, []⟩]) := by unfold objP; simp
theorem ofOpen {h : PatchHunk} {ls : List PatchLine} (hl : hs.getLast? = some h) (hne : ls ≠ []) : Sees P nt fr (U0 o n hs h.Old h.New ls) fr (objP o n (hs.dropLast ++ [⟨h.Old, h.New, ls⟩])) := by
 have h2 := last_split hl
 have hlen : (hs.dropLast ++ [(⟨h.Old, h.New, ls⟩ : PatchHunk)]).length = hs.length := by
  conv => rhs; rw [h2]
  simp
 have hO : objP o n (hs.dropLast ++ [⟨h.Old, h.New, ls⟩]) = U0 o n (hs.dropLast ++ [⟨h.Old, h.New, ls⟩]) h.Old h.New ls := by
  unfold objP
  cases ls with
  | nil => exact absurd rfl hne
  | cons x r => simp
 rw [hO]
 have h3 := Sees.reA (P := P) (nt := nt) (fr := fr) (ob := U0 o n hs h.Old h.New ls) 731 (hs.dropLast ++ [⟨h.Old, h.New, ls⟩]) rfl hlen (by
  intro i hi
  have hd : hs.dropLast.length = hs.length - 1 := by rw [List.length_dropLast]
  rcases Nat.lt_or_ge i (hs.length - 1) with h4 | h4
  ·rw [List.getElem?_append_left (by omega)]
   conv => rhs; rw [h2]
   rw [List.getElem?_append_left (by omega)]
  ·rw [List.getElem?_eq_none (by omega), List.getElem?_eq_none (by omega)])
 rw [show (hs.length - 1) = (hs.dropLast ++ [(⟨h.Old, h.New, ls⟩ : PatchHunk)]).length - 1 by rw [hlen]] at h3
 exact h3.trans (Sees.fewer (ObIn.spec ⟨rfl, rfl, rfl, rfl, trivial⟩))
end
def n5 (f : List Str → Option Patch) (l : List Str) : List PV := match f l with
 | some p => [pPatch p, F9 true]
 | none => [pPatch K3, F9 false]
theorem choose_64 : chooseF 64 = .func (.func 215) #[] #[] := rfl
theorem choose_txt {c : UInt8} (h : c = 32 ∨ c = 45 ∨ c = 43) : chooseF c = .func (.func 216) #[] #[] := by rcases h with rfl | rfl | rfl <;> rfl
theorem choose_92 : chooseF 92 = .func (.func 217) #[] #[] := rfl
theorem choose_no {c : UInt8} (h1 : c ≠ 64) (h2 : ¬ (c = 32 ∨ c = 45 ∨ c = 43)) (h3 : c ≠ 92) : chooseF c = .nilFunc := by
 unfold chooseF meths
 have e : ∀ d : UInt8, d ≠ c → decide (d = c) = false := fun d h => decide_eq_false h
 have a1 : (32 : UInt8) ≠ c := fun e => h2 (.inl e.symm)
 have a2 : (45 : UInt8) ≠ c := fun e => h2 (.inr (.inl e.symm))
 have a3 : (43 : UInt8) ≠ c := fun e => h2 (.inr (.inr e.symm))
 simp only [List.find?_cons, e _ (Ne.symm h1), e _ a1, e _ a2, e _ a3, e _ (Ne.symm h3), List.find?_nil]
theorem phunk_cell {x : PatchHunk} (j : Nat) (rd : Rd) (u : Value) (h : (phunkN x j).rep rd u) : (phunkC x j).rep rd u := by
 match j with
 | 0 => exact h
 | 1 => exact h
 | j + 2 =>
  obtain ⟨a, b, ls⟩ := x
  cases ls with
  | nil =>
   have h : (Cell.v (.slice none 0 0)).rep rd u := h
   obtain ⟨rfl, _⟩ := h
   exact T4 _ _ _
  | cons y r => exact h
set_option maxHeartbeats 2000000
theorem stparse_ok (l : List Str) (hw : (l.map fun s => s.length + 65).sum ≤ 134217728) (hsz : ∀ s ∈ l, s.length ≤ 4194304) : FnOk Tryz.prog 76 [R3 l] (fun rs => rs = n5 V9 l) := by
 have hll : 65 * l.length ≤ (l.map fun s => s.length + 65).sum := by
  clear hw hsz
  induction l with
  | nil => simp
  | cons x r ih => simp only [List.map_cons, List.sum_cons, List.length_cons]; omega
 by_cases hlen : l.length < 2
 ·have hp : V9 l = none := by
   match l, hlen with
   | [], _ => rfl
   | [_], _ => rfl
  refine FnOk.intro Tryz.func76 (by decide) Z Z Z Z ?_
  refine k2 ?_
  refine A4 (C9 (G3 2 Z) Z (A2 (A5 Z Z) Z (A6 ?_)))
  refine k1 (k2 (k2 ?_))
  refine A4 (A2 (A3 Z Z) Z (A2 (E1 Z (.pure _ _ _ _)) Z (A2 (E3 Z Z) Z (A6 ?_))))
  refine k1 ?_
  refine B2 rfl (fun ht => ?_) (fun ht => ?_)
  rotate_left
  ·exact absurd (by omega) (A1 ht)
  refine k2 ?_
  refine A4 (A2 (F6 Z) Z (E9 (B7 TySz.out Z Z Z Z Z Z) (A2 (A5 Z Z) Z (A6 ?_))))
  refine k1 ?_
  refine F8 (Sees.listB PatchHunk 3 phunkC 2 2 Z Z) ?_
  refine k10 (k11 ?_)
  exact B6 (rs := [pPatch K3, F9 false]) (Z5 rfl rfl rfl rfl rfl rfl rfl) (by unfold n5; rw [hp])
 obtain ⟨l0, l1, R, rfl⟩ : ∃ a b r, l = a :: b :: r := by
  match l, hlen with
  | a :: b :: r, _ => exact ⟨a, b, r, rfl⟩
  | [], h => exact absurd (by simp) h
  | [_], h => exact absurd (by simp) h
 have z0 := hsz l0 (by simp)
 have z1 := hsz l1 (by simp)
 have hWR : (R.map fun s => s.length + 65).sum ≤ 134217728 := by simp only [List.map_cons, List.sum_cons] at hw; omega
 have hRl : R.length ≤ 134217728 := by simp only [List.length_cons] at hll; omega
 clear hw hll
 refine FnOk.intro Tryz.func76 (by decide) Z Z Z Z ?_
 refine k2 ?_
 refine A4 (C9 (G3 2 Z) Z (A2 (A5 Z Z) Z (A6 ?_)))
 refine k1 (k2 (k2 ?_))
 refine A4 (A2 (A3 Z Z) Z (A2 (E1 Z (.pure _ _ _ _)) Z (A2 (E3 Z Z) Z (A6 ?_))))
 refine k1 ?_
 refine B2 rfl (fun ht => ?_) (fun ht => ?_)
 ·exact absurd (A0 ht) (by simp only [List.length_cons]; omega)
 refine k5 (k1 (k2 ?_))
 refine A4 (A2 (F6 Z) Z (C9 (c8 730 Z Z Z) Z (A2 (A5 Z Z) Z (A6 ?_))))
 refine k1 (k2 ?_)
 refine A4 (A2 (A5 Z Z) Z (A2 (A5 Z Z) Z (A6 ?_)))
 refine k1 (k2 ?_)
 refine A4 (A2 (A3 Z Z) Z (A2 (A3 Z Z) Z (A2 (B5 Z (.pure _ _ _ _) Z (by omega) (show (l0 :: l1 :: R)[(0 : Int).toNat]? = some l0 from Z)) Z (A2 (B9 Z Z) Z (C3 (stname_ok l0 [45, 45, 45, 32] (by omega)) Z Z Z ?_))))); rintro _ ⟨w0, b0, rfl, h0⟩; refine A2 (A3 Z Z) Z (A2 (B3 Z Z) Z (A2 (B3 Z Z) Z (A2 (B4 Z) Z (A2 (A7 Z) Z (A2 (A7 Z) Z (E9 (B7 TySz.out Z Z Z Z Z Z) (A2 (A5 Z Z) Z (A6 ?_))))))))
 refine k1 (k2 ?_)
 refine A4 (A2 (A3 Z Z) Z (A2 (A3 Z Z) Z (A2 (B5 Z (.pure _ _ _ _) Z (by omega) (show (l0 :: l1 :: R)[(1 : Int).toNat]? = some l1 from Z)) Z (A2 (B9 Z Z) Z (C3 (stname_ok l1 [43, 43, 43, 32] (by omega)) Z Z Z ?_))))); rintro _ ⟨w1, b1, rfl, h1⟩; refine A2 (A3 Z Z) Z (A2 (B3 Z Z) Z (A2 (B3 Z Z) Z (A2 (B4 Z) Z (A2 (A7 Z) Z (A2 (A7 Z) Z (E9 (B7 TySz.out Z Z Z Z Z Z) (A2 (A5 Z Z) Z (A6 ?_))))))))
 refine k1 (k2 (k2 ?_))
 refine A4 (A2 (A3 Z Z) Z (A2 (F4 Z) Z (A2 (A3 Z Z) Z (B0 Z Z Z Z (fun hg => by rw [hg]; exact A3 Z Z) ?_)))); refine B0 Z Z Z Z (fun hg => by rw [hg]; exact F4 Z) ?_; refine A2 (B1 Z (fun h => by first | rfl | (rw [h]; rfl)) (fun h => by first | rfl | (rw [h]; rfl))) Z ?_; refine A6 ?_
 refine k1 ?_
 have hfail : S8 l0 [45, 45, 45, 32] = none ∨ S8 l1 [43, 43, 43, 32] = none → V9 (l0 :: l1 :: R) = none := by
  intro h
  unfold V9
  rcases h with h | h
  ·simp only [h]
  ·simp only [h]
   cases S8 l0 [45, 45, 45, 32] <;> rfl
 by_cases hnm : S8 l0 [45, 45, 45, 32] = none ∨ S8 l1 [43, 43, 43, 32] = none
 ·refine B2 rfl (fun ht => ?_) (fun ht => ?_)
  rotate_left
  ·exfalso
   rcases hnm with h | h
   ·rw [h] at h0; have h0 : b0 = false := h0; rw [h0] at ht; cases ht
   ·rw [h] at h1; have h1 : b1 = false := h1; rw [h1] at ht; cases b0 <;> cases ht
  refine k2 ?_
  refine A4 (A2 (F6 Z) Z (E9 (B7 TySz.out Z Z Z Z Z Z) (A2 (A5 Z Z) Z (A6 ?_))))
  refine k1 ?_
  refine F8 (Sees.listB PatchHunk 3 phunkC 2 2 Z Z) ?_
  refine k10 (k11 ?_)
  exact B6 (rs := [pPatch K3, F9 false]) (Z5 rfl rfl rfl rfl rfl rfl rfl) (by unfold n5; rw [hfail hnm])
 obtain ⟨o, ho⟩ : ∃ o, S8 l0 [45, 45, 45, 32] = some o := by
  cases h : S8 l0 [45, 45, 45, 32] with
  | none => exact absurd (.inl h) hnm
  | some o => exact ⟨o, rfl⟩
 obtain ⟨n, hn⟩ : ∃ n, S8 l1 [43, 43, 43, 32] = some n := by
  cases h : S8 l1 [43, 43, 43, 32] with
  | none => exact absurd (.inr h) hnm
  | some n => exact ⟨n, rfl⟩
 rw [ho] at h0
 rw [hn] at h1
 obtain ⟨rfl, rfl⟩ := h0
 obtain ⟨rfl, rfl⟩ := h1
 have hPs : ∀ hs, Q5 [] R = some hs → [pPatch ⟨w0, w1, hs⟩, F9 true] = n5 V9 (l0 :: l1 :: R) := by
  intro hs h
  have : V9 (l0 :: l1 :: R) = some ⟨w0, w1, hs⟩ := by unfold V9; simp only [ho, hn, h]
  unfold n5; rw [this]
 have hnone : Q5 [] R = none → [pPatch K3, F9 false] = n5 V9 (l0 :: l1 :: R) := by
  intro h
  have : V9 (l0 :: l1 :: R) = none := by unfold V9; simp only [ho, hn, h]
  unfold n5; rw [this]
 refine B2 rfl (fun ht => ?_) (fun ht => ?_)
 ·cases ht
 refine k5 (k1 (k2 (k2 ?_)))
 refine A4 (A2 (A3 Z Z) Z (A2 (n_slice_l Z (.pure _ _ _ _) Z (by (first | omega | (simp only [List.length_cons]; omega))) (by (first | omega | (simp only [List.length_cons]; omega)))) Z (A2 (E1 Z (.pure _ _ _ _)) Z (A2 (A3 Z Z) Z (A6 ?_)))))
 refine k1 (k3 ?_)
 refine F8 (Sees.adoptBG 731 PatchHunk 3 phunkN 29 (kb := 730) (o := 2) Z Z Z) ?_
 refine E2 (X := Nat × List PatchHunk) (fun x => ([(4, .s (.one (.ref 730 0))), (2, .s (.one (.ref 2 0))), (46, D3 Str 1 I2 R), (47, C2 R.length), (48, C2 x.1)], objP w0 w1 x.2)) (fun x => x.1 ≤ R.length ∧ szP x.2 ≤ wTo60 R x.1 ∧ Q5 x.2 (R.drop x.1) = Q5 [] R) (fun x => R.length - x.1) (0, []) ⟨Nat.zero_le _, by simp [szP], rfl⟩ (Sees.of ⟨le1 rfl, le1 rfl, le1 rfl, le1 rfl, le1 rfl, trivial⟩ ⟨rfl, rfl, rfl, trivial⟩) ?_
 rintro ⟨k, hs⟩ ⟨hk, hz, hf⟩
 dsimp only at hk hz hf ⊢
 have hzb := wTo60_le R k
 have hzb2 : szP hs ≤ 134217728 := by omega
 have hsl := szP_len hs
 refine k2 ?_
 refine A4 (A2 (E3 Z Z) Z (A6 ?_))
 refine k1 (k2 ?_)
 refine B2 rfl (fun ht => ?_) (fun ht => ?_)
 ·have hlt : k < R.length := by have := A0 ht; omega
  obtain ⟨x, hx⟩ : ∃ x, x = R[k] := ⟨_, rfl⟩
  have hv : R[k]? = some x := by rw [hx]; simp [hlt]
  have hxz := hsz x (by simp [List.mem_of_getElem? hv])
  have hwk := wTo60_succ R k x hv
  rw [List.drop_eq_getElem_cons hlt, ← hx, Q5] at hf
  refine k5 (k1 (k2 (k3 (k2 ?_))))
  refine A4 (A2 (B5 Z (.pure _ _ _ _) Z (by omega) hv) Z (A2 (B9 Z Z) Z (A2 (A5 Z Z) Z (A6 ?_))))
  refine k1 (k2 (k2 ?_))
  refine A4 (A2 (A3 Z Z) Z (A2 (d8 Z Z) Z (A6 ?_)))
  refine k1 ?_
  refine B2 rfl (fun ht => ?_) (fun ht => ?_)
  ·have h0 : x = [] := A0 ht
   subst h0
   have hf : none = Q5 [] R := hf
   refine k2 ?_
   refine F8 (toShut Z) ?_
   refine A4 (A2 (F6 Z) Z (E9 (B7 TySz.out Z Z Z Z Z Z) (A2 (A5 Z Z) Z (A6 ?_))))
   refine k1 ?_
   refine F8 (Sees.listB PatchHunk 3 phunkC 2 2 Z Z) ?_
   refine k10 (k11 (k12 (k11 (k11 (k12 (k11 ?_))))))
   exact B6 (rs := [pPatch K3, F9 false]) (Z5 rfl rfl rfl rfl rfl rfl rfl) (hnone hf.symm)
  have hne : x ≠ [] := A1 ht
  obtain ⟨c, r, rfl⟩ : ∃ c r, x = c :: r := by
   cases x with
   | nil => exact absurd rfl hne
   | cons c r => exact ⟨c, r, rfl⟩
  simp only [List.length_cons] at hxz hwk
  refine k5 (k1 (k2 ?_))
  refine A4 (A2 (A3 Z Z) Z (A2 (K0 Z Z (by omega) (show (c :: r)[(0 : Int).toNat]? = some c from Z)) Z (C3 (choose_ok c) Z Z Z ?_))); rintro _ rfl; refine A2 (A5 Z Z) Z (A6 ?_)
  refine k1 (k2 ?_)
  by_cases c64 : c = 64
  ·subst c64
   rw [choose_64]
   have hm := fun gf => header_met (gf := gf) w0 w1 hs (64 :: r) (by omega) (by simp only [List.length_cons]; omega)
   have hst : stepP hs (64 :: r) = match r9 (64 :: r) with | none => none | some (a, _, b, _) => some (hs ++ [⟨a, b, []⟩]) := rfl
   refine F8 (toShut Z) ?_
   cases hh : r9 (64 :: r) with
   | none =>
    rw [hh] at hm hst
    rw [hst] at hf
    have hf : none = Q5 [] R := hf
    refine A4 (A2 (A3 Z Z) Z (A2 (p6 Z (by kernel_rfl)) Z (A2 (A3 Z Z) Z (E8 Z Z Z Z (A2 (A3 Z Z) Z (E8 Z Z Z Z (A2 (A3 Z Z) Z (E8 Z Z Z Z (A2 (A3 Z Z) Z (E8 Z Z Z Z (l_sees ((Sees.trans (i8 (t := 61) Z) (Sees.of (ob' := X9 w0 w1 hs) (fr' := [(60, P4 false), (61, .s (.one (.clo 215 [] []))), (62, .s (.one (.ref 730 0))), (63, O7 (64 :: r)), (4, .s (.one (.ref 730 0))), (2, .s (.one (.ref 2 0))), (46, D3 Str 1 I2 R), (47, C2 R.length), (48, C2 k)]) ⟨le1 rfl, le1 rfl, le1 rfl, le1 rfl, le1 rfl, le1 rfl, le1 rfl, le1 rfl, le1 rfl, trivial⟩ ⟨rfl, rfl, rfl, trivial⟩))) (w8 (hm _) Z Z Z Z ?_)))))))))))); rintro _ _ ⟨rfl, rfl⟩; refine E8 Z Z Z Z (A2 (F4 Z) Z (A2 (T6 Z (rfl) Z) Z (A6 ?_)))
    refine k1 ?_
    refine B2 rfl (fun ht => ?_) (fun ht => ?_)
    ·refine k2 ?_
     refine A4 (A2 (F6 Z) Z (E9 (B7 TySz.out Z Z Z Z Z Z) (A2 (A5 Z Z) Z (A6 ?_))))
     refine k1 ?_
     refine F8 (Sees.listB PatchHunk 3 phunkC 2 2 Z Z) ?_
     refine k10 (k12 (k11 (k11 (k12 (k11 ?_)))))
     exact B6 (rs := [pPatch K3, F9 false]) (Z5 rfl rfl rfl rfl rfl rfl rfl) (hnone hf.symm)
    ·cases ht
   | some q =>
    obtain ⟨a, m, b, e⟩ := q
    rw [hh] at hm hst
    rw [hst] at hf
    have hf : Q5 (hs ++ [⟨a, b, []⟩]) (R.drop (k + 1)) = Q5 [] R := hf
    have hsz2 := step_sz (hs := hs) (hs' := hs ++ [⟨a, b, []⟩]) (l := 64 :: r) hst
    simp only [List.length_cons] at hsz2
    refine A4 (A2 (A3 Z Z) Z (A2 (p6 Z (by kernel_rfl)) Z (A2 (A3 Z Z) Z (E8 Z Z Z Z (A2 (A3 Z Z) Z (E8 Z Z Z Z (A2 (A3 Z Z) Z (E8 Z Z Z Z (A2 (A3 Z Z) Z (E8 Z Z Z Z (l_sees ((Sees.trans (i8 (t := 61) Z) (Sees.of (ob' := X9 w0 w1 hs) (fr' := [(60, P4 false), (61, .s (.one (.clo 215 [] []))), (62, .s (.one (.ref 730 0))), (63, O7 (64 :: r)), (4, .s (.one (.ref 730 0))), (2, .s (.one (.ref 2 0))), (46, D3 Str 1 I2 R), (47, C2 R.length), (48, C2 k)]) ⟨le1 rfl, le1 rfl, le1 rfl, le1 rfl, le1 rfl, le1 rfl, le1 rfl, le1 rfl, le1 rfl, trivial⟩ ⟨rfl, rfl, rfl, trivial⟩))) (w8 (hm _) Z Z Z Z ?_)))))))))))); rintro _ _ ⟨rfl, rfl⟩; refine E8 Z Z Z Z (A2 (F4 Z) Z (A2 (T6 Z (rfl) Z) Z (A6 ?_)))
    refine k1 ?_
    refine B2 rfl (fun ht => ?_) (fun ht => ?_)
    ·cases ht
    refine k5 (k4 (k1 ?_))
    refine A4 (A2 (C0 Z Z (by omega)) Z (A2 (A3 Z Z) Z (A6 ?_)))
    refine k1 ?_
    refine ⟨(k + 1, hs ++ [⟨a, b, []⟩]), ⟨hlt, by dsimp only; omega, hf⟩, by dsimp only; omega, ?_⟩
    dsimp only
    rw [ofShut]
    exact Sees.of ⟨le1 rfl, le1 rfl, le1 rfl, le1 rfl, le1 rfl, trivial⟩ ⟨rfl, rfl, rfl, trivial⟩
  have hst64 : ∀ hs', stepP hs (c :: r) = hs' ↔ (if c = 32 ∨ c = 45 ∨ c = 43 then addLine hs ⟨c, r ++ [10]⟩ else if c = 92 then cutLine hs (c :: r) else none) = hs' := by
   intro hs'
   simp only [stepP]
   rw [if_neg c64]
  by_cases ctx : c = 32 ∨ c = 45 ∨ c = 43
  ·rw [choose_txt ctx]
   simp only [if_pos ctx] at hst64
   cases hl : hs.getLast? with
   | none =>
    have hn0 : hs = [] := List.getLast?_eq_none_iff.1 hl
    subst hn0
    have hst := (hst64 none).2 rfl
    rw [hst] at hf
    have hf : none = Q5 [] R := hf
    refine F8 (toShut Z) ?_
    refine A4 (A2 (A3 Z Z) Z (A2 (p6 Z (by kernel_rfl)) Z (A2 (A3 Z Z) Z (E8 Z Z Z Z (A2 (A3 Z Z) Z (E8 Z Z Z Z (A2 (A3 Z Z) Z (E8 Z Z Z Z (A2 (A3 Z Z) Z (E8 Z Z Z Z (l_sees ((Sees.trans (i8 (t := 61) Z) (Sees.of (ob' := X9 w0 w1 []) (fr' := [(60, P4 false), (61, .s (.one (.clo 216 [] []))), (62, .s (.one (.ref 730 0))), (63, O7 (c :: r)), (4, .s (.one (.ref 730 0))), (2, .s (.one (.ref 2 0))), (46, D3 Str 1 I2 R), (47, C2 R.length), (48, C2 k)]) ⟨le1 rfl, le1 rfl, le1 rfl, le1 rfl, le1 rfl, le1 rfl, le1 rfl, le1 rfl, le1 rfl, trivial⟩ ⟨rfl, rfl, rfl, trivial⟩))) (w8 (content_shut w0 w1 (c :: r)) Z Z Z Z ?_)))))))))))); rintro _ _ ⟨rfl, rfl⟩; refine E8 Z Z Z Z (A2 (F4 Z) Z (A2 (T6 Z (rfl) Z) Z (A6 ?_)))
    refine k1 ?_
    refine B2 rfl (fun ht => ?_) (fun ht => ?_)
    ·refine k2 ?_
     refine A4 (A2 (F6 Z) Z (E9 (B7 TySz.out Z Z Z Z Z Z) (A2 (A5 Z Z) Z (A6 ?_))))
     refine k1 ?_
     refine F8 (Sees.listB PatchHunk 3 phunkC 2 2 Z Z) ?_
     refine k10 (k12 (k11 (k11 (k12 (k11 ?_)))))
     exact B6 (rs := [pPatch K3, F9 false]) (Z5 rfl rfl rfl rfl rfl rfl rfl) (hnone hf.symm)
    ·cases ht
   | some h =>
    have hst := (hst64 (some (hs.dropLast ++ [⟨h.Old, h.New, h.Lines ++ [⟨c, r ++ [10]⟩]⟩]))).2 (by unfold addLine; rw [hl])
    rw [hst] at hf
    have hf : Q5 (hs.dropLast ++ [⟨h.Old, h.New, h.Lines ++ [⟨c, r ++ [10]⟩]⟩]) (R.drop (k + 1)) = Q5 [] R := hf
    have hsz2 := step_sz hst
    simp only [List.length_cons] at hsz2
    have hmem := s6 (List.mem_of_getLast? hl)
    have hln := X2 h.Lines
    unfold szH at hmem
    have h0 : 0 < hs.length := List.length_pos_iff.2 (by intro e; rw [e] at hl; cases hl)
    refine F8 (toOpen Z hl) ?_
    refine A4 (A2 (A3 Z Z) Z (A2 (p6 Z (by kernel_rfl)) Z (A2 (A3 Z Z) Z (E8 Z Z Z Z (A2 (A3 Z Z) Z (E8 Z Z Z Z (A2 (A3 Z Z) Z (E8 Z Z Z Z (A2 (A3 Z Z) Z (E8 Z Z Z Z (l_sees ((Sees.trans (i8 (t := 61) Z) (Sees.of (ob' := U0 w0 w1 hs h.Old h.New h.Lines) (fr' := [(60, P4 false), (61, .s (.one (.clo 216 [] []))), (62, .s (.one (.ref 730 0))), (63, O7 (c :: r)), (4, .s (.one (.ref 730 0))), (2, .s (.one (.ref 2 0))), (46, D3 Str 1 I2 R), (47, C2 R.length), (48, C2 k)]) ⟨le1 rfl, le1 rfl, le1 rfl, le1 rfl, le1 rfl, le1 rfl, le1 rfl, le1 rfl, le1 rfl, trivial⟩ ⟨rfl, rfl, rfl, rfl, trivial⟩))) (w8 (content_open 216 R k w0 w1 hs h.Old h.New h.Lines c r h0 (by omega) (by omega) (by omega)) Z Z Z Z ?_)))))))))))); rintro _ _ ⟨rfl, rfl⟩; refine E8 Z Z Z Z (A2 (F4 Z) Z (A2 (T6 Z (rfl) Z) Z (A6 ?_)))
    refine k1 ?_
    refine B2 rfl (fun ht => ?_) (fun ht => ?_)
    ·cases ht
    refine k5 (k4 (k1 ?_))
    refine A4 (A2 (C0 Z Z (by omega)) Z (A2 (A3 Z Z) Z (A6 ?_)))
    refine k1 ?_
    refine ⟨(k + 1, hs.dropLast ++ [⟨h.Old, h.New, h.Lines ++ [⟨c, r ++ [10]⟩]⟩]), ⟨hlt, by dsimp only; omega, hf⟩, by dsimp only; omega, ?_⟩
    refine Sees.trans ?_ (ofOpen hl (by simp))
    exact Sees.of ⟨le1 rfl, le1 rfl, le1 rfl, le1 rfl, le1 rfl, trivial⟩ ⟨rfl, rfl, rfl, rfl, trivial⟩
  simp only [if_neg ctx] at hst64
  by_cases c92 : c = 92
  ·subst c92
   rw [choose_92]
   simp only [if_true] at hst64
   cases hl : hs.getLast? with
   | none =>
    have hn0 : hs = [] := List.getLast?_eq_none_iff.1 hl
    subst hn0
    have hst := (hst64 none).2 rfl
    rw [hst] at hf
    have hf : none = Q5 [] R := hf
    refine F8 (toShut Z) ?_
    refine A4 (A2 (A3 Z Z) Z (A2 (p6 Z (by kernel_rfl)) Z (A2 (A3 Z Z) Z (E8 Z Z Z Z (A2 (A3 Z Z) Z (E8 Z Z Z Z (A2 (A3 Z Z) Z (E8 Z Z Z Z (A2 (A3 Z Z) Z (E8 Z Z Z Z (l_sees ((Sees.trans (i8 (t := 61) Z) (Sees.of (ob' := X9 w0 w1 []) (fr' := [(60, P4 false), (61, .s (.one (.clo 217 [] []))), (62, .s (.one (.ref 730 0))), (63, O7 (92 :: r)), (4, .s (.one (.ref 730 0))), (2, .s (.one (.ref 2 0))), (46, D3 Str 1 I2 R), (47, C2 R.length), (48, C2 k)]) ⟨le1 rfl, le1 rfl, le1 rfl, le1 rfl, le1 rfl, le1 rfl, le1 rfl, le1 rfl, le1 rfl, trivial⟩ ⟨rfl, rfl, rfl, trivial⟩))) (w8 (unended_shut w0 w1 (92 :: r)) Z Z Z Z ?_)))))))))))); rintro _ _ ⟨rfl, rfl⟩; refine E8 Z Z Z Z (A2 (F4 Z) Z (A2 (T6 Z (rfl) Z) Z (A6 ?_)))
    refine k1 ?_
    refine B2 rfl (fun ht => ?_) (fun ht => ?_)
    ·refine k2 ?_
     refine A4 (A2 (F6 Z) Z (E9 (B7 TySz.out Z Z Z Z Z Z) (A2 (A5 Z Z) Z (A6 ?_))))
     refine k1 ?_
     refine F8 (Sees.listB PatchHunk 3 phunkC 2 2 Z Z) ?_
     refine k10 (k12 (k11 (k11 (k12 (k11 ?_)))))
     exact B6 (rs := [pPatch K3, F9 false]) (Z5 rfl rfl rfl rfl rfl rfl rfl) (hnone hf.symm)
    ·cases ht
   | some h =>
    have hmem := s6 (List.mem_of_getLast? hl)
    have hln := X2 h.Lines
    unfold szH at hmem
    have h0 : 0 < hs.length := List.length_pos_iff.2 (by intro e; rw [e] at hl; cases hl)
    have hm := fun gf => unended_open (gf := gf) w0 w1 hs h.Old h.New h.Lines (92 :: r) h0 (by omega) (by omega) (fun y hy => by have := szL_mem hy; omega)
    refine F8 (toOpen Z hl) ?_
    by_cases hx2 : ∃ y, h.Lines.getLast? = some y ∧ (92 :: r) = noNl
    ·obtain ⟨y, hy, hno⟩ := hx2
     have hst := (hst64 (some (hs.dropLast ++ [⟨h.Old, h.New, h.Lines.dropLast ++ [⟨y.Kind, trimS y.Text⟩]⟩]))).2 (by unfold cutLine; rw [hl]; dsimp only; rw [hy]; dsimp only; rw [if_pos hno])
     rw [hst] at hf
     have hf : Q5 (hs.dropLast ++ [⟨h.Old, h.New, h.Lines.dropLast ++ [⟨y.Kind, trimS y.Text⟩]⟩]) (R.drop (k + 1)) = Q5 [] R := hf
     have hsz2 := step_sz hst
     simp only [List.length_cons] at hsz2
     have hm2 := fun gf => (hm gf).mono (post' := fun rs ob' => rs = [tBo true] ∧ ob' = U0 w0 w1 hs h.Old h.New (h.Lines.dropLast ++ [⟨y.Kind, trimS y.Text⟩])) (fun rs ob' hh => by rw [hy] at hh; dsimp only at hh; rw [if_pos hno] at hh; exact hh)
     refine A4 (A2 (A3 Z Z) Z (A2 (p6 Z (by kernel_rfl)) Z (A2 (A3 Z Z) Z (E8 Z Z Z Z (A2 (A3 Z Z) Z (E8 Z Z Z Z (A2 (A3 Z Z) Z (E8 Z Z Z Z (A2 (A3 Z Z) Z (E8 Z Z Z Z (l_sees ((Sees.trans (i8 (t := 61) Z) (Sees.of (ob' := U0 w0 w1 hs h.Old h.New h.Lines) (fr' := [(60, P4 false), (61, .s (.one (.clo 217 [] []))), (62, .s (.one (.ref 730 0))), (63, O7 (92 :: r)), (4, .s (.one (.ref 730 0))), (2, .s (.one (.ref 2 0))), (46, D3 Str 1 I2 R), (47, C2 R.length), (48, C2 k)]) ⟨le1 rfl, le1 rfl, le1 rfl, le1 rfl, le1 rfl, le1 rfl, le1 rfl, le1 rfl, le1 rfl, trivial⟩ ⟨rfl, rfl, rfl, rfl, trivial⟩))) (w8 (hm2 _) Z Z Z Z ?_)))))))))))); rintro _ _ ⟨rfl, rfl⟩; refine E8 Z Z Z Z (A2 (F4 Z) Z (A2 (T6 Z (rfl) Z) Z (A6 ?_)))
     refine k1 ?_
     refine B2 rfl (fun ht => ?_) (fun ht => ?_)
     ·cases ht
     refine k5 (k4 (k1 ?_))
     refine A4 (A2 (C0 Z Z (by omega)) Z (A2 (A3 Z Z) Z (A6 ?_)))
     refine k1 ?_
     refine ⟨(k + 1, hs.dropLast ++ [⟨h.Old, h.New, h.Lines.dropLast ++ [⟨y.Kind, trimS y.Text⟩]⟩]), ⟨hlt, by dsimp only; omega, hf⟩, by dsimp only; omega, ?_⟩
     refine Sees.trans ?_ (ofOpen hl (by simp))
     exact Sees.of ⟨le1 rfl, le1 rfl, le1 rfl, le1 rfl, le1 rfl, trivial⟩ ⟨rfl, rfl, rfl, rfl, trivial⟩
    ·have hst := (hst64 none).2 (by
      unfold cutLine; rw [hl]; dsimp only
      cases hy : h.Lines.getLast? with
      | none => rfl
      | some y => dsimp only; rw [if_neg (fun e => hx2 ⟨y, hy, e⟩)])
     rw [hst] at hf
     have hf : none = Q5 [] R := hf
     have hm2 := fun gf => (hm gf).mono (post' := fun rs ob' => rs = [tBo false] ∧ ob' = [(2, zBox)]) (fun rs ob' hh => by
      cases hy : h.Lines.getLast? with
      | none => rw [hy] at hh; exact hh
      | some y => rw [hy] at hh; dsimp only at hh; rw [if_neg (fun e => hx2 ⟨y, hy, e⟩)] at hh; exact hh)
     refine A4 (A2 (A3 Z Z) Z (A2 (p6 Z (by kernel_rfl)) Z (A2 (A3 Z Z) Z (E8 Z Z Z Z (A2 (A3 Z Z) Z (E8 Z Z Z Z (A2 (A3 Z Z) Z (E8 Z Z Z Z (A2 (A3 Z Z) Z (E8 Z Z Z Z (l_sees ((Sees.trans (i8 (t := 61) Z) (Sees.of (ob' := U0 w0 w1 hs h.Old h.New h.Lines) (fr' := [(60, P4 false), (61, .s (.one (.clo 217 [] []))), (62, .s (.one (.ref 730 0))), (63, O7 (92 :: r)), (4, .s (.one (.ref 730 0))), (2, .s (.one (.ref 2 0))), (46, D3 Str 1 I2 R), (47, C2 R.length), (48, C2 k)]) ⟨le1 rfl, le1 rfl, le1 rfl, le1 rfl, le1 rfl, le1 rfl, le1 rfl, le1 rfl, le1 rfl, trivial⟩ ⟨rfl, rfl, rfl, rfl, trivial⟩))) (w8 (hm2 _) Z Z Z Z ?_)))))))))))); rintro _ _ ⟨rfl, rfl⟩; refine E8 Z Z Z Z (A2 (F4 Z) Z (A2 (T6 Z (rfl) Z) Z (A6 ?_)))
     refine k1 ?_
     refine B2 rfl (fun ht => ?_) (fun ht => ?_)
     ·refine k2 ?_
      refine A4 (A2 (F6 Z) Z (E9 (B7 TySz.out Z Z Z Z Z Z) (A2 (A5 Z Z) Z (A6 ?_))))
      refine k1 ?_
      refine F8 (Sees.listB PatchHunk 3 phunkC 2 2 Z Z) ?_
      refine k10 (k12 (k11 (k11 (k12 (k11 ?_)))))
      exact B6 (rs := [pPatch K3, F9 false]) (Z5 rfl rfl rfl rfl rfl rfl rfl) (hnone hf.symm)
     ·cases ht
  rw [choose_no c64 ctx c92]
  have hst := (hst64 none).2 (by rw [if_neg c92])
  rw [hst] at hf
  have hf : none = Q5 [] R := hf
  refine F8 (toShut Z) ?_
  refine A4 (A2 (A3 Z Z) Z (A2 (n_eql_fn0 Z (by kernel_rfl)) Z (A2 (A3 Z Z) Z (I5 Z Z Z (by simp) Z (I5 Z Z Z (by simp) Z (I5 Z Z Z (by simp) Z (I5 Z Z Z (by simp) Z (I5 Z Z Z (by simp) Z (A2 (n_pick_t Z (rfl) Z) Z (A6 ?_))))))))))
  refine k1 ?_
  refine B2 rfl (fun ht => ?_) (fun ht => ?_)
  ·refine k2 ?_
   refine A4 (A2 (F6 Z) Z (E9 (B7 TySz.out Z Z Z Z Z Z) (A2 (A5 Z Z) Z (A6 ?_))))
   refine k1 ?_
   refine F8 (Sees.listB PatchHunk 3 phunkC 2 2 Z Z) ?_
   refine k10 (k12 (k11 (k11 (k12 (k11 ?_)))))
   exact B6 (rs := [pPatch K3, F9 false]) (Z5 rfl rfl rfl rfl rfl rfl rfl) (hnone hf.symm)
  ·cases ht
 ·have hk2 : k = R.length := by have := A1 ht; omega
  subst hk2
  rw [List.drop_eq_nil_of_le (Nat.le_refl _)] at hf
  have hf : some hs = Q5 [] R := hf
  refine k6 (k2 ?_)
  refine F8 (toShut Z) ?_
  refine F8 (Sees.recell 731 phunkC Z (fun x _ j _ rd u => phunk_cell j rd u)) ?_
  refine F8 (Sees.freezeG (k := 731) Z Z) ?_
  refine T5 [(4, .s (.one (.ref 730 0))), (2, .s (.one (.ref 2 0)))] [(730, .box [.p (.v (.string ⟨w0.toArray⟩)), .p (.v (.string ⟨w1.toArray⟩)), .p (.list PatchHunk 3 phunkC hs)]), (2, zBox)] (Sees.of ⟨le1 rfl, le1 rfl, trivial⟩ ⟨rfl, rfl, trivial⟩) ?_
  refine A4 (A2 (A3 Z Z) Z (A2 (B4 Z) Z (A2 (A7 Z) Z (A2 (E4 Z Z Z) Z (E9 (B7 TySz.out Z Z Z Z Z Z) (A2 (A5 Z Z) Z (A6 ?_)))))))
  refine k1 (k10 ?_)
  exact B6 (rs := [pPatch ⟨w0, w1, hs⟩, F9 true]) (Z5 rfl rfl rfl rfl rfl rfl rfl) (hPs hs hf.symm)
theorem linesS_sz {s : Str} {l : List Str} (h : linesS s = some l) : (l.map fun t => t.length + 65).sum ≤ 66 * s.length ∧ ∀ t ∈ l, t.length ≤ s.length := by
 unfold linesS at h
 split at h
 ·cases h; simp
 ·split at h
  ·have h : (D8 s).map List.dropLast = l := Option.some.inj h
   obtain ⟨f1, f2⟩ := Y4 s
   have hl := U7 s
   have hsum : ∀ L : List Str, ((L.map List.dropLast).map fun t => t.length + 65).sum ≤ L.flatten.length + 65 * L.length := by
    intro L
    induction L with
    | nil => simp
    | cons x r ih =>
     simp only [List.map_cons, List.sum_cons, List.flatten_cons, List.length_append, List.length_cons, List.length_dropLast] at ih ⊢
     omega
   have hs := hsum (D8 s)
   rw [h] at hs
   have hs2 : (l.map fun (t : Str) => t.length + 65).sum ≤ (D8 s).flatten.length + 65 * (D8 s).length := hs
   refine ⟨by omega, fun t ht => ?_⟩
   rw [← h] at ht
   obtain ⟨x, hx, rfl⟩ := List.mem_map.1 ht
   have := (List.sublist_flatten_of_mem hx).length_le
   rw [List.length_dropLast]; omega
  ·cases h
theorem fold_sz {R : List Str} : ∀ {hs hs' : List PatchHunk}, Q5 hs R = some hs' → szP hs' ≤ szP hs + (R.map fun t => t.length + 65).sum := by
 induction R with
 | nil => intro hs hs' h; cases h; simp
 | cons x r ih =>
  intro hs hs' h
  rw [Q5] at h
  cases hx : stepP hs x with
  | none => rw [hx] at h; cases h
  | some g =>
   rw [hx] at h
   have h1 := step_sz hx
   have h2 := ih h
   simp only [List.map_cons, List.sum_cons]; omega
theorem parseP_sz {l : List Str} {p : Patch} (h : V9 l = some p) : szP p.Hunks ≤ (l.map fun t => t.length + 65).sum := by
 unfold V9 at h
 match l with
 | [] => cases h
 | [_] => cases h
 | a :: b :: r =>
  dsimp only at h
  cases h1 : S8 a [45, 45, 45, 32] with
  | none => rw [h1] at h; cases h
  | some o =>
   cases h2 : S8 b [43, 43, 43, 32] with
   | none => rw [h1, h2] at h; cases h
   | some n =>
    rw [h1, h2] at h
    dsimp only at h
    cases h3 : Q5 [] r with
    | none => rw [h3] at h; cases h
    | some hs =>
     rw [h3] at h
     have h : (⟨o, n, hs⟩ : Patch) = p := Option.some.inj h
     rw [← h]
     have := fold_sz h3
     simp only [List.map_cons, List.sum_cons]
     have e : szP ([] : List PatchHunk) = 0 := rfl
     first | omega | (dsimp only; omega)
def strictR (f : List Str → Option Patch) (s : Str) : List PV := [pPatch (o4 f s).1, F0 (o4 f s).2]
theorem stParse_ok (s : Str) (hs : s.length ≤ 1048576) : FnOk Tryz.prog 26 [G6 s] (fun rs => rs = strictR V9 s) := by
 have h16 : ¬ 16777216 < s.length := by omega
 have hL := stLines_ok s (by omega)
 have hfail : ∀ {x : Patch × Int}, o4 V9 s = x → x = (K3, 4) → [pPatch K3, F0 4] = strictR V9 s := by
  intro x h1 h2
  unfold strictR; rw [h1, h2]
 refine FnOk.intro Tryz.func26 (by decide) Z Z Z Z ?_
 refine k2 ?_
 refine A4 (C9 (G3 2 Z) Z (A2 (A5 Z Z) Z (A6 ?_)))
 refine k1 (k2 (k2 ?_))
 refine A4 (A2 (A3 Z Z) Z (A2 (F5 Z) Z (A2 (N4 Z Z) Z (A6 ?_))))
 refine k1 ?_
 refine B2 rfl (fun ht => ?_) (fun ht => ?_)
 ·exact absurd (A0 ht) (by omega)
 cases hl : linesS s with
 | none =>
  unfold linesR at hL
  rw [hl] at hL
  refine k5 (k1 (k2 ?_))
  refine A4 (A2 (A3 Z Z) Z (C3 (hL) Z Z Z ?_)); rintro _ rfl; refine A2 (A3 Z Z) Z (A2 (B3 Z Z) Z (A2 (B3 Z Z) Z (A2 (A5 Z Z) Z (A2 (A5 Z Z) Z (A6 ?_)))))
  refine k1 (k2 (k2 ?_))
  refine A4 (A2 (A3 Z Z) Z (A2 (F4 Z) Z (A6 ?_)))
  refine k1 ?_
  refine B2 rfl (fun ht => ?_) (fun ht => ?_)
  ·refine k2 ?_
   refine A4 (A2 (F6 Z) Z (E9 (B7 TySz.out Z Z Z Z Z Z) (A2 (A5 Z Z) Z (A6 ?_))))
   refine k1 ?_
   refine F8 (Sees.listB PatchHunk 3 phunkC 2 2 Z Z) ?_
   refine k10 (k11 ?_)
   exact B6 (rs := [pPatch K3, F0 4]) (Z5 rfl rfl rfl rfl rfl rfl rfl) (hfail rfl (by unfold o4; rw [if_neg h16, hl]))
  ·cases ht
 | some l =>
  unfold linesR at hL
  rw [hl] at hL
  obtain ⟨z1, z2⟩ := linesS_sz hl
  have hP := stparse_ok l (by omega) (fun t ht => by have := z2 t ht; omega)
  cases hp : V9 l with
  | none =>
   unfold n5 at hP
   rw [hp] at hP
   refine k5 (k1 (k2 ?_))
   refine A4 (A2 (A3 Z Z) Z (C3 (hL) Z Z Z ?_)); rintro _ rfl; refine A2 (A3 Z Z) Z (A2 (B3 Z Z) Z (A2 (B3 Z Z) Z (A2 (A5 Z Z) Z (A2 (A5 Z Z) Z (A6 ?_)))))
   refine k1 (k2 (k2 ?_))
   refine A4 (A2 (A3 Z Z) Z (A2 (F4 Z) Z (A6 ?_)))
   refine k1 ?_
   refine B2 rfl (fun ht => ?_) (fun ht => ?_)
   ·cases ht
   refine k5 (k1 (k2 ?_))
   refine A4 (A2 (A3 Z Z) Z (C3 (hP) Z Z Z ?_)); rintro _ rfl; refine A2 (A3 Z Z) Z (A2 (B3 Z Z) Z (A2 (B3 Z Z) Z (C9 (G3 6 Z) Z (E9 (B7 TySz.out Z Z Z Z Z Z) (A2 (A5 Z Z) Z (A6 ?_))))))
   refine k1 (k2 (k2 ?_))
   refine A4 (A2 (A3 Z Z) Z (A2 (F4 Z) Z (A6 ?_)))
   refine k1 ?_
   refine B2 rfl (fun ht => ?_) (fun ht => ?_)
   ·refine k2 ?_
    refine A4 (A2 (F6 Z) Z (E9 (B7 TySz.out Z Z Z Z Z Z) (A2 (A5 Z Z) Z (A6 ?_))))
    refine k1 ?_
    refine F8 (Sees.listB PatchHunk 3 phunkC 2 2 Z Z) ?_
    refine k10 (k11 ?_)
    exact B6 (rs := [pPatch K3, F0 4]) (Z5 rfl rfl rfl rfl rfl rfl rfl) (hfail rfl (by unfold o4; rw [if_neg h16, hl]; dsimp only; rw [hp]))
   ·cases ht
  | some p =>
   unfold n5 at hP
   rw [hp] at hP
   have hsz := parseP_sz hp
   have hF := uformat_ok p (by omega)
   have hS : o4 V9 s = if F7 p ≠ 0 ∨ J6 p ≠ s then (K3, 4) else (p, 0) := by unfold o4; rw [if_neg h16, hl]; dsimp only; rw [hp]
   obtain ⟨w, hw⟩ : ∃ w, w = if F7 p ≠ 0 then [] else J6 p := ⟨_, rfl⟩
   rw [← hw] at hF
   refine k5 (k1 (k2 ?_))
   refine A4 (A2 (A3 Z Z) Z (C3 (hL) Z Z Z ?_)); rintro _ rfl; refine A2 (A3 Z Z) Z (A2 (B3 Z Z) Z (A2 (B3 Z Z) Z (A2 (A5 Z Z) Z (A2 (A5 Z Z) Z (A6 ?_)))))
   refine k1 (k2 (k2 ?_))
   refine A4 (A2 (A3 Z Z) Z (A2 (F4 Z) Z (A6 ?_)))
   refine k1 ?_
   refine B2 rfl (fun ht => ?_) (fun ht => ?_)
   ·cases ht
   refine k5 (k1 (k2 ?_))
   refine A4 (A2 (A3 Z Z) Z (C3 (hP) Z Z Z ?_)); rintro _ rfl; refine A2 (A3 Z Z) Z (A2 (B3 Z Z) Z (A2 (B3 Z Z) Z (C9 (G3 6 Z) Z (E9 (B7 TySz.out Z Z Z Z Z Z) (A2 (A5 Z Z) Z (A6 ?_))))))
   refine k1 (k2 (k2 ?_))
   refine A4 (A2 (A3 Z Z) Z (A2 (F4 Z) Z (A6 ?_)))
   refine k1 ?_
   refine B2 rfl (fun ht => ?_) (fun ht => ?_)
   ·cases ht
   refine k5 (k1 (k2 (k2 ?_)))
   refine A4 (A2 (E4 Z Z Z) Z (C3 (hF) Z Z Z ?_)); rintro _ rfl; refine A2 (A3 Z Z) Z (A2 (B3 Z Z) Z (A2 (B3 Z Z) Z (A2 (A5 Z Z) Z (A2 (A5 Z Z) Z (A6 ?_)))))
   refine k1 (k2 ?_)
   refine A4 (A2 (A3 Z Z) Z (A2 (K7 Z Z) Z (A2 (A3 Z Z) Z (B0 Z Z Z Z (fun hg => by rw [hg]; exact A3 Z Z) ?_)))); refine B0 Z Z Z Z (fun hg => by rw [hg]; exact A3 Z Z) ?_; refine B0 Z Z Z Z (fun hg => by rw [hg]; exact l9 Z Z) ?_; refine A2 (B1 Z (fun h => by first | rfl | (rw [h]; rfl)) (fun h => by first | rfl | (rw [h]; rfl))) Z ?_; refine A6 ?_
   simp only [or_pick]
   refine k1 ?_
   by_cases hb : F7 p ≠ 0 ∨ J6 p ≠ s
   ·rw [if_pos hb] at hS
    refine B2 rfl (fun ht => ?_) (fun ht => ?_)
    rotate_left
    ·exfalso
     have h1 := A1 ht
     by_cases hc : F7 p = 0
     ·rw [if_neg (by simp [hc])] at hw
      rcases hb with h | h
      ·exact h hc
      ·exact h1 (.inr (by rw [hw]; exact h))
     ·exact h1 (.inl hc)
    refine k2 ?_
    refine A4 (A2 (F6 Z) Z (E9 (B7 TySz.out Z Z Z Z Z Z) (A2 (A5 Z Z) Z (A6 ?_))))
    refine k1 ?_
    refine F8 (Sees.listB PatchHunk 3 phunkC 2 2 Z Z) ?_
    refine k10 (k11 ?_)
    exact B6 (rs := [pPatch K3, F0 4]) (Z5 rfl rfl rfl rfl rfl rfl rfl) (hfail hS rfl)
   ·rw [if_neg hb] at hS
    have hc : F7 p = 0 := Decidable.not_not.1 fun h => hb (.inl h)
    have hws : J6 p = s := Decidable.not_not.1 fun h => hb (.inr h)
    rw [if_neg (by simp [hc])] at hw
    refine B2 rfl (fun ht => ?_) (fun ht => ?_)
    ·exfalso
     rcases A0 ht with h | h
     ·exact h hc
     ·exact h (by rw [hw]; exact hws)
    refine k5 (k1 (k2 ?_))
    refine A4 (A2 (E4 Z Z Z) Z (E9 (B7 TySz.out Z Z Z Z Z Z) (A2 (A5 Z Z) Z (A6 ?_))))
    refine k1 (k10 ?_)
    exact B6 (rs := [pPatch p, F0 0]) (Z5 rfl rfl rfl rfl rfl rfl rfl) (by unfold strictR; rw [hS])
set_option maxHeartbeats 1000000
theorem made_rt (on nn a b : Str) (c : Int) (hon : L2 on = true) (hnn : L2 nn = true) (ha : a.length ≤ 200) (hb : b.length ≤ 200) (hc : 0 ≤ c ∧ c ≤ 1048576) : ∃ hs : List PatchHunk,
  made12 on nn a b c false = (⟨on, nn, hs⟩, 0) ∧ F7 ⟨on, nn, hs⟩ = 0 ∧ szP hs ≤ 65536 ∧ (J6 ⟨on, nn, hs⟩).length ≤ 131072 ∧ s7 ⟨on, nn, hs⟩ a = (b, 0) := by
 obtain ⟨f1, h1⟩ := Y4 a
 obtain ⟨f2, h2⟩ := Y4 b
 obtain ⟨hf, _⟩ := scriptD_fit (D8 a) (D8 b) false (by omega) (by omega)
 have hm := made12_is on nn a b _ c hon hnn (by omega) (by omega) (by omega) hf
 have hz := hf.size hc.1 (linesOf_ok a).1 (linesOf_ok b).1
 have hch := hf.chain0 hc.1
 obtain ⟨hs, hhs⟩ : ∃ hs, hs = P8 (scriptD (D8 a) (D8 b) false) (D8 a) (D8 b) c := ⟨_, rfl⟩
 have hck := hm.chk
 rw [← hhs] at hz hch hck
 have o1 := A0 (show decide (1 ≤ on.length ∧ on.length ≤ 200) = true from hon)
 have o2 := A0 (show decide (1 ≤ nn.length ∧ nn.length ≤ 200) = true from hnn)
 have hw : (J6 ⟨on, nn, hs⟩).length ≤ (Y3 ⟨on, nn, hs⟩).flatten.length + szP hs := by
  unfold J6 writePs
  rw [List.flatten_append, List.length_append]
  have := Z3 hs
  show _ + ((hs).map S3).flatten.flatten.length ≤ _
  omega
 have hw2 : (Y3 ⟨on, nn, hs⟩).flatten.length ≤ 4 * on.length + 4 * nn.length + 14 := l5 ⟨on, nn, hs⟩
 refine ⟨hs, ?_, hck, by omega, by omega, apply14_chain hck (by omega) (by omega) hch⟩
 unfold made12
 rw [if_neg (by rw [hon, hnn]; decide), if_neg (by omega), hhs]
theorem parse_written {p : Patch} (hc : F7 p = 0) (hw : (J6 p).length ≤ 1048576) : FnOk Tryz.prog 26 [G6 (J6 p)] (fun rs => rs = [pPatch p, F0 0]) := by
 have h := stParse_ok (J6 p) hw
 unfold strictR at h
 rw [strictBy_of (fun p hg => parseP_back hg) hc] at h
 exact h
set_option maxHeartbeats 1000000
theorem lawWritten_ok (raw : List Int) (ctx : Int) : FnOk Tryz.prog 5 [W8 raw, F0 ctx] (fun rs => rs = [F9 true]) := by
 have hpk := pick14_ok raw ctx
 have hal := pickA_len raw
 have hbl := pickB_len raw
 obtain ⟨h3, h4⟩ := modOf_in ctx (n := 4) (by omega)
 obtain ⟨a, ha⟩ : ∃ a, a = pickA raw := ⟨_, rfl⟩
 obtain ⟨b, hb⟩ : ∃ b, b = pickB raw := ⟨_, rfl⟩
 rw [← ha] at hal hpk
 rw [← hb] at hbl hpk
 obtain ⟨hs, e, c, z, w, ap⟩ := made_rt [111] [110] a b (Z6 ctx 4) (by decide) (by decide) (by omega) (by omega) (by omega)
 have hM := umake_ok [111] [110] a b (Z6 ctx 4) false (by omega) (by omega)
 rw [e] at hM
 obtain ⟨p, hp⟩ : ∃ p : Patch, p = ⟨[111], [110], hs⟩ := ⟨_, rfl⟩
 rw [← hp] at hM c w ap
 have z' : szP p.Hunks ≤ 65536 := by rw [hp]; exact z
 have hF := uformat_ok p (by omega)
 rw [c, if_neg (by simp)] at hF
 have hP := parse_written c (by omega)
 have hA := papply14_ok p a (by omega) (by omega)
 rw [ap] at hA
 obtain ⟨t, ht⟩ : ∃ t, t = J6 p := ⟨_, rfl⟩
 rw [← ht] at hF hP
 obtain ⟨q, hq⟩ : ∃ q, q = (pickM raw ctx).1 := ⟨_, rfl⟩
 rw [← hq] at hpk
 refine FnOk.intro Tryz.func5 (by decide) Z Z Z Z ?_
 refine k2 ?_
 refine A4 (A2 (A5 Z Z) Z (A6 ?_))
 refine k1 (k2 ?_)
 refine A4 (A2 (A3 Z Z) Z (A2 (A3 Z Z) Z (C3 (hpk) Z Z Z ?_))); rintro _ rfl; refine A2 (A3 Z Z) Z (A2 (B3 Z Z) Z (A2 (B3 Z Z) Z (A2 (B3 Z Z) Z (C9 (G3 5 Z) Z (E9 (B7 TySz.out Z Z Z Z Z Z) (A2 (A5 Z Z) Z (A2 (A5 Z Z) Z (A6 ?_))))))))
 refine k1 (k2 ?_)
 refine A4 (A2 (A3 Z Z) Z (A2 (A3 Z Z) Z (A2 (A3 Z Z) Z (C3 (mod_ok ctx 4 (by omega) (by omega)) Z Z Z ?_)))); rintro _ rfl; refine C3 (hM) Z Z Z ?_; rintro _ rfl; refine A2 (A3 Z Z) Z (A2 (B3 Z Z) Z (A2 (B3 Z Z) Z (C9 (G3 8 Z) Z (E9 (B7 TySz.out Z Z Z Z Z Z) (A2 (A5 Z Z) Z (A6 ?_))))))
 refine k1 (k2 ?_)
 refine A4 (A2 (E4 Z Z Z) Z (C3 (hF) Z Z Z ?_)); rintro _ rfl; refine A2 (A3 Z Z) Z (A2 (B3 Z Z) Z (A2 (B3 Z Z) Z (A2 (A5 Z Z) Z (A2 (A5 Z Z) Z (A6 ?_)))))
 refine k1 (k2 ?_)
 refine A4 (A2 (A3 Z Z) Z (C3 (hP) Z Z Z ?_)); rintro _ rfl; refine A2 (A3 Z Z) Z (A2 (B3 Z Z) Z (A2 (B3 Z Z) Z (C9 (G3 12 Z) Z (E9 (B7 TySz.out Z Z Z Z Z Z) (A2 (A5 Z Z) Z (A6 ?_))))))
 refine k1 (k2 ?_)
 refine A4 (A2 (E4 Z Z Z) Z (A2 (A3 Z Z) Z (C3 (hA) Z Z Z ?_))); rintro _ rfl; refine A2 (A3 Z Z) Z (A2 (B3 Z Z) Z (A2 (B3 Z Z) Z (A2 (A5 Z Z) Z (A2 (A5 Z Z) Z (A6 ?_)))))
 refine k1 (k2 ?_)
 refine A4 (A2 (A3 Z Z) Z (A2 (I8 Z Z) Z (A2 (A3 Z Z) Z (B0 Z Z Z Z (fun hg => by rw [hg]; exact A3 Z Z) ?_)))); refine B0 Z Z Z Z (fun hg => by rw [hg]; exact I8 Z Z) ?_; refine A2 (B1 Z (fun h => by first | rfl | (rw [h]; rfl)) (fun h => by first | rfl | (rw [h]; rfl))) Z ?_; refine A2 (A3 Z Z) Z (B0 Z Z Z Z (fun hg => by rw [hg]; exact A3 Z Z) ?_); refine B0 Z Z Z Z (fun hg => by rw [hg]; exact I8 Z Z) ?_; refine A2 (B1 Z (fun h => by first | rfl | (rw [h]; rfl)) (fun h => by first | rfl | (rw [h]; rfl))) Z ?_; refine A2 (A3 Z Z) Z (B0 Z Z Z Z (fun hg => by rw [hg]; exact A3 Z Z) ?_); refine B0 Z Z Z Z (fun hg => by rw [hg]; exact I8 Z Z) ?_; refine A2 (B1 Z (fun h => by first | rfl | (rw [h]; rfl)) (fun h => by first | rfl | (rw [h]; rfl))) Z ?_; refine A2 (A3 Z Z) Z (B0 Z Z Z Z (fun hg => by rw [hg]; exact A3 Z Z) ?_); refine B0 Z Z Z Z (fun hg => by rw [hg]; exact A3 Z Z) ?_; refine B0 Z Z Z Z (fun hg => by rw [hg]; exact d8 Z Z) ?_; refine A2 (B1 Z (fun h => by first | rfl | (rw [h]; rfl)) (fun h => by first | rfl | (rw [h]; rfl))) Z ?_; refine A2 (A3 Z Z) Z (B0 Z Z Z Z (fun hg => by have hq := hg; (try simp at hq); rw [hg]; exact G9 (awake14_ok) Z Z) ?_); refine A2 (B1 Z (fun h => by first | rfl | (rw [h]; rfl)) (fun h => by first | rfl | (rw [h]; rfl))) Z ?_; refine A2 (A5 Z Z) Z (A6 ?_)
 refine k1 (k10 ?_)
 exact B6 (H1 rfl rfl rfl) (by simp)
end Go.Proofs.YtgejaedjnbjpoaaGreatDoor
