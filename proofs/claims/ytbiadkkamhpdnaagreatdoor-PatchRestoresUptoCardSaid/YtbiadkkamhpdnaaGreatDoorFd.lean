/- Walks of the program's functions. -/
import Derived.Test.YtbiadkkamhpdnaaGreatDoorFc
import Derived.Test.YtbiadkkamhpdnaaGreatDoorFs
import Derived.Test.YtbiadkkamhpdnaaGreatDoorFb
set_option linter.unusedSimpArgs false
namespace Go.Proofs.YtbiadkkamhpdnaaGreatDoor
open Go Go.AL
set_option maxRecDepth 100000
set_option maxHeartbeats 1000000
end Go.Proofs.YtbiadkkamhpdnaaGreatDoor
namespace Go.Proofs.YtbiadkkamhpdnaaGreatDoor
open Go Go.AL
set_option maxRecDepth 100000
end Go.Proofs.YtbiadkkamhpdnaaGreatDoor
namespace Go.Proofs.YtbiadkkamhpdnaaGreatDoor
open Go Go.AL
set_option maxRecDepth 100000
end Go.Proofs.YtbiadkkamhpdnaaGreatDoor
namespace Go.Proofs.YtbiadkkamhpdnaaGreatDoor
open Go Go.AL
set_option maxRecDepth 100000
set_option maxHeartbeats 1000000
end Go.Proofs.YtbiadkkamhpdnaaGreatDoor
namespace Go.Proofs.YtbiadkkamhpdnaaGreatDoor
open Go Go.AL
set_option maxRecDepth 100000
def hunkTs (hs : List PatchHunk) (r : Nat) : List TC := (flatC 3 phunkC hs).set (r * 3 + 2) (.mut 703)
def hunkLs (hs : List PatchHunk) (r : Nat) : List PatchLine := ((hs[r]?).map (·.Lines)).getD []
theorem flatC_snoc {α : Type} {ec : Nat} {c : α → Nat → Cell} : ∀ (xs : List α) (x : α), flatC ec c (xs ++ [x]) = flatC ec c xs ++ flatC ec c [x]
  | [], x => rfl
  | y :: ys, x => by
    have ih := flatC_snoc (ec := ec) (c := c) ys x
    simp only [List.cons_append, flatC] at ih ⊢
    rw [ih]; simp [List.append_assoc]
theorem hunkTs_snoc {hs : List PatchHunk} {r : Nat} (h : PatchHunk) (hr : r ≠ hs.length) : hunkTs (hs ++ [h]) r = hunkTs hs r ++ flatC 3 phunkC [h] := by
  unfold hunkTs
  rw [flatC_snoc]
  have hl := flatC_length (ec := 3) (c := phunkC) hs
  by_cases h1 : r < hs.length
  · rw [List.set_append_left _ _ (by omega)]
  · have h2 : (flatC 3 phunkC hs).set (r * 3 + 2) (TC.mut 703) = flatC 3 phunkC hs := List.set_eq_of_length_le (by omega)
    have h3 : (flatC 3 phunkC hs ++ flatC 3 phunkC [h]).set (r * 3 + 2) (TC.mut 703) = flatC 3 phunkC hs ++ flatC 3 phunkC [h] := List.set_eq_of_length_le (by rw [List.length_append, flatC_length, flatC_length, List.length_singleton]; omega)
    rw [h2, h3]
theorem hunkTs_here (hs : List PatchHunk) (h : PatchHunk) : hunkTs (hs ++ [h]) hs.length = hunkTs hs hs.length ++ [.p (phunkC h 0), .p (phunkC h 1), .mut 703] := by
  unfold hunkTs
  rw [flatC_snoc, List.set_eq_of_length_le (l := flatC 3 phunkC hs) (by rw [flatC_length]; omega), List.set_append_right _ _ (by rw [flatC_length]; omega), flatC_length, show hs.length * 3 + 2 - hs.length * 3 = 2 by omega]
  rfl
theorem hunkLs_snoc {hs : List PatchHunk} {r : Nat} (h : PatchHunk) (hr : r ≠ hs.length) : hunkLs (hs ++ [h]) r = hunkLs hs r := by
  unfold hunkLs
  by_cases h1 : r < hs.length
  · rw [List.getElem?_append_left h1]
  · rw [List.getElem?_eq_none (l := hs) (by omega), List.getElem?_eq_none (by rw [List.length_append, List.length_singleton]; omega)]
theorem hunkLs_here (hs : List PatchHunk) (h : PatchHunk) : hunkLs (hs ++ [h]) hs.length = h.Lines := by unfold hunkLs; simp
theorem flatC_p {α : Type} {ec : Nat} {c : α → Nat → Cell} : ∀ (xs : List α), ∀ t ∈ flatC ec c xs, ∃ z, t = TC.p z
  | [], t, h => by cases h
  | x :: xs, t, h => by
    unfold flatC at h
    rcases List.mem_append.1 h with h | h
    · obtain ⟨z, _, rfl⟩ := List.mem_map.1 h
      exact ⟨_, rfl⟩
    · exact flatC_p xs t h
theorem hunkTs_mem {hs : List PatchHunk} {r : Nat} : ∀ t ∈ hunkTs hs r, (∃ z, t = TC.p z) ∨ t = .mut 703 := fun t h => by
  rcases List.mem_or_eq_of_mem_set h with h | h
  · exact .inl (flatC_p _ t h)
  · exact .inr h
theorem hunkTs_forget (hs : List PatchHunk) (r : Nat) {k : Nat} (hk : Nat.beq 703 k = false) : (hunkTs hs r).map (TC.forget k) = hunkTs hs r := by
  conv => rhs; rw [← List.map_id (hunkTs hs r)]
  refine List.map_congr_left fun t ht => ?_
  rcases hunkTs_mem t ht with ⟨z, rfl⟩ | rfl
  · rfl
  · simp [TC.forget, hk]
theorem hunkTs_freeze (hs : List PatchHunk) (r : Nat) {k : Nat} (hk : Nat.beq 703 k = false) (α : Type) (ec : Nat) (c : α → Nat → Cell) (xs : List α) : (hunkTs hs r).map (TC.freeze k α ec c xs) = hunkTs hs r := by
  conv => rhs; rw [← List.map_id (hunkTs hs r)]
  refine List.map_congr_left fun t ht => ?_
  rcases hunkTs_mem t ht with ⟨z, rfl⟩ | rfl
  · rfl
  · simp [TC.freeze, hk]
theorem hunkTs_free (hs : List PatchHunk) (r : Nat) {k : Nat} (hk : Nat.beq 703 k = false) : (hunkTs hs r).all (TC.free k) = true := by
  rw [List.all_eq_true]
  intro t ht
  rcases hunkTs_mem t ht with ⟨z, rfl⟩ | rfl
  · rfl
  · simp [TC.free, hk]
theorem flatC_map {α : Type} {ec : Nat} {c : α → Nat → Cell} (f : TC → TC) (hf : ∀ z, f (.p z) = .p z) (xs : List α) : (flatC ec c xs).map f = flatC ec c xs := by
  conv => rhs; rw [← List.map_id (flatC ec c xs)]
  refine List.map_congr_left fun t ht => ?_
  obtain ⟨z, rfl⟩ := flatC_p xs t ht
  exact hf z
theorem flatC_free {α : Type} {ec : Nat} {c : α → Nat → Cell} (k : Nat) (xs : List α) : (flatC ec c xs).all (TC.free k) = true := by
  rw [List.all_eq_true]
  intro t ht
  obtain ⟨z, rfl⟩ := flatC_p xs t ht
  rfl
theorem hunkTs_close {hs : List PatchHunk} {r : Nat} (h : r < hs.length) : (hunkTs hs r).map (TC.freeze 703 PatchLine 2 plineC (hunkLs hs r)) = flatC 3 phunkC hs := by
  unfold hunkTs
  rw [List.map_set, flatC_map _ (fun _ => rfl)]
  have hg := flatC_get (c := phunkC) hs r 2 hs[r] (List.getElem?_eq_getElem h) (show 2 < 3 by decide)
  have e : TC.freeze 703 PatchLine 2 plineC (hunkLs hs r) (.mut 703) = .p (phunkC hs[r] 2) := by
    unfold hunkLs
    rw [List.getElem?_eq_getElem h]; rfl
  rw [e]
  refine List.ext_getElem? fun i => ?_
  rw [List.getElem?_set]
  by_cases hi : r * 3 + 2 = i
  · subst hi
    rw [if_pos rfl, hg, if_pos (by rw [flatC_length]; omega)]
  · rw [if_neg hi]
theorem hunkTs_off {hs : List PatchHunk} {r : Nat} (h : hs.length ≤ r) : hunkTs hs r = flatC 3 phunkC hs := List.set_eq_of_length_le (by rw [flatC_length]; omega)
theorem getO_all {Q : Nat → Ob → Prop} : ∀ {ob : Obs}, (∀ p ∈ ob, Q p.1 p.2) → ∀ i o, getO ob i = some o → Q i o
  | [], _, _, _, h => by cases h
  | (j, x) :: r, hq, i, o, h => by
    unfold getO at h
    cases hb : Nat.beq j i
    · rw [hb] at h; exact getO_all (fun p hp => hq p (List.mem_cons_of_mem _ hp)) i o h
    · rw [hb] at h; cases h
      have e : j = i := Nat.eq_of_beq_eq_true hb
      subst e
      exact hq (j, x) List.mem_cons_self
end Go.Proofs.YtbiadkkamhpdnaaGreatDoor
namespace Go.Proofs.YtbiadkkamhpdnaaGreatDoor
open Go Go.AL
set_option maxRecDepth 100000
theorem retsC2 {P : Program} {fn : Func} {fr : Fr} {ob : Obs} {t t' : Tmp} {k n : Nat} {tt : TypeId} {ts : List TC} {s' : S1} [hty : TyAgg P tt n] (hr : fn.results = #[.cell t tt, .tmp t']) (ht : getT fr t = some (.s (.one (.ref k 0)))) (hk : getO ob k = some (.box ts)) (hn : ts.length = n)
    (ht' : getT fr t' = some (.s s')) : RetS P fn fr ob [.agg ts, s'] := by
  unfold RetS
  intro S G a w h
  obtain ⟨b, hg, hu⟩ := h.slot ht
  obtain ⟨b', vs, tt', hg', hh, ha⟩ := h.box hk
  rw [hg] at hg'; cases hg'
  have h2 : (loadVar tt ⟨b, 0, none⟩).run P w = .ok (.agg (List.toArray vs)) w := run_loadVar_agg (ht := hty) (by rw [← ha.length, hn]) (fun j z hz => by rw [Nat.zero_add]; exact cell_of_heap hh (by simpa using hz))
  rw [Array.getD_eq_getD_getElem?] at hu
  exact ⟨_, by simp [results, hr, hu, asAddr, h2], [_, _], rfl, ⟨vs, rfl, ha⟩, h.slot ht', trivial⟩
set_option maxHeartbeats 1000000
theorem rmakeN_met (on nn a b : Str) (ctx : Int) (ha : a.length ≤ 4096) (hb : b.length ≤ 4096) (r : Nat) (hr : r < (made12 on nn a b ctx false).1.Hunks.length) :
    AL.Met Tryz.prog 63 [(pStr on).s1, (pStr nn).s1, (pStr a).s1, (pStr b).s1, (pInt ctx).s1, (pBool false).s1] [] [] []
      (fun rs ob' => rs = [.agg [.p (.v (.string ⟨on.toArray⟩)), .p (.v (.string ⟨nn.toArray⟩)), .mut 702], .one (.p (.v (.int .i64 0)))] ∧ ob' = [(702, .growT 29 (made12 on nn a b ctx false).1.Hunks.length 3 (hunkTs (made12 on nn a b ctx false).1.Hunks r)), (703, .grow 36 PatchLine 2 plineC (hunkLs (made12 on nn a b ctx false).1.Hunks r))]) := by
  obtain ⟨x, hx⟩ : ∃ x, x = linesOf a := ⟨_, rfl⟩
  obtain ⟨y, hy⟩ : ∃ y, y = linesOf b := ⟨_, rfl⟩
  obtain ⟨f1, f2⟩ := lines_flat a
  obtain ⟨f3, f4⟩ := lines_flat b
  rw [← hx] at f1 f2
  rw [← hy] at f3 f4
  have hsa := splitOf_small ha
  have hsb := splitOf_small hb
  rw [← hx] at hsa
  rw [← hy] at hsb
  have hxm : ∀ s ∈ x, s ∈ namesOf [x, y] := fun s hs => namesOf_mem _ _ x (by simp) hs
  have hym : ∀ s ∈ y, s ∈ namesOf [x, y] := fun s hs => namesOf_mem _ _ y (by simp) hs
  have i1 : (idsOf (namesOf [x, y]) x).length = x.length := by simp [idsOf]
  have i2 : (idsOf (namesOf [x, y]) y).length = y.length := by simp [idsOf]
  have hs0 := script_fit x y (by omega) (by omega)
  have hs0l := scriptOf_len x y
  obtain ⟨d, hd0⟩ : ∃ d, d = false := ⟨_, rfl⟩
  rw [← hd0] at hr ⊢
  have hdf := (scriptD_fit x y d (by omega) (by omega)).1
  have hdl := scriptD_len x y d (by omega) (by omega)
  obtain ⟨l, hl⟩ : ∃ l, l = scriptD x y d := ⟨_, rfl⟩
  rw [← hl] at hdf hdl
  have hmk : made12 on nn a b ctx d = if nameOk on = false ∨ nameOk nn = false then (patch0, 120) else if ctx < 0 ∨ 1048576 < ctx then (patch0, 3) else (⟨on, nn, hunksOf l x y ctx⟩, 0) := by rw [hl, hx, hy]; rfl
  have hxl : x.length ≤ 4096 := by omega
  have hyl : y.length ≤ 4096 := by omega
  refine AL.Met.intro Tryz.func63 (by decide) rfl rfl rfl ?_
  refine k2 ?_
  refine c_region ?_; refine l_effv (f_alloc 12 rfl) rfl ?_; refine l_neu (n_assign rfl rfl) rfl ?_; refine l_nil ?_
  refine k1 ?_; refine k2 ?_; refine k2 ?_
  refine c_region ?_; refine l_neu (n_move rfl rfl) rfl ?_; refine l_call (rname_ok on) rfl rfl rfl ?_; rintro _ rfl; refine l_neu (n_not rfl) rfl ?_; refine l_neu (n_move rfl rfl) rfl ?_; refine l_guard rfl rfl rfl rfl (fun hg => by rw [hg]; exact n_move rfl rfl) ?_; refine l_guard rfl rfl rfl rfl (fun hg => by have hq := hg; (try simp at hq); rw [hg]; exact n_call1 (rname_ok nn) rfl rfl) ?_; refine l_guard rfl rfl rfl rfl (fun hg => by rw [hg]; exact n_not rfl) ?_; refine l_neu (n_pick_bool rfl (fun h => by first | rfl | (rw [h]; rfl)) (fun h => by first | rfl | (rw [h]; rfl))) rfl ?_; refine l_nil ?_
  refine k1 ?_
  refine c_cond rfl (fun ht => ?_) (fun ht => ?_)
  · simp only [notB, or_pick] at ht
    have h := of_decide_eq_true ht
    rw [hmk, if_pos h] at hr
    exact absurd hr (Nat.not_lt_zero _)
  simp only [notB, or_pick] at ht
  have h := of_decide_eq_false ht
  rw [if_neg h] at hmk
  have hn1 : nameOk on = true := by cases q : nameOk on <;> simp [q] at h ⊢
  have hn2 : nameOk nn = true := by cases q : nameOk nn <;> simp [q] at h ⊢
  refine k5 ?_; refine k1 ?_; refine k2 ?_
  refine c_region ?_; refine l_neu (n_move rfl rfl) rfl ?_; refine l_call (rsplit_ok a (by omega)) rfl rfl rfl ?_; rintro _ rfl; refine l_neu (n_move rfl rfl) rfl ?_; refine l_neu (n_extract rfl rfl) rfl ?_; refine l_neu (n_extract rfl rfl) rfl ?_; refine l_neu (n_assign rfl rfl) rfl ?_; refine l_neu (n_assign rfl rfl) rfl ?_; refine l_nil ?_
  rw [hsa]
  refine k1 ?_; refine k2 ?_; refine k2 ?_
  refine c_region ?_; refine l_neu (n_move rfl rfl) rfl ?_; refine l_neu (n_neq rfl rfl) rfl ?_; refine l_nil ?_
  refine k1 ?_
  refine c_cond rfl (fun ht => ?_) (fun ht => ?_)
  · cases ht
  refine k5 ?_; refine k1 ?_; refine k2 ?_
  refine c_region ?_; refine l_neu (n_move rfl rfl) rfl ?_; refine l_call (rsplit_ok b (by omega)) rfl rfl rfl ?_; rintro _ rfl; refine l_neu (n_move rfl rfl) rfl ?_; refine l_neu (n_extract rfl rfl) rfl ?_; refine l_neu (n_extract rfl rfl) rfl ?_; refine l_neu (n_assign rfl rfl) rfl ?_; refine l_neu (n_assign rfl rfl) rfl ?_; refine l_nil ?_
  rw [hsb]
  refine k1 ?_; refine k2 ?_; refine k2 ?_
  refine c_region ?_; refine l_neu (n_move rfl rfl) rfl ?_; refine l_neu (n_neq rfl rfl) rfl ?_; refine l_nil ?_
  refine k1 ?_
  refine c_cond rfl (fun ht => ?_) (fun ht => ?_)
  · cases ht
  refine k5 ?_; refine k1 ?_; refine k2 ?_
  refine c_region ?_; refine l_neu (n_move rfl rfl) rfl ?_; refine l_neu (n_move rfl rfl) rfl ?_; refine l_call (rlines9_ok x y hxl hyl) rfl rfl rfl ?_; rintro _ rfl; refine l_neu (n_assign rfl rfl) rfl ?_; refine l_nil ?_
  rw [show walkOf (idsOf (namesOf [x, y]) x) (idsOf (namesOf [x, y]) y) = scriptOf x y from rfl]
  refine then_normal ?_
  refine c_cut [(0, sStr on), (1, sStr nn), (4, sInt ctx), (5, sVal (.bool d)), (12, .s (.one (.ref 12 0))), (14, sList Str 1 strC x), (16, sList Str 1 strC y), (17, sList Change 4 changeC (scriptOf x y))] [(12, .box [.p (.v (.string ⟨#[]⟩)), .p (.v (.string ⟨#[]⟩)), .p (.v (.slice none 0 0))])] (Sees.of ⟨le1 rfl, le1 rfl, le1 rfl, le1 rfl, le1 rfl, le1 rfl, le1 rfl, le1 rfl, trivial⟩ ⟨rfl, trivial⟩) ?_
  refine c_join [(0, sStr on), (1, sStr nn), (4, sInt ctx), (12, .s (.one (.ref 12 0))), (14, sList Str 1 strC x), (16, sList Str 1 strC y), (17, sList Change 4 changeC l)] [(12, .box [.p (.v (.string ⟨#[]⟩)), .p (.v (.string ⟨#[]⟩)), .p (.v (.slice none 0 0))])] ?_ ?_
  · refine k2 ?_
    refine c_region ?_; refine l_neu (n_move rfl rfl) rfl ?_; refine l_nil ?_
    refine k1 ?_
    refine c_cond rfl (fun ht => ?_) (fun ht => ?_)
    · have hd : d = true := ht
      rw [hd0] at hd; cases hd
    · have hd : d = false := ht
      have hl2 : l = scriptOf x y := by rw [hl, hd]; rfl
      rw [← hl2]
      refine k5 ?_; refine k1 ?_
      exact Sees.of ⟨le1 rfl, le1 rfl, le1 rfl, le1 rfl, le1 rfl, le1 rfl, le1 rfl, trivial⟩ ⟨rfl, trivial⟩
  refine k2 ?_
  refine c_region ?_; refine l_neu (n_move rfl rfl) rfl ?_; refine l_neu (n_move rfl rfl) rfl ?_; refine l_neu (n_len rfl (.pure _ _ _ _)) rfl ?_; refine l_neu (n_move rfl rfl) rfl ?_; refine l_neu (n_len rfl (.pure _ _ _ _)) rfl ?_; refine l_neu (n_move rfl rfl) rfl ?_; refine l_call (group_walk l x.length y.length ctx (by omega)) rfl rfl rfl ?_; rintro _ rfl; refine l_neu (n_move rfl rfl) rfl ?_; refine l_neu (n_extract rfl rfl) rfl ?_; refine l_neu (n_extract rfl rfl) rfl ?_; refine l_neu (n_assign rfl rfl) rfl ?_; refine l_neu (n_assign rfl rfl) rfl ?_; refine l_nil ?_
  refine k1 ?_; refine k2 ?_; refine k2 ?_
  by_cases hcx : ctx < 0 ∨ 1048576 < ctx
  · rw [hmk, if_pos hcx] at hr
    exact absurd hr (Nat.not_lt_zero _)
  rw [group_fit hdf hcx]
  rw [if_neg hcx] at hmk
  have hmd := made12_is on nn a b l ctx hn1 hn2 hcx ha hb (by rw [← hx, ← hy]; exact hdf)
  have hsc := hdf.ok
  have hgo := groupTo_ok hdf.ok (by omega) (ctx := ctx) l.length (Nat.le_refl _)
  have hgl := (groupTo_len l x.length ctx l.length).1
  have hho : hunksOf l x y ctx = (groupTo l x.length ctx l.length).map (hunkOfG l x y) := rfl
  obtain ⟨g, hg⟩ : ∃ g, g = groupTo l x.length ctx l.length := ⟨_, rfl⟩
  have hscl := hdl
  rw [← hg] at hgo hgl hho ⊢
  refine c_region ?_; refine l_neu (n_move rfl rfl) rfl ?_; refine l_neu (n_neq rfl rfl) rfl ?_; refine l_nil ?_
  refine k1 ?_
  refine c_cond rfl (fun ht => ?_) (fun ht => ?_)
  · cases ht
  refine c_cut [(0, sStr on), (1, sStr nn), (12, .s (.one (.ref 12 0))), (14, sList Str 1 strC x), (16, sList Str 1 strC y), (17, sList Change 4 changeC l), (19, sList Hunk 6 hunkC g)] [(12, .box [.p (.v (.string ⟨#[]⟩)), .p (.v (.string ⟨#[]⟩)), .p (.v (.slice none 0 0))])] (Sees.of ⟨le1 rfl, le1 rfl, le1 rfl, le1 rfl, le1 rfl, le1 rfl, le1 rfl, trivial⟩ ⟨rfl, trivial⟩) ?_
  refine k5 ?_; refine k1 ?_; refine k2 ?_
  refine c_region ?_; refine l_neu (n_move rfl rfl) rfl ?_; refine l_neu (n_move rfl rfl) rfl ?_; refine l_neu (n_build rfl) rfl ?_; refine l_effv (f_alloc 20 rfl) rfl ?_; refine l_eff (e_store_ref TySz.out rfl rfl rfl rfl rfl rfl) ?_; refine l_nil ?_
  refine k1 ?_; refine k2 ?_; refine k2 ?_
  refine c_sees (Sees.adoptBG 702 PatchHunk 3 phunkC 29 (kb := 20) (o := 2) rfl rfl rfl) ?_
  refine c_sees (Sees.toGT 702 rfl) ?_
  refine c_sees (Sees.nilObj 703 PatchLine 2 plineC 36 rfl) ?_
  skip
  refine c_region ?_; refine l_neu (n_assign rfl rfl) rfl ?_; refine l_nil ?_
  refine k1 ?_; refine k3 ?_
  refine c_while (X := Nat) (fun k => ([(12, .s (.one (.ref 12 0))), (14, sList Str 1 strC x), (16, sList Str 1 strC y), (17, sList Change 4 changeC l), (19, sList Hunk 6 hunkC g), (20, .s (.one (.ref 20 0))), (21, sInt k)], [(12, .box [.p (.v (.string ⟨#[]⟩)), .p (.v (.string ⟨#[]⟩)), .p (.v (.slice none 0 0))]), (20, .box [.p (.v (.string ⟨on.toArray⟩)), .p (.v (.string ⟨nn.toArray⟩)), .mut 702]), (702, .growT 29 ((g.take k).map (hunkOfG l x y)).length 3 (hunkTs ((g.take k).map (hunkOfG l x y)) r)), (703, .grow 36 PatchLine 2 plineC (hunkLs ((g.take k).map (hunkOfG l x y)) r))])) (fun k => k ≤ g.length) (fun k => g.length - k) 0 (Nat.zero_le _) ?_ ?_
  · have e0 : hunkLs (((g.take 0)).map (hunkOfG l x y)) r = [] := by simp [hunkLs]
    dsimp only
    rw [e0]
    exact Sees.of ⟨le1 rfl, le1 rfl, le1 rfl, le1 rfl, le1 rfl, le1 rfl, le1 rfl, trivial⟩ ⟨rfl, rfl, rfl, rfl, trivial⟩
  intro k hk
  dsimp only at hk ⊢
  refine k2 ?_; refine k2 ?_
  refine c_region ?_; refine l_neu (n_move rfl rfl) rfl ?_; refine l_neu (n_move rfl rfl) rfl ?_; refine l_neu (n_len rfl (.pure _ _ _ _)) rfl ?_; refine l_neu (n_lss rfl rfl) rfl ?_; refine l_nil ?_
  refine k1 ?_
  refine c_cond rfl (fun ht => ?_) (fun ht => ?_)
  · have hlt : k < g.length := by have := of_decide_eq_true ht; omega
    have hv : g[k]? = some g[k] := by simp [hlt]
    have hq := hgo _ (List.getElem_mem hlt)
    have htk : (g.take (k + 1)).map (hunkOfG l x y) = (g.take k).map (hunkOfG l x y) ++ [hunkOfG l x y g[k]] := by rw [List.take_succ_eq_append_getElem hlt, List.map_append]; rfl
    obtain ⟨q, hqe⟩ : ∃ q, q = g[k] := ⟨_, rfl⟩
    rw [← hqe] at hv hq htk
    obtain ⟨hs, hhs⟩ : ∃ hs, hs = (g.take k).map (hunkOfG l x y) := ⟨_, rfl⟩
    have hhl : hs.length = k := by rw [hhs, List.length_map, List.length_take]; omega
    rw [← hhs] at htk ⊢
    obtain ⟨a, b, q1, q2, q3, q4, q5, q6, q7, q8, q9, q10⟩ := hq
    have hgb := hsc.get b q4
    refine k5 ?_; refine k1 ?_; refine k2 ?_; refine k3 ?_; refine k2 ?_
    refine c_region_alloc 13 22 (by kernel_rfl) (by kernel_rfl) rfl (by show ((hunkTs hs r).all (TC.free 22) && true) = true; rw [hunkTs_free hs r rfl]; rfl) rfl ?_; refine b_neu (n_move rfl rfl) rfl (n_move rfl rfl) ?_; refine b_neu (n_move rfl rfl) rfl (n_move rfl rfl) ?_; refine b_neu (n_indexAddr rfl (.pure _ _ _ _) rfl (by omega) hv) rfl (n_indexAddr rfl (.pure _ _ _ _) rfl (by omega) hv) ?_; refine b_neu (n_field_eref rfl) rfl (n_field_eref rfl) ?_; refine b_neu (n_field_eref rfl) rfl (n_field_eref rfl) ?_; refine b_neu (n_load_eref rfl rfl) rfl (n_load_eref rfl rfl) ?_; refine b_neu (n_move rfl rfl) rfl (n_move rfl rfl) ?_; refine b_neu (n_move rfl rfl) rfl (n_move rfl rfl) ?_; refine b_neu (n_indexAddr rfl (.pure _ _ _ _) rfl (by omega) hv) rfl (n_indexAddr rfl (.pure _ _ _ _) rfl (by omega) hv) ?_; refine b_neu (n_field_eref rfl) rfl (n_field_eref rfl) ?_; refine b_neu (n_field_eref rfl) rfl (n_field_eref rfl) ?_; refine b_neu (n_load_eref rfl rfl) rfl (n_load_eref rfl rfl) ?_; refine b_neu (n_build rfl) rfl (n_build rfl) ?_; refine b_nil rfl ?_; refine d_eff (e_store_ref TySz.out rfl rfl rfl rfl rfl rfl) rfl ?_; refine d_nil ?_
    refine k1 ?_; refine k2 ?_
    refine c_sees (Sees.adoptBG 701 PatchLine 2 plineC 36 (kb := 22) (o := 2) rfl rfl (by show ((hunkTs hs r).all (TC.free 701) && true) = true; rw [hunkTs_free hs r rfl]; rfl)) ?_
    refine c_region ?_; refine l_neu (n_field_ref rfl) rfl ?_; refine l_neu (n_load_ref rfl rfl rfl) rfl ?_; refine l_neu (n_assign rfl rfl) rfl ?_; refine l_nil ?_
    refine k1 ?_; refine k2 ?_; refine k2 ?_
    refine c_region ?_; refine l_neu (n_move rfl rfl) rfl ?_; refine l_neu (n_move rfl rfl) rfl ?_; refine l_neu (n_indexAddr rfl (.pure _ _ _ _) rfl (by omega) hv) rfl ?_; refine l_neu (n_field_eref rfl) rfl ?_; refine l_neu (n_load_eref rfl rfl) rfl ?_; refine l_neu (n_assign rfl rfl) rfl ?_; refine l_nil ?_
    refine k1 ?_; refine k3 ?_
    refine c_while (X := Nat) (fun t => ([(12, .s (.one (.ref 12 0))), (14, sList Str 1 strC x), (16, sList Str 1 strC y), (17, sList Change 4 changeC l), (19, sList Hunk 6 hunkC g), (20, .s (.one (.ref 20 0))), (21, sInt k), (22, .s (.one (.ref 22 0))), (23, sInt (posTo l q.Old.From a t)), (24, sInt ((a + t : Nat) : Int))], [(12, .box [.p (.v (.string ⟨#[]⟩)), .p (.v (.string ⟨#[]⟩)), .p (.v (.slice none 0 0))]), (20, .box [.p (.v (.string ⟨on.toArray⟩)), .p (.v (.string ⟨nn.toArray⟩)), .mut 702]), (702, .growT 29 hs.length 3 (hunkTs hs r)), (703, .grow 36 PatchLine 2 plineC (hunkLs hs r)), (22, .box [.p (.v (.int .i64 q.Old.From)), .p (.v (.int .i64 q.New.From)), .mut 701]), (701, .grow 36 PatchLine 2 plineC (madeTo l x y q.Old.From a t))])) (fun t => a + t ≤ b + 1) (fun t => b + 1 - (a + t)) 0 (by omega) ?_ ?_
    · have e1 : posTo l q.Old.From a 0 = q.Old.From := if_pos rfl
      rw [e1, show ((a + 0 : Nat) : Int) = q.First by rw [q1]; simp]
      exact Sees.of ⟨le1 rfl, le1 rfl, le1 rfl, le1 rfl, le1 rfl, le1 rfl, le1 rfl, le1 rfl, le1 rfl, le1 rfl, trivial⟩ ⟨rfl, rfl, rfl, rfl, rfl, rfl, trivial⟩
    intro t hat
    dsimp only at hat ⊢
    have hml := madeTo_len l x y q.Old.From a t
    have hml2 : (madeTo l x y q.Old.From a t).length ≤ 4097 * 12288 := Nat.le_trans hml (Nat.mul_le_mul (by omega) (by omega))
    refine k2 ?_; refine k2 ?_
    refine c_region ?_; refine l_neu (n_move rfl rfl) rfl ?_; refine l_neu (n_move rfl rfl) rfl ?_; refine l_neu (n_move rfl rfl) rfl ?_; refine l_neu (n_indexAddr rfl (.pure _ _ _ _) rfl (by omega) hv) rfl ?_; refine l_neu (n_field_eref rfl) rfl ?_; refine l_neu (n_load_eref rfl rfl) rfl ?_; refine l_neu (n_lss rfl rfl) rfl ?_; refine l_nil ?_
    refine k1 ?_
    refine c_cond rfl (fun ht => ?_) (fun ht => ?_)
    · have hlt2 : a + t ≤ b := by have : ((a + t : Nat) : Int) < q.Last := of_decide_eq_true ht; omega
      obtain ⟨c, hc⟩ : ∃ c, c = cAt l (a + t) := ⟨_, rfl⟩
      have hcv : l[((a + t : Nat) : Int).toNat]? = some c := by rw [hc]; exact cAt_get (by omega)
      have hgc := hsc.get (a + t) (by omega)
      rw [← hc] at hgc
      obtain ⟨⟨g1, g2⟩, ⟨g3, g4⟩, ⟨g5, g6⟩, ⟨g7, g8⟩, g9, g10⟩ := hgc
      obtain ⟨i0, hi0⟩ : ∃ i0, i0 = posTo l q.Old.From a t := ⟨_, rfl⟩
      have hpos : 0 ≤ i0 ∧ i0 ≤ c.Old := by
        rw [hi0, hc]; unfold posTo endC
        split
        · rename_i h0; subst h0; exact ⟨q5, q6⟩
        · have h4 := hsc.next (a + t - 1) (by omega)
          have h5 := hsc.get (a + t - 1) (by omega)
          rw [show a + t - 1 + 1 = a + t by omega] at h4
          unfold in81 at h5; omega
      obtain ⟨ls, hls⟩ : ∃ ls, ls = madeTo l x y q.Old.From a t := ⟨_, rfl⟩
      obtain ⟨p1, hp1⟩ : ∃ p1, p1 = putOf 32 (sub x i0 c.Old) := ⟨_, rfl⟩
      obtain ⟨p2, hp2⟩ : ∃ p2, p2 = putOf 45 (sub x c.Old (endC c)) := ⟨_, rfl⟩
      obtain ⟨p3, hp3⟩ : ∃ p3, p3 = putOf 43 (sub y c.New (c.New + c.NewLen)) := ⟨_, rfl⟩
      have hsucc : madeTo l x y q.Old.From a (t + 1) = ls ++ p1 ++ p2 ++ p3 := by rw [hls, hp1, hp2, hp3, hi0, hc]; rfl
      have hps : posTo l q.Old.From a (t + 1) = endC c := by rw [posTo_succ, hc]
      have l1 := sub_len x i0 c.Old
      have l2 := sub_len x c.Old (endC c)
      have l3 := sub_len y c.New (c.New + c.NewLen)
      have m1 : p1.length = (sub x i0 c.Old).length := by rw [hp1, putOf_len]
      have m2 : p2.length = (sub x c.Old (endC c)).length := by rw [hp2, putOf_len]
      have hend : endC c = c.Old + c.OldLen := rfl
      rw [← hls] at hml2 ⊢
      rw [← hi0]
      refine k5 ?_; refine k1 ?_; refine k2 ?_; refine k3 ?_; refine k2 ?_
      refine c_region_turn 10 (by kernel_rfl) (by kernel_rfl) rfl ?_; refine d_neu (n_field_ref rfl) rfl rfl ?_; refine d_neu (n_load_ref rfl rfl rfl) rfl rfl ?_; refine d_neu (n_move rfl rfl) rfl rfl ?_; refine d_neu (n_move rfl rfl) rfl rfl ?_; refine d_neu (n_move rfl rfl) rfl rfl ?_; refine d_neu (n_move rfl rfl) rfl rfl ?_; refine d_neu (n_indexAddr rfl (.pure _ _ _ _) rfl (by omega) hcv) rfl rfl ?_; refine d_neu (n_field_eref rfl) rfl rfl ?_; refine d_neu (n_load_eref rfl rfl) rfl rfl ?_; refine d_neu (n_slice_lh rfl (.pure _ _ _ _) rfl rfl (by omega) (by omega) (by omega)) rfl rfl ?_; refine d_nil ?_; refine met_step (rputG_met ls 32 (sub x i0 c.Old) rfl (by omega)) rfl rfl rfl ?_; rintro _ _ ⟨rfl, rfl⟩; refine ⟨_, rfl, ?_⟩; refine d_neu (n_field_ref rfl) rfl rfl ?_; refine d_eff (e_store_ref TySz.out rfl rfl rfl rfl rfl rfl) rfl ?_; refine d_nil ?_
      rw [← hp1]
      refine k1 ?_; refine k2 ?_
      refine c_region_draw (by kernel_rfl) (by kernel_rfl) ?_; refine d_neu (n_move rfl rfl) rfl rfl ?_; refine d_neu (n_move rfl rfl) rfl rfl ?_; refine d_neu (n_indexAddr rfl (.pure _ _ _ _) rfl (by omega) hcv) rfl rfl ?_; refine d_neu (n_field_eref rfl) rfl rfl ?_; refine d_neu (n_load_eref rfl rfl) rfl rfl ?_; refine d_neu (n_move rfl rfl) rfl rfl ?_; refine d_neu (n_move rfl rfl) rfl rfl ?_; refine d_neu (n_indexAddr rfl (.pure _ _ _ _) rfl (by omega) hcv) rfl rfl ?_; refine d_neu (n_field_eref rfl) rfl rfl ?_; refine d_neu (n_load_eref rfl rfl) rfl rfl ?_; refine d_neu (n_add rfl rfl (by omega)) rfl rfl ?_; refine d_neu (n_assign rfl rfl) rfl rfl ?_; refine d_nil ?_
      rw [show c.Old + c.OldLen = endC c from rfl]
      refine k1 ?_; refine k2 ?_
      refine c_region_turn 10 (by kernel_rfl) (by kernel_rfl) rfl ?_; refine d_neu (n_field_ref rfl) rfl rfl ?_; refine d_neu (n_load_ref rfl rfl rfl) rfl rfl ?_; refine d_neu (n_move rfl rfl) rfl rfl ?_; refine d_neu (n_move rfl rfl) rfl rfl ?_; refine d_neu (n_move rfl rfl) rfl rfl ?_; refine d_neu (n_indexAddr rfl (.pure _ _ _ _) rfl (by omega) hcv) rfl rfl ?_; refine d_neu (n_field_eref rfl) rfl rfl ?_; refine d_neu (n_load_eref rfl rfl) rfl rfl ?_; refine d_neu (n_move rfl rfl) rfl rfl ?_; refine d_neu (n_slice_lh rfl (.pure _ _ _ _) rfl rfl (by omega) (by omega) (by omega)) rfl rfl ?_; refine d_nil ?_; refine met_step (rputG_met (ls ++ p1) 45 (sub x c.Old (endC c)) rfl (by simp only [List.length_append]; omega)) rfl rfl rfl ?_; rintro _ _ ⟨rfl, rfl⟩; refine ⟨_, rfl, ?_⟩; refine d_neu (n_field_ref rfl) rfl rfl ?_; refine d_eff (e_store_ref TySz.out rfl rfl rfl rfl rfl rfl) rfl ?_; refine d_nil ?_
      rw [← hp2]
      refine k1 ?_
      refine c_region_turn 20 (by kernel_rfl) (by kernel_rfl) rfl ?_; refine d_neu (n_field_ref rfl) rfl rfl ?_; refine d_neu (n_load_ref rfl rfl rfl) rfl rfl ?_; refine d_neu (n_move rfl rfl) rfl rfl ?_; refine d_neu (n_move rfl rfl) rfl rfl ?_; refine d_neu (n_move rfl rfl) rfl rfl ?_; refine d_neu (n_indexAddr rfl (.pure _ _ _ _) rfl (by omega) hcv) rfl rfl ?_; refine d_neu (n_field_eref rfl) rfl rfl ?_; refine d_neu (n_load_eref rfl rfl) rfl rfl ?_; refine d_neu (n_move rfl rfl) rfl rfl ?_; refine d_neu (n_move rfl rfl) rfl rfl ?_; refine d_neu (n_indexAddr rfl (.pure _ _ _ _) rfl (by omega) hcv) rfl rfl ?_; refine d_neu (n_field_eref rfl) rfl rfl ?_; refine d_neu (n_load_eref rfl rfl) rfl rfl ?_; refine d_neu (n_move rfl rfl) rfl rfl ?_; refine d_neu (n_move rfl rfl) rfl rfl ?_; refine d_neu (n_indexAddr rfl (.pure _ _ _ _) rfl (by omega) hcv) rfl rfl ?_; refine d_neu (n_field_eref rfl) rfl rfl ?_; refine d_neu (n_load_eref rfl rfl) rfl rfl ?_; refine d_neu (n_add rfl rfl (by omega)) rfl rfl ?_; refine d_neu (n_slice_lh rfl (.pure _ _ _ _) rfl rfl (by omega) (by omega) (by omega)) rfl rfl ?_; refine d_nil ?_; refine met_step (rputG_met (ls ++ p1 ++ p2) 43 (sub y c.New (c.New + c.NewLen)) rfl (by simp only [List.length_append]; omega)) rfl rfl rfl ?_; rintro _ _ ⟨rfl, rfl⟩; refine ⟨_, rfl, ?_⟩; refine d_neu (n_field_ref rfl) rfl rfl ?_; refine d_eff (e_store_ref TySz.out rfl rfl rfl rfl rfl rfl) rfl ?_; refine d_nil ?_
      rw [← hp3]
      refine k4 ?_; refine k1 ?_
      refine c_region ?_; refine l_neu (n_move rfl rfl) rfl ?_; refine l_neu (n_add rfl rfl (by omega)) rfl ?_; refine l_neu (n_assign rfl rfl) rfl ?_; refine l_nil ?_
      refine k1 ?_
      refine ⟨t + 1, by omega, by omega, ?_⟩
      rw [hsucc, hps, show ((a + (t + 1) : Nat) : Int) = ((a + t : Nat) : Int) + 1 by omega]
      exact Sees.of ⟨le1 rfl, le1 rfl, le1 rfl, le1 rfl, le1 rfl, le1 rfl, le1 rfl, le1 rfl, le1 rfl, le1 rfl, trivial⟩ ⟨rfl, rfl, (by show some (Ob.growT 29 hs.length 3 (List.map (TC.forget 701) (List.map (TC.forget 701) (List.map (TC.forget 701) (hunkTs hs r))))) = _; simp only [hunkTs_forget hs r (k := 701) rfl]), rfl, rfl, rfl, trivial⟩
    · have htb : a + t = b + 1 := by
        have h0 : ¬ ((a + t : Nat) : Int) < q.Last := of_decide_eq_false ht
        omega
      obtain ⟨i0, hi0⟩ : ∃ i0, i0 = posTo l q.Old.From a t := ⟨_, rfl⟩
      have hib : i0 = (cAt l b).Old + (cAt l b).OldLen := by
        rw [hi0]; unfold posTo endC
        rw [if_neg (by omega), show a + t - 1 = b by omega]
      unfold in81 at hgb
      obtain ⟨ls, hls⟩ : ∃ ls, ls = madeTo l x y q.Old.From a t := ⟨_, rfl⟩
      have hG : hunkOfG l x y q = ⟨q.Old.From, q.New.From, ls ++ putOf 32 (sub x i0 q.Old.To)⟩ := by
        rw [hunkOfG, q1, q2, show ((a : Nat) : Int).toNat = a by omega, show ((b : Int) + 1).toNat - a = t by omega, ← hls, ← hi0]
      have l1 := sub_len x i0 q.Old.To
      have hgn : g.length ≤ l.length := hgl
      rw [← hls] at hml2 ⊢
      rw [← hi0]
      refine k6 ?_; refine k2 ?_
      refine c_region_turn 11 (by kernel_rfl) (by kernel_rfl) rfl ?_; refine d_neu (n_field_ref rfl) rfl rfl ?_; refine d_neu (n_load_ref rfl rfl rfl) rfl rfl ?_; refine d_neu (n_move rfl rfl) rfl rfl ?_; refine d_neu (n_move rfl rfl) rfl rfl ?_; refine d_neu (n_move rfl rfl) rfl rfl ?_; refine d_neu (n_move rfl rfl) rfl rfl ?_; refine d_neu (n_indexAddr rfl (.pure _ _ _ _) rfl (by omega) hv) rfl rfl ?_; refine d_neu (n_field_eref rfl) rfl rfl ?_; refine d_neu (n_field_eref rfl) rfl rfl ?_; refine d_neu (n_load_eref rfl rfl) rfl rfl ?_; refine d_neu (n_slice_lh rfl (.pure _ _ _ _) rfl rfl (by omega) (by omega) (by omega)) rfl rfl ?_; refine d_nil ?_; refine met_step (rputG_met ls 32 (sub x i0 q.Old.To) rfl (by omega)) rfl rfl rfl ?_; rintro _ _ ⟨rfl, rfl⟩; refine ⟨_, rfl, ?_⟩; refine d_neu (n_field_ref rfl) rfl rfl ?_; refine d_eff (e_store_ref TySz.out rfl rfl rfl rfl rfl rfl) rfl ?_; refine d_nil ?_
      refine k1 ?_
      by_cases hkr : k = r
      · subst hkr
        have hoff : hunkTs hs k = flatC 3 phunkC hs := hunkTs_off (by omega)
        refine c_cut [(12, .s (.one (.ref 12 0))), (14, sList Str 1 strC x), (16, sList Str 1 strC y), (17, sList Change 4 changeC l), (19, sList Hunk 6 hunkC g), (20, .s (.one (.ref 20 0))), (21, sInt k), (22, .s (.one (.ref 22 0)))] [(12, .box [.p (.v (.string ⟨#[]⟩)), .p (.v (.string ⟨#[]⟩)), .p (.v (.slice none 0 0))]), (20, .box [.p (.v (.string ⟨on.toArray⟩)), .p (.v (.string ⟨nn.toArray⟩)), .mut 702]), (702, .growT 29 hs.length 3 (flatC 3 phunkC hs)), (22, .box [.p (.v (.int .i64 q.Old.From)), .p (.v (.int .i64 q.New.From)), .mut 701]), (701, .grow 36 PatchLine 2 plineC (ls ++ putOf 32 (sub x i0 q.Old.To)))] (Sees.of ⟨le1 rfl, le1 rfl, le1 rfl, le1 rfl, le1 rfl, le1 rfl, le1 rfl, le1 rfl, trivial⟩ ⟨rfl, rfl, (by show some (Ob.growT 29 hs.length 3 (List.map (TC.forget 701) (hunkTs hs k))) = _; rw [hunkTs_forget hs k (k := 701) rfl, hoff]), rfl, rfl, trivial⟩) ?_
        refine c_sees (Sees.rename (ob' := [(12, .box [.p (.v (.string ⟨#[]⟩)), .p (.v (.string ⟨#[]⟩)), .p (.v (.slice none 0 0))]), (20, .box [.p (.v (.string ⟨on.toArray⟩)), .p (.v (.string ⟨nn.toArray⟩)), .mut 702]), (702, .growT 29 hs.length 3 (flatC 3 phunkC hs)), (22, .box [.p (.v (.int .i64 q.Old.From)), .p (.v (.int .i64 q.New.From)), .mut 703]), (703, .grow 36 PatchLine 2 plineC (ls ++ putOf 32 (sub x i0 q.Old.To)))]) (j := 701) (k := 703) rfl rfl (by decide) rfl (getO_all ?_)) ?_
        · intro p hp
          simp only [List.mem_cons, List.not_mem_nil, or_false] at hp
          rcases hp with rfl | rfl | rfl | rfl | rfl
          · exact ⟨by dsimp only; omega, _, rfl, rfl, rfl⟩
          · exact ⟨by dsimp only; omega, _, rfl, rfl, rfl⟩
          · exact ⟨by dsimp only; omega, _, rfl, flatC_free _ _, by show Ob.growT _ _ _ _ = Ob.growT _ _ _ (List.map (TC.ren 701 703) (flatC 3 phunkC hs)); rw [flatC_map _ (fun _ => rfl)]⟩
          · exact ⟨by dsimp only; omega, _, rfl, rfl, rfl⟩
          · exact ⟨by dsimp only; omega, _, rfl, rfl, rfl⟩
        skip
        refine c_region ?_; refine l_neu (n_field_ref rfl) rfl ?_; refine l_neu (n_load_ref rfl rfl rfl) rfl ?_; refine l_neu (n_loads_ref rfl rfl rfl) rfl ?_; refine l_effv (f_buildT 735 rfl rfl rfl rfl rfl (by show ((flatC 3 phunkC hs).all (TC.free 735) && true) = true; rw [flatC_free]; rfl)) rfl ?_; refine l_effv (e_append_gTT rfl rfl rfl rfl (by (omega)) rfl) rfl ?_; refine l_neu (n_field_ref rfl) rfl ?_; refine l_eff (e_store_ref TySz.out rfl rfl rfl rfl rfl rfl) ?_; refine l_nil ?_
        refine k4 ?_; refine k1 ?_
        refine c_region ?_; refine l_neu (n_move rfl rfl) rfl ?_; refine l_neu (n_add rfl rfl (by omega)) rfl ?_; refine l_neu (n_assign rfl rfl) rfl ?_; refine l_nil ?_
        refine k1 ?_
        refine ⟨k + 1, by omega, by omega, ?_⟩
        have e1 := hunkTs_here hs ⟨q.Old.From, q.New.From, (ls ++ putOf 32 (sub x i0 q.Old.To))⟩
        have e2 := hunkLs_here hs ⟨q.Old.From, q.New.From, (ls ++ putOf 32 (sub x i0 q.Old.To))⟩
        rw [hhl] at e1 e2
        dsimp only
        rw [htk, hG, e1, e2, hoff, List.length_append]
        exact Sees.of ⟨le1 rfl, le1 rfl, le1 rfl, le1 rfl, le1 rfl, le1 rfl, le1 rfl, trivial⟩ ⟨rfl, rfl, (by show some (Ob.growT 29 (hs.length + 1) 3 (List.map (TC.forget 702) (flatC 3 phunkC hs ++ [_, _, .mut 703]))) = _; rw [List.map_append, flatC_map _ (fun _ => rfl)]; rfl), rfl, trivial⟩
      · refine c_sees (Sees.freezeG (k := 701) rfl rfl) ?_
        refine c_cut [(12, .s (.one (.ref 12 0))), (14, sList Str 1 strC x), (16, sList Str 1 strC y), (17, sList Change 4 changeC l), (19, sList Hunk 6 hunkC g), (20, .s (.one (.ref 20 0))), (21, sInt k), (22, .s (.one (.ref 22 0)))] [(12, .box [.p (.v (.string ⟨#[]⟩)), .p (.v (.string ⟨#[]⟩)), .p (.v (.slice none 0 0))]), (20, .box [.p (.v (.string ⟨on.toArray⟩)), .p (.v (.string ⟨nn.toArray⟩)), .mut 702]), (702, .growT 29 hs.length 3 (hunkTs hs r)), (703, .grow 36 PatchLine 2 plineC (hunkLs hs r)), (22, .box [.p (.v (.int .i64 q.Old.From)), .p (.v (.int .i64 q.New.From)), .p (.list PatchLine 2 plineC (ls ++ putOf 32 (sub x i0 q.Old.To)))])] (Sees.of ⟨le1 rfl, le1 rfl, le1 rfl, le1 rfl, le1 rfl, le1 rfl, le1 rfl, le1 rfl, trivial⟩ ⟨rfl, rfl, (by show some (Ob.growT 29 hs.length 3 (List.map (TC.freeze 701 PatchLine 2 plineC (ls ++ putOf 32 (sub x i0 q.Old.To))) (List.map (TC.forget 701) (hunkTs hs r)))) = _; rw [hunkTs_forget hs r (k := 701) rfl, hunkTs_freeze hs r (k := 701) rfl]), rfl, rfl, trivial⟩) ?_
        skip
        refine c_region ?_; refine l_neu (n_field_ref rfl) rfl ?_; refine l_neu (n_load_ref rfl rfl rfl) rfl ?_; refine l_neu (n_loads_ref rfl rfl rfl) rfl ?_; refine l_effv (f_buildT 735 rfl rfl rfl rfl rfl (by show ((hunkTs hs r).all (TC.free 735) && true) = true; rw [hunkTs_free hs r rfl]; rfl)) rfl ?_; refine l_effv (e_append_gTT rfl rfl rfl rfl (by (omega)) rfl) rfl ?_; refine l_neu (n_field_ref rfl) rfl ?_; refine l_eff (e_store_ref TySz.out rfl rfl rfl rfl rfl rfl) ?_; refine l_nil ?_
        refine k4 ?_; refine k1 ?_
        refine c_region ?_; refine l_neu (n_move rfl rfl) rfl ?_; refine l_neu (n_add rfl rfl (by omega)) rfl ?_; refine l_neu (n_assign rfl rfl) rfl ?_; refine l_nil ?_
        refine k1 ?_
        refine ⟨k + 1, by omega, by omega, ?_⟩
        dsimp only
        rw [htk, hG, hunkTs_snoc _ (show r ≠ hs.length by omega), hunkLs_snoc _ (show r ≠ hs.length by omega), List.length_append]
        exact Sees.of ⟨le1 rfl, le1 rfl, le1 rfl, le1 rfl, le1 rfl, le1 rfl, le1 rfl, trivial⟩ ⟨rfl, rfl, (by show some (Ob.growT 29 (hs.length + 1) 3 (List.map (TC.forget 702) (hunkTs hs r ++ flatC 3 phunkC [⟨q.Old.From, q.New.From, ls ++ putOf 32 (sub x i0 q.Old.To)⟩]))) = _; rw [List.map_append, hunkTs_forget hs r (k := 702) rfl]; rfl), rfl, trivial⟩
  · have hk' : k = g.length := by have := of_decide_eq_false ht; omega
    subst hk'
    rw [List.take_length, ← hho]
    have hsz := hmd.sz
    have hch := hmd.chk
    rw [← hx, ← hy] at hsz hch
    refine k6 ?_; refine k2 ?_; refine k2 ?_
    have hrl : r < (hunksOf l x y ctx).length := by rw [hmk] at hr; exact hr
    have hm1 : (made12 on nn a b ctx d).1.Hunks = hunksOf l x y ctx := by rw [hmk]
    rw [hm1]
    refine c_region ?_; refine l_neu (n_loads_ref rfl rfl rfl) rfl ?_; refine l_frozen ((Sees.freezeG (k := 703) rfl rfl).trans ((Sees.ofGT 702 (hunksOf l x y ctx) rfl rfl (hunkTs_close hrl)).trans (Sees.freezeG (k := 702) rfl rfl))) (rcheck12_ok ⟨on, nn, hunksOf l x y ctx⟩ hsz) rfl rfl rfl ?_; rintro _ rfl; refine ⟨fun _ _ _ h => h, ?_⟩; refine l_neu (n_assign rfl rfl) rfl ?_; refine l_nil ?_
    rw [hch]
    refine k1 ?_; refine k2 ?_
    refine c_region ?_; refine l_neu (n_move rfl rfl) rfl ?_; refine l_neu (n_neq rfl rfl) rfl ?_; refine l_nil ?_
    refine k1 ?_
    refine c_cond rfl (fun ht => ?_) (fun ht => ?_)
    · cases ht
    · refine k5 ?_; refine k1 ?_; refine k2 ?_
      refine c_region ?_; refine l_neu (n_loads_ref rfl rfl rfl) rfl ?_; refine l_eff (e_store_ref TySz.out rfl rfl rfl rfl rfl rfl) ?_; refine l_neu (n_assign rfl rfl) rfl ?_; refine l_nil ?_
      refine k1 ?_; refine k10 ?_
      exact met_ret (retsC2 rfl rfl rfl rfl rfl) (by repeat (first | exact tail_refl | refine tail_cons rfl ?_ | refine tail_forget _ ?_)) (ObIn.spec (ob' := [(702, _), (703, _)]) ⟨rfl, rfl, trivial⟩) ⟨rfl, rfl⟩
end Go.Proofs.YtbiadkkamhpdnaaGreatDoor
namespace Go.Proofs.YtbiadkkamhpdnaaGreatDoor
open Go Go.AL
set_option maxRecDepth 100000
theorem retsC3 {P : Program} {fn : Func} {fr : Fr} {ob : Obs} {t t' t'' : Tmp} {k n : Nat} {tt : TypeId} {ts : List TC} {s' s'' : S1} [hty : TyAgg P tt n] (hr : fn.results = #[.cell t tt, .tmp t', .tmp t'']) (ht : getT fr t = some (.s (.one (.ref k 0)))) (hk : getO ob k = some (.box ts)) (hn : ts.length = n)
    (ht' : getT fr t' = some (.s s')) (ht'' : getT fr t'' = some (.s s'')) : RetS P fn fr ob [.agg ts, s', s''] := by
  unfold RetS
  intro S G a w h
  obtain ⟨b, hg, hu⟩ := h.slot ht
  obtain ⟨b', vs, tt', hg', hh, ha⟩ := h.box hk
  rw [hg] at hg'; cases hg'
  have h2 : (loadVar tt ⟨b, 0, none⟩).run P w = .ok (.agg (List.toArray vs)) w := run_loadVar_agg (ht := hty) (by rw [← ha.length, hn]) (fun j z hz => by rw [Nat.zero_add]; exact cell_of_heap hh (by simpa using hz))
  rw [Array.getD_eq_getD_getElem?] at hu
  exact ⟨_, by simp [results, hr, hu, asAddr, h2], [_, _, _], rfl, ⟨vs, rfl, ha⟩, h.slot ht', h.slot ht'', trivial⟩
def pickHs (on nn : Str) (raw : List Int) (c : Int) : List PatchHunk := (made12 on nn (pickA raw) (pickB raw) c false).1.Hunks
theorem pickHs_is {on nn : Str} (hn : nameOk on = true) (hn' : nameOk nn = true) (raw : List Int) {c : Int} (hc : 0 ≤ c ∧ c ≤ 1048576) : made12 on nn (pickA raw) (pickB raw) c false = (⟨on, nn, pickHs on nn raw c⟩, 0) ∧ check12 ⟨on, nn, pickHs on nn raw c⟩ = 0 ∧ szP (pickHs on nn raw c) ≤ 65536 := by
  have hal := pickA_len raw
  have hbl := pickB_len raw
  obtain ⟨f1, h1⟩ := lines_flat (pickA raw)
  obtain ⟨f2, h2⟩ := lines_flat (pickB raw)
  obtain ⟨hf, _⟩ := scriptD_fit (linesOf (pickA raw)) (linesOf (pickB raw)) false (by omega) (by omega)
  have hm := made12_is on nn (pickA raw) (pickB raw) _ c hn hn' (by omega) (by omega) (by omega) hf
  have hz := hf.size hc.1 (linesOf_ok (pickA raw)).1 (linesOf_ok (pickB raw)).1
  have e : made12 on nn (pickA raw) (pickB raw) c false = (⟨on, nn, hunksOf (scriptD (linesOf (pickA raw)) (linesOf (pickB raw)) false) (linesOf (pickA raw)) (linesOf (pickB raw)) c⟩, 0) := by
    unfold made12
    rw [if_neg (by rw [hn, hn']; simp), if_neg (by omega)]
  have e2 : pickHs on nn raw c = hunksOf (scriptD (linesOf (pickA raw)) (linesOf (pickB raw)) false) (linesOf (pickA raw)) (linesOf (pickB raw)) c := by unfold pickHs; rw [e]
  rw [e2]
  exact ⟨e, hm.chk, by omega⟩
theorem goodGo_some : ∀ (hs : List PatchHunk) (i j : Int), goodGo i j hs = true → ∀ x ∈ hs, 0 < x.Lines.length
  | [], _, _, _, _, hm => by cases hm
  | x :: r, i, j, hg, y, hm => by
    simp only [goodGo, Bool.and_eq_true, decide_eq_true_eq] at hg
    obtain ⟨_, h1, _, h3⟩ := hg
    rcases List.mem_cons.1 hm with rfl | hm
    · refine List.length_pos_iff.2 fun e => h1 ?_
      unfold offPlace
      rw [e]
      exact .inl (.inl (.inl (.inl (.inl rfl))))
    · exact goodGo_some r _ _ h3 y hm
theorem good_lines {p : Patch} (h : check12 p = 0) : ∀ x ∈ p.Hunks, 0 < x.Lines.length ∧ (0 ≤ x.Old ∧ x.Old ≤ 4096) ∧ (0 ≤ x.New ∧ x.New ≤ 4096) := by
  have hg := check12_good (p := p) (fun e => e h)
  intro x hx
  have hr := goodOf_range hg x hx
  refine ⟨?_, by omega, by omega⟩
  unfold goodOf at hg
  rw [Bool.and_eq_true] at hg
  exact goodGo_some _ _ _ hg.1 x hx
theorem hunkTs_rows {hs : List PatchHunk} {r : Nat} {h : PatchHunk} (hv : hs[r]? = some h) : (∀ i (hi : i < hs.length), i ≠ r → ∀ j, j < 3 → (hunkTs hs r)[i * 3 + j]? = some (.p (phunkC hs[i] j))) ∧ ∀ j, j < 3 → (hunkTs hs r)[r * 3 + j]? = ([.p (.v (.int .i64 h.Old)), .p (.v (.int .i64 h.New)), .mut 703] : List TC)[j]? := by
  have hr : r < hs.length := (List.getElem?_eq_some_iff.1 hv).1
  refine ⟨fun i hi hir j hj => ?_, fun j hj => ?_⟩
  · unfold hunkTs
    rw [List.getElem?_set_ne (by omega)]
    exact flatC_get (c := phunkC) hs i j _ (List.getElem?_eq_getElem hi) hj
  · have hg := fun (j : Nat) (hj : j < 3) => flatC_get (c := phunkC) hs r j h hv hj
    unfold hunkTs
    match j, hj with
    | 0, _ => rw [List.getElem?_set_ne (by omega)]; exact hg 0 (by decide)
    | 1, _ => rw [List.getElem?_set_ne (by omega)]; exact hg 1 (by decide)
    | 2, _ => rw [List.getElem?_set_self (by rw [flatC_length]; omega)]; rfl
theorem hunkLs_at {hs : List PatchHunk} {r : Nat} {h : PatchHunk} (hv : hs[r]? = some h) : hunkLs hs r = h.Lines := by unfold hunkLs; rw [hv]; rfl
theorem hunk_new {rs : List S1} {e e2 : TypeId} {n r : Nat} {hs : List PatchHunk} {ls : List PatchLine} {fr : Fr} {ob : Obs} (hrs : (rs.flatMap S1.refs).all (fun k => Nat.beq k 702) = true)
    (h2 : ((frRefs fr ++ obRefs ob).all (fun k => !(Nat.beq 702 k) && !(Nat.beq 703 k)) && ob.all (fun p => !(Nat.beq 702 p.1) && !(Nat.beq 703 p.1))) = true) :
    newOk rs [(702, .growT e n 3 (hunkTs hs r)), (703, .grow e2 PatchLine 2 plineC ls)] fr ob = true := by
  have hg : ∀ k, (getO [(702, Ob.growT e n 3 (hunkTs hs r)), (703, .grow e2 PatchLine 2 plineC ls)] k).isSome = (Nat.beq 702 k || Nat.beq 703 k) := by
    intro k; simp only [getO]; cases Nat.beq 702 k <;> cases Nat.beq 703 k <;> rfl
  have hg2 : ∀ k, (getO [(702, Ob.growT e n 3 (hunkTs hs r)), (703, .grow e2 PatchLine 2 plineC ls)] k).isNone = (!(Nat.beq 702 k) && !(Nat.beq 703 k)) := by
    intro k; simp only [getO]; cases Nat.beq 702 k <;> cases Nat.beq 703 k <;> rfl
  unfold newOk
  simp only [hg, hg2]
  rw [Bool.and_eq_true] at h2
  rw [Bool.and_eq_true, Bool.and_eq_true]
  refine ⟨⟨?_, h2.1⟩, h2.2⟩
  rw [List.all_append, Bool.and_eq_true]
  refine ⟨List.all_eq_true.2 fun k hk => ?_, List.all_eq_true.2 fun k hk => ?_⟩
  · have e := Nat.eq_of_beq_eq_true (List.all_eq_true.1 hrs k hk)
    subst e; rfl
  · have hk : k ∈ (hunkTs hs r).flatMap TC.refs := by simpa [obRefs, Ob.refs] using hk
    obtain ⟨t, ht, hkt⟩ := List.mem_flatMap.1 hk
    rcases hunkTs_mem t ht with ⟨z, rfl⟩ | rfl
    · cases hkt
    · have : k = 703 := by simpa [TC.refs] using hkt
      subst this; rfl
set_option maxHeartbeats 1000000
theorem pick14_met (raw : List Int) (ctx : Int) (r : Nat) (hr : r < (pickHs [111] [110] raw (modOf ctx 4)).length) : AL.Met Tryz.prog 17 [(pInts raw).s1, (pInt ctx).s1] [] [] []
    (fun rs ob' => rs = [.agg [.p (.v (.string ⟨([111] : Str).toArray⟩)), .p (.v (.string ⟨([110] : Str).toArray⟩)), .mut 702], (pStr (pickA raw)).s1, (pStr (pickB raw)).s1] ∧ ob' = [(702, .growT 29 (pickHs [111] [110] raw (modOf ctx 4)).length 3 (hunkTs (pickHs [111] [110] raw (modOf ctx 4)) r)), (703, .grow 36 PatchLine 2 plineC (hunkLs (pickHs [111] [110] raw (modOf ctx 4)) r))]) := by
  have ha := pickA_len raw
  have hb := pickB_len raw
  have hmk := rmakeN_met [111] [110] (pickA raw) (pickB raw) (modOf ctx 4) (by omega) (by omega) r hr
  rw [show (made12 [111] [110] (pickA raw) (pickB raw) (modOf ctx 4) false).1.Hunks = pickHs [111] [110] raw (modOf ctx 4) from rfl] at hmk
  obtain ⟨hs, hhs⟩ : ∃ hs, hs = pickHs [111] [110] raw (modOf ctx 4) := ⟨_, rfl⟩
  rw [← hhs] at hmk ⊢
  refine AL.Met.intro Tryz.func17 (by decide) rfl rfl rfl ?_
  refine k2 ?_
  refine c_region ?_; refine l_effv (f_alloc 4 rfl) rfl ?_; refine l_neu (n_assign rfl rfl) rfl ?_; refine l_neu (n_assign rfl rfl) rfl ?_; refine l_nil ?_
  refine k1 ?_; refine k2 ?_
  refine c_region ?_; refine l_neu (n_move rfl rfl) rfl ?_; refine l_call (blob_ok raw 0 9 5 (by omega) (by omega) (by omega)) rfl rfl rfl ?_; rintro _ rfl; refine l_neu (n_assign rfl rfl) rfl ?_; refine l_nil ?_
  rw [← pickA_def]
  refine k1 ?_; refine k2 ?_
  refine c_region ?_; refine l_neu (n_move rfl rfl) rfl ?_; refine l_neu (n_move rfl rfl) rfl ?_; refine l_call (near_ok (pickA raw) raw 100 (by omega) (by omega)) rfl rfl rfl ?_; rintro _ rfl; refine l_neu (n_assign rfl rfl) rfl ?_; refine l_nil ?_
  rw [← pickB_def]
  refine k1 ?_; refine k2 ?_
  refine c_region ?_; refine l_neu (n_move rfl rfl) rfl ?_; refine l_neu (n_move rfl rfl) rfl ?_; refine l_neu (n_move rfl rfl) rfl ?_; refine l_call (mod_ok ctx 4 (by omega) (by omega)) rfl rfl rfl ?_; rintro _ rfl; refine l_new (hmk) rfl rfl rfl rfl ?_; rintro _ _ ⟨rfl, rfl⟩; refine ⟨hunk_new rfl rfl, ?_⟩; refine l_neu (n_move rfl rfl) rfl ?_; refine l_neu (n_extract rfl rfl) rfl ?_; refine l_neu (n_extract rfl rfl) rfl ?_; refine l_effv (f_alloc 9 (by show ((hunkTs hs r).all (TC.free 9) && true) = true; rw [hunkTs_free hs r rfl]; rfl)) rfl ?_; refine l_eff (e_store_ref TySz.out rfl rfl rfl rfl rfl rfl) ?_; refine l_neu (n_assign rfl rfl) rfl ?_; refine l_nil ?_
  refine k1 ?_; refine k2 ?_
  refine c_region ?_; refine l_neu (n_loads_ref rfl rfl rfl) rfl ?_; refine l_neu (n_move rfl rfl) rfl ?_; refine l_neu (n_move rfl rfl) rfl ?_; refine l_eff (e_store_ref TySz.out rfl rfl rfl rfl rfl rfl) ?_; refine l_neu (n_assign rfl rfl) rfl ?_; refine l_neu (n_assign rfl rfl) rfl ?_; refine l_nil ?_
  refine k1 ?_; refine k10 ?_
  exact met_ret (retsC3 rfl rfl rfl rfl rfl rfl) (by repeat (first | exact tail_refl | refine tail_cons rfl ?_ | refine tail_forget _ ?_)) (ObIn.spec (ob' := [(702, _), (703, _)]) ⟨rfl, rfl, trivial⟩) ⟨rfl, rfl⟩
end Go.Proofs.YtbiadkkamhpdnaaGreatDoor
namespace Go.Proofs.YtbiadkkamhpdnaaGreatDoor
open Go Go.AL
set_option maxRecDepth 100000
end Go.Proofs.YtbiadkkamhpdnaaGreatDoor
namespace Go.Proofs.YtbiadkkamhpdnaaGreatDoor
open Go Go.AL
set_option maxRecDepth 100000
set_option maxHeartbeats 1000000
end Go.Proofs.YtbiadkkamhpdnaaGreatDoor
namespace Go.Proofs.YtbiadkkamhpdnaaGreatDoor
open Go Go.AL
set_option maxRecDepth 100000
end Go.Proofs.YtbiadkkamhpdnaaGreatDoor
namespace Go.Proofs.YtbiadkkamhpdnaaGreatDoor
open Go Go.AL
set_option maxRecDepth 100000
set_option maxHeartbeats 1000000
end Go.Proofs.YtbiadkkamhpdnaaGreatDoor
