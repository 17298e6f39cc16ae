/- Walks of the program's functions. -/
import Derived.Test.YtjjidificdmnmaaGreatDoorFa
import Derived.Test.YtjjidificdmnmaaGreatDoorAn
import Derived.Test.YtjjidificdmnmaaGreatDoorFs
namespace Go.Proofs.YtjjidificdmnmaaGreatDoor
open Go Go.AL
set_option maxRecDepth 100000
abbrev rdBox (s : Str) (i : Nat) : Ob := .box [.p (.v (.string ⟨s.toArray⟩)), .p (.v (.int .i64 (i : Int)))]
abbrev t8 (x : Int) : S1 := .one (.p (.v (.int .u8 x)))
abbrev tBo (b : Bool) : S1 := .one (.p (.v (.bool b)))
def octOk (c : UInt8) : Prop := 48 ≤ c.toNat ∧ c.toNat ≤ 55
def octN (s : Str) (i : Nat) : Nat → Nat
  | 0 => 0
  | q + 1 => 8 * octN s i q + ((s.getD (i + q) 0).toNat - 48)
def octSound (s : Str) (i q : Nat) : Prop := i + q < s.length ∧ octOk (s.getD (i + q) 0)
instance (s : Str) (i q : Nat) : Decidable (octSound s i q) := by unfold octSound octOk; exact inferInstance
def octI (s : Str) (i : Nat) : Option UInt8 := if (octSound s i 0 ∧ octSound s i 1 ∧ octSound s i 2) ∧ octN s i 3 < 256 then some (UInt8.ofNat (octN s i 3)) else none
theorem octI_none {s : Str} {i q : Nat} (hq : q < 3) (h : ¬ octSound s i q) : octI s i = none := by
  unfold octI
  rw [if_neg]
  rintro ⟨⟨h0, h1, h2⟩, _⟩
  rcases (show q = 0 ∨ q = 1 ∨ q = 2 by omega) with rfl | rfl | rfl <;> exact h ‹_›
theorem octN_le {s : Str} {i : Nat} : ∀ q, q ≤ 3 → (∀ p, p < q → octSound s i p) → octN s i q ≤ 8 ^ q - 1
  | 0, _, _ => by simp [octN]
  | q + 1, hq, h => by
    have ih := octN_le q (by omega) (fun p hp => h p (by omega))
    have h1 := (h q (by omega)).2
    unfold octOk at h1
    simp only [octN]
    rcases (show q = 0 ∨ q = 1 ∨ q = 2 by omega) with rfl | rfl | rfl <;> omega
theorem octI_all {s : Str} {i : Nat} (h : ∀ p, p < 3 → octSound s i p) : octI s i = if octN s i 3 < 256 then some (UInt8.ofNat (octN s i 3)) else none := by
  unfold octI
  by_cases hv : octN s i 3 < 256
  · rw [if_pos ⟨⟨h 0 (by omega), h 1 (by omega), h 2 (by omega)⟩, hv⟩, if_pos hv]
  · rw [if_neg (fun hh => hv hh.2), if_neg hv]
theorem ob_front {k0 : Nat} {x : Ob} {ob : Obs} (h : getO ob k0 = some x) : ∀ k o, getO ((k0, x) :: ob) k = some o → getO ob k = some o := by
  intro k o hk
  by_cases he : k0 = k
  · subst he; rw [getO_cons_same] at hk; cases hk; exact h
  · rw [getO_cons_other he] at hk; exact hk
theorem ob_dup {k0 : Nat} {x y : Ob} {ob : Obs} : ∀ k o, getO ((k0, x) :: ob) k = some o → getO ((k0, x) :: (k0, y) :: ob) k = some o := by
  intro k o hk
  by_cases he : k0 = k
  · subst he; rw [getO_cons_same] at hk ⊢; exact hk
  · rw [getO_cons_other he] at hk ⊢; rw [getO_cons_other he]; exact hk
theorem octal_met {gf : Fr} {ob : Obs} (s : Str) (i : Nat) (hi : i ≤ s.length) (hs : s.length ≤ 1073741824) (h5 : getO ob 705 = some (rdBox s i)) :
    Met Tryz.prog 201 [.one (.ref 705 0)] gf ob []
      (fun rs ob' => ∃ (x : Int) (b : Bool) (j : Nat), rs = [t8 x, tBo b] ∧ ob' = (705, rdBox s j) :: ob ∧ j ≤ s.length ∧ match octI s i with
        | some c => b = true ∧ x = c.toNat ∧ j = i + 3
        | none => b = false) := by
  refine Met.introH Tryz.func201 (by decide) rfl rfl rfl (fun hH => ?_)
  refine k2 ?_
  refine c_region ?_; refine l_neu (n_assign rfl rfl) rfl ?_; refine l_neu (n_assign rfl rfl) rfl ?_; refine l_nil ?_
  refine k1 ?_; refine k2 ?_
  refine c_region ?_; refine l_neu (n_assign rfl rfl) rfl ?_; refine l_nil ?_
  refine k1 ?_; refine k2 ?_; refine k2 ?_
  refine c_region ?_; refine l_neu (n_move rfl rfl) rfl ?_; refine l_nil ?_
  refine k1 ?_; refine k3 ?_
  refine c_while (X := Nat) (fun q => ([(0, .s (.one (.ref 705 0))), (4, sInt (octN s i q : Int)), (5, sInt q)] ++ gf, (705, rdBox s (i + q)) :: ob)) (fun q => q ≤ 3 ∧ ∀ p, p < q → octSound s i p) (fun q => 3 - q) 0 ⟨by omega, by omega⟩ ?_ ?_
  · exact Sees.tailed ⟨le1 rfl, le1 rfl, le1 rfl, trivial⟩ hH (by repeat (first | exact tail_refl | refine tail_cons rfl ?_)) (ob_front h5)
  rintro q ⟨hq, hok⟩
  dsimp only at hq hok ⊢
  have hle := octN_le q hq hok
  have hlen : q = 0 ∨ i + q ≤ s.length := by
    rcases Nat.eq_zero_or_pos q with h | h
    · exact .inl h
    · have := (hok (q - 1) (by omega)).1; exact .inr (by omega)
  have hiq : i + q ≤ s.length := by rcases hlen with rfl | h <;> omega
  have h8 : octN s i q ≤ 512 := by rcases (show q = 0 ∨ q = 1 ∨ q = 2 ∨ q = 3 by omega) with rfl | rfl | rfl | rfl <;> omega
  refine k2 ?_
  refine c_region ?_; refine l_neu (n_lss rfl rfl) rfl ?_; refine l_nil ?_
  refine k1 ?_; refine k2 ?_
  refine c_cond rfl (fun ht => ?_) (fun ht => ?_)
  · have hlt : q < 3 := by have := of_decide_eq_true ht; omega
    refine k5 ?_; refine k1 ?_; refine k2 ?_; refine k3 ?_; refine k2 ?_; refine k2 ?_
    refine c_region_draw (by kernel_rfl) (by kernel_rfl) ?_; refine d_neu (n_move rfl rfl) rfl rfl ?_; refine d_neu (n_nilCheck_ref rfl) rfl rfl ?_; refine d_neu (n_field_ref rfl) rfl rfl ?_; refine d_neu (n_load_ref rfl rfl rfl) rfl rfl ?_; refine d_neu (n_move rfl rfl) rfl rfl ?_; refine d_neu (n_nilCheck_ref rfl) rfl rfl ?_; refine d_neu (n_field_ref rfl) rfl rfl ?_; refine d_neu (n_load_ref rfl rfl rfl) rfl rfl ?_; refine d_neu (n_len_s rfl) rfl rfl ?_; refine d_neu (n_geq rfl rfl) rfl rfl ?_; refine d_neu (n_move rfl rfl) rfl rfl ?_; refine d_guard rfl rfl (fun hg => by rw [hg]; exact n_move rfl rfl) rfl rfl ?_; refine d_guard rfl rfl (fun hg => by rw [hg]; exact n_nilCheck_ref rfl) rfl rfl ?_; refine d_guard rfl rfl (fun hg => by rw [hg]; exact n_field_ref rfl) rfl rfl ?_; refine d_guard rfl rfl (fun hg => by rw [hg]; exact n_load_ref rfl rfl rfl) rfl rfl ?_; refine d_guard rfl rfl (fun hg => by rw [hg]; exact n_move rfl rfl) rfl rfl ?_; refine d_guard rfl rfl (fun hg => by rw [hg]; exact n_nilCheck_ref rfl) rfl rfl ?_; refine d_guard rfl rfl (fun hg => by rw [hg]; exact n_field_ref rfl) rfl rfl ?_; refine d_guard rfl rfl (fun hg => by rw [hg]; exact n_load_ref rfl rfl rfl) rfl rfl ?_; refine d_guard rfl rfl (fun hg => by have hq := hg; (try simp at hq); rw [hg]; exact n_index_s rfl rfl (by omega) (gD (by omega))) rfl rfl ?_; refine d_guard rfl rfl (fun hg => by rw [hg]; exact n_lss rfl rfl) rfl rfl ?_; refine d_neu (n_pick_bool rfl (fun h => by first | rfl | (rw [h]; rfl)) (fun h => by first | rfl | (rw [h]; rfl))) rfl rfl ?_; refine d_neu (n_move rfl rfl) rfl rfl ?_; refine d_guard rfl rfl (fun hg => by rw [hg]; exact n_move rfl rfl) rfl rfl ?_; refine d_guard rfl rfl (fun hg => by rw [hg]; exact n_nilCheck_ref rfl) rfl rfl ?_; refine d_guard rfl rfl (fun hg => by rw [hg]; exact n_field_ref rfl) rfl rfl ?_; refine d_guard rfl rfl (fun hg => by rw [hg]; exact n_load_ref rfl rfl rfl) rfl rfl ?_; refine d_guard rfl rfl (fun hg => by rw [hg]; exact n_move rfl rfl) rfl rfl ?_; refine d_guard rfl rfl (fun hg => by rw [hg]; exact n_nilCheck_ref rfl) rfl rfl ?_; refine d_guard rfl rfl (fun hg => by rw [hg]; exact n_field_ref rfl) rfl rfl ?_; refine d_guard rfl rfl (fun hg => by rw [hg]; exact n_load_ref rfl rfl rfl) rfl rfl ?_; refine d_guard rfl rfl (fun hg => by have hq := hg; (try simp at hq); rw [hg]; exact n_index_s rfl rfl (by omega) (gD (by omega))) rfl rfl ?_; refine d_guard rfl rfl (fun hg => by rw [hg]; exact n_gtr rfl rfl) rfl rfl ?_; refine d_neu (n_pick_bool rfl (fun h => by first | rfl | (rw [h]; rfl)) (fun h => by first | rfl | (rw [h]; rfl))) rfl rfl ?_; refine d_nil ?_
    refine k1 ?_
    simp only [or_pick, Int.toNat_natCast]
    have hsnd : decide ((((s.length : Int) ≤ ((i + q : Nat) : Int)) ∨ ((s.getD (i + q) 0).toNat : Int) < 48) ∨ (55 : Int) < ((s.getD (i + q) 0).toNat : Int)) = decide (¬ octSound s i q) := by
      congr 1
      unfold octSound octOk
      apply propext; constructor
      · intro h1 h2; omega
      · intro h1
        by_cases h3 : i + q < s.length
        · by_cases h4 : 48 ≤ (s.getD (i + q) 0).toNat
          · by_cases h5 : (s.getD (i + q) 0).toNat ≤ 55
            · exact absurd ⟨h3, h4, h5⟩ h1
            · exact .inr (by omega)
          · exact .inl (.inr (by omega))
        · exact .inl (.inl (by omega))
    rw [hsnd]
    refine c_cond rfl (fun ht => ?_) (fun ht => ?_)
    · have hbad : ¬ octSound s i q := of_decide_eq_true ht
      refine k2 ?_
      refine c_region ?_; refine l_neu (n_assign rfl rfl) rfl ?_; refine l_neu (n_assign rfl rfl) rfl ?_; refine l_nil ?_
      refine k1 ?_; refine k10 ?_; refine k11 ?_; refine k12 ?_; refine k11 ?_; refine k11 ?_; refine k12 ?_; refine k11 ?_
      refine met_ret (rets2 rfl rfl rfl) (by repeat (first | exact tail_refl | refine tail_cons rfl ?_ | refine tail_forget _ ?_)) (fun _ _ h => h) ⟨0, false, i + q, rfl, rfl, hiq, ?_⟩
      rw [octI_none hlt hbad]
    · have hgood : octSound s i q := Decidable.not_not.1 (of_decide_eq_false ht)
      obtain ⟨g1, g2, g3⟩ := hgood
      have hgood : octSound s i q := ⟨g1, g2, g3⟩
      have hsub := i64sub48 (s.getD (i + q) 0).toNat g2 (by omega)
      refine k5 ?_; refine k1 ?_; refine k2 ?_
      have hv : s[i + q]? = some (s.getD (i + q) 0) := gD g1
      refine c_region_draw (by kernel_rfl) (by kernel_rfl) ?_; refine d_neu (n_move rfl rfl) rfl rfl ?_; refine d_neu (n_mul rfl rfl (by omega)) rfl rfl ?_; refine d_neu (n_move rfl rfl) rfl rfl ?_; refine d_neu (n_nilCheck_ref rfl) rfl rfl ?_; refine d_neu (n_field_ref rfl) rfl rfl ?_; refine d_neu (n_load_ref rfl rfl rfl) rfl rfl ?_; refine d_neu (n_move rfl rfl) rfl rfl ?_; refine d_neu (n_nilCheck_ref rfl) rfl rfl ?_; refine d_neu (n_field_ref rfl) rfl rfl ?_; refine d_neu (n_load_ref rfl rfl rfl) rfl rfl ?_; refine d_neu (n_index_s rfl rfl (by omega) hv) rfl rfl ?_; refine d_neu (n_sub_w rfl rfl) rfl rfl ?_; refine d_neu (n_convert rfl) rfl rfl ?_; refine d_neu (n_add rfl rfl (by (rw [hsub]; omega))) rfl rfl ?_; refine d_neu (n_assign rfl rfl) rfl rfl ?_; refine d_nil ?_
      rw [hsub]
      refine k1 ?_
      refine c_region ?_; refine l_neu (n_move rfl rfl) rfl ?_; refine l_neu (n_nilCheck_ref rfl) rfl ?_; refine l_neu (n_field_ref rfl) rfl ?_; refine l_neu (n_load_ref rfl rfl rfl) rfl ?_; refine l_neu (n_add rfl rfl (by omega)) rfl ?_; refine l_neu (n_nilCheck_ref rfl) rfl ?_; refine l_neu (n_field_ref rfl) rfl ?_; refine l_eff (e_store_ref TySz.out rfl rfl rfl rfl rfl rfl) ?_; refine l_nil ?_
      refine k4 ?_; refine k1 ?_
      refine c_region ?_; refine l_neu (n_add rfl rfl (by omega)) rfl ?_; refine l_neu (n_move rfl rfl) rfl ?_; refine l_nil ?_
      refine k1 ?_
      refine ⟨q + 1, ⟨by omega, fun p hp => ?_⟩, by omega, ?_⟩
      · by_cases hpq : p = q
        · rw [hpq]; exact hgood
        · exact hok p (by omega)
      rw [show ((octN s i (q + 1) : Nat) : Int) = 8 * ((octN s i q : Nat) : Int) + (((s.getD (i + q) 0).toNat - 48 : Nat) : Int) by simp only [octN]; omega, show rdBox s (i + (q + 1)) = .box [.p (.v (.string ⟨s.toArray⟩)), .p (.v (.int .i64 (((i + q : Nat) : Int) + 1)))] by unfold rdBox; congr 6]
      exact Sees.tailed ⟨le1 rfl, le1 rfl, le1 rfl, trivial⟩ hH (by repeat (first | exact tail_refl | refine tail_cons rfl ?_)) ob_dup
  · have hq3 : q = 3 := by have := of_decide_eq_false ht; omega
    subst hq3
    refine k6 ?_; refine k2 ?_
    refine c_region ?_; refine l_neu (n_move rfl rfl) rfl ?_; refine l_neu (n_convert rfl) rfl ?_; refine l_neu (n_move rfl rfl) rfl ?_; refine l_neu (n_lss rfl rfl) rfl ?_; refine l_neu (n_assign rfl rfl) rfl ?_; refine l_neu (n_assign rfl rfl) rfl ?_; refine l_nil ?_
    refine k1 ?_; refine k10 ?_
    refine met_ret (rets2 rfl rfl rfl) (by repeat (first | exact tail_refl | refine tail_cons rfl ?_ | refine tail_forget _ ?_)) (fun _ _ h => h) ⟨_, _, i + 3, rfl, rfl, hiq, ?_⟩
    rw [octI_all hok]
    by_cases hv : octN s i 3 < 256
    · rw [if_pos hv]
      refine ⟨decide_eq_true (by omega), ?_, rfl⟩
      rw [UInt8.toNat_ofNat']
      have : ∀ n : Fin 256, IntKind.u8.wrap ((n.1 : Nat) : Int) = ((n.1 % 2 ^ 8 : Nat) : Int) := by decide
      exact this ⟨_, hv⟩
    · rw [if_neg hv]
      exact decide_eq_false (by omega)
def escI (s : Str) (i : Nat) : Option (UInt8 × Nat) := if i < s.length then
    (if (s.getD i 0).toNat = 34 ∨ (s.getD i 0).toNat = 92 then some (s.getD i 0, i + 1) else if (s.getD i 0).toNat = 110 then some (10, i + 1) else if (s.getD i 0).toNat = 116 then some (9, i + 1) else (octI s i).map fun x => (x, i + 3))
  else none
theorem escI_eq (s : Str) (i : Nat) : escI s i = (escAt (s.drop i)).map fun p => (p.1, i + p.2) := by
  unfold escI
  by_cases hi : i < s.length
  · rw [if_pos hi]
    have h0 : (s.drop i)[0]? = some (s.getD i 0) := by rw [List.getElem?_drop]; exact gD hi
    have hg : ∀ q, (s.drop i)[q]? = s[i + q]? := fun q => List.getElem?_drop
    obtain ⟨d, r, hdr⟩ : ∃ d r, s.drop i = d :: r := by
      cases h : s.drop i with
      | nil => rw [h] at h0; cases h0
      | cons d r => exact ⟨d, r, rfl⟩
    rw [hdr] at h0 hg ⊢
    have hd : s.getD i 0 = d := by simpa using h0.symm
    rw [hd]
    simp only [escAt]
    by_cases c1 : d.toNat = 34 ∨ d.toNat = 92
    · rw [if_pos c1, if_pos c1]; rfl
    · rw [if_neg c1, if_neg c1]
      by_cases c2 : d.toNat = 110
      · rw [if_pos c2, if_pos c2]; rfl
      · rw [if_neg c2, if_neg c2]
        by_cases c3 : d.toNat = 116
        · rw [if_pos c3, if_pos c3]; rfl
        · rw [if_neg c3, if_neg c3]
          cases r with
          | nil =>
            have : ¬ octSound s i 1 := fun h => by have := h.1; have h2 := hg 1; rw [List.getElem?_eq_getElem this] at h2; simp at h2
            rw [octI_none (q := 1) (by omega) this]; rfl
          | cons e r2 =>
            cases r2 with
            | nil =>
              have : ¬ octSound s i 2 := fun h => by have := h.1; have h2 := hg 2; rw [List.getElem?_eq_getElem this] at h2; simp at h2
              rw [octI_none (q := 2) (by omega) this]; rfl
            | cons f r3 =>
              have h1 := hg 1
              have h2 := hg 2
              simp only [List.getElem?_cons_succ, List.getElem?_cons_zero] at h1 h2
              have l1 := (List.getElem?_eq_some_iff.1 h1.symm).1
              have l2 := (List.getElem?_eq_some_iff.1 h2.symm).1
              have e1 : s.getD (i + 1) 0 = e := by have := gD l1; rw [← h1] at this; exact (Option.some.inj this).symm
              have e2 : s.getD (i + 2) 0 = f := by have := gD l2; rw [← h2] at this; exact (Option.some.inj this).symm
              have hV : octI s i = octV d e f := by
                unfold octI octV octSound octOk
                simp only [octN, Nat.add_zero, hd, e1, e2]
                by_cases hc : (((((d.toNat < 48 ∨ 55 < d.toNat) ∨ e.toNat < 48) ∨ 55 < e.toNat) ∨ f.toNat < 48) ∨ 55 < f.toNat) ∨ 256 ≤ 64 * (d.toNat - 48) + 8 * (e.toNat - 48) + (f.toNat - 48)
                · rw [if_pos hc, if_neg (by omega)]
                · rw [if_neg hc, if_pos (by omega)]
                  congr 2; omega
              rw [hV]
              show (octV d e f).map _ = ((octV d e f).map _).map _
              rw [Option.map_map]; rfl
  · rw [if_neg hi, List.drop_eq_nil_of_le (by omega)]; rfl
theorem escI_le {s : Str} {i j : Nat} {x : UInt8} (h : escI s i = some (x, j)) : i < j ∧ j ≤ s.length := by
  rw [escI_eq] at h
  cases he : escAt (s.drop i) with
  | none => rw [he] at h; cases h
  | some p =>
    obtain ⟨y, k⟩ := p
    rw [he] at h
    simp at h
    have := escAt_pos he
    rw [List.length_drop] at this
    omega
theorem escape_met {gf : Fr} {ob : Obs} (s : Str) (i : Nat) (hi : i ≤ s.length) (hs : s.length ≤ 1073741824) (h5 : getO ob 705 = some (rdBox s i)) :
    Met Tryz.prog 197 [.one (.ref 705 0)] gf ob []
      (fun rs ob' => ∃ (x : Int) (b : Bool) (j : Nat), rs = [t8 x, tBo b] ∧ ob' = (705, rdBox s j) :: ob ∧ j ≤ s.length ∧ match escI s i with
        | some (c, j') => b = true ∧ x = c.toNat ∧ j = j'
        | none => b = false) := by
  refine Met.introH Tryz.func197 (by decide) rfl rfl rfl (fun hH => ?_)
  refine c_sees (fr' := [(0, .s (.one (.ref 705 0)))] ++ gf) (ob' := (705, rdBox s i) :: ob) (Sees.tailed ⟨le1 rfl, trivial⟩ hH (by repeat (first | exact tail_refl | refine tail_cons rfl ?_)) (ob_front h5)) ?_
  refine k2 ?_
  refine c_region ?_; refine l_neu (n_assign rfl rfl) rfl ?_; refine l_neu (n_assign rfl rfl) rfl ?_; refine l_nil ?_
  refine k1 ?_; refine k2 ?_; refine k2 ?_
  refine c_region_draw (by kernel_rfl) (by kernel_rfl) ?_; refine d_neu (n_move rfl rfl) rfl rfl ?_; refine d_neu (n_nilCheck_ref rfl) rfl rfl ?_; refine d_neu (n_field_ref rfl) rfl rfl ?_; refine d_neu (n_load_ref rfl rfl rfl) rfl rfl ?_; refine d_neu (n_move rfl rfl) rfl rfl ?_; refine d_neu (n_nilCheck_ref rfl) rfl rfl ?_; refine d_neu (n_field_ref rfl) rfl rfl ?_; refine d_neu (n_load_ref rfl rfl rfl) rfl rfl ?_; refine d_neu (n_len_s rfl) rfl rfl ?_; refine d_neu (n_geq rfl rfl) rfl rfl ?_; refine d_nil ?_
  refine k1 ?_
  refine c_cond rfl (fun ht => ?_) (fun ht => ?_)
  · have h1 : ¬ i < s.length := by have := of_decide_eq_true ht; omega
    refine k2 ?_
    refine c_region ?_; refine l_neu (n_assign rfl rfl) rfl ?_; refine l_neu (n_assign rfl rfl) rfl ?_; refine l_nil ?_
    refine k1 ?_; refine k10 ?_; refine k11 ?_
    refine met_ret (rets2 rfl rfl rfl) (by repeat (first | exact tail_refl | refine tail_cons rfl ?_ | refine tail_forget _ ?_)) (fun _ _ h => h) ⟨0, false, i, rfl, rfl, hi, ?_⟩
    unfold escI; rw [if_neg h1]
  have hlt : i < s.length := by have := of_decide_eq_false ht; omega
  obtain ⟨c, hc⟩ : ∃ c, c = s.getD i 0 := ⟨_, rfl⟩
  have hv : s[i]? = some c := by rw [hc]; exact gD hlt
  have hE : escI s i = (if c.toNat = 34 ∨ c.toNat = 92 then some (c, i + 1) else if c.toNat = 110 then some (10, i + 1) else if c.toNat = 116 then some (9, i + 1) else (octI s i).map fun x => (x, i + 3)) := by unfold escI; rw [if_pos hlt, ← hc]
  refine k5 ?_; refine k1 ?_; refine k2 ?_; refine k2 ?_
  refine c_region_draw (by kernel_rfl) (by kernel_rfl) ?_; refine d_neu (n_move rfl rfl) rfl rfl ?_; refine d_neu (n_nilCheck_ref rfl) rfl rfl ?_; refine d_neu (n_field_ref rfl) rfl rfl ?_; refine d_neu (n_load_ref rfl rfl rfl) rfl rfl ?_; refine d_neu (n_move rfl rfl) rfl rfl ?_; refine d_neu (n_nilCheck_ref rfl) rfl rfl ?_; refine d_neu (n_field_ref rfl) rfl rfl ?_; refine d_neu (n_load_ref rfl rfl rfl) rfl rfl ?_; refine d_neu (n_index_s rfl rfl (by omega) hv) rfl rfl ?_; refine d_neu (n_assign rfl rfl) rfl rfl ?_; refine d_nil ?_
  refine k1 ?_; refine k2 ?_
  refine c_region ?_; refine l_neu (n_move rfl rfl) rfl ?_; refine l_nil ?_
  refine then_normal ?_
  refine c_block ?_
  refine c_join ([(0, .s (.one (.ref 705 0))), (4, .s (t8 c.toNat)), (24, .s (t8 c.toNat)), (25, sVal (.bool (decide (c.toNat = 34 ∨ c.toNat = 92))))] ++ gf) ((705, rdBox s i) :: ob) ?_ ?_
  · refine k2 ?_
    refine c_region ?_; refine l_neu (n_eql rfl rfl) rfl ?_; refine l_neu (n_assign rfl rfl) rfl ?_; refine l_nil ?_
    refine k1 ?_
    refine c_cond rfl (fun ht => ?_) (fun ht => ?_)
    · have h1 : (c.toNat : Int) = 34 := of_decide_eq_true ht
      refine k5 ?_; refine k1 ?_
      exact Sees.tailed ⟨le1 rfl, le1 rfl, le1 rfl, ⟨_, rfl, .eq (by congr 4; apply propext; constructor <;> intro _ <;> omega)⟩, trivial⟩ hH (by repeat (first | exact tail_refl | refine tail_cons rfl ?_)) (fun _ _ h => h)
    · have h1 : ¬ (c.toNat : Int) = 34 := of_decide_eq_false ht
      skip
      refine c_region ?_; refine l_neu (n_eql rfl rfl) rfl ?_; refine l_neu (n_assign rfl rfl) rfl ?_; refine l_nil ?_
      refine k1 ?_
      exact Sees.tailed ⟨le1 rfl, le1 rfl, le1 rfl, ⟨_, rfl, .eq (by congr 4; apply propext; constructor <;> intro _ <;> omega)⟩, trivial⟩ hH (by repeat (first | exact tail_refl | refine tail_cons rfl ?_)) (fun _ _ h => h)
  skip
  refine c_cond rfl (fun ht => ?_) (fun ht => ?_)
  · have h1 := of_decide_eq_true ht
    rw [if_pos h1] at hE
    refine k2 ?_
    refine c_region ?_; refine l_neu (n_move rfl rfl) rfl ?_; refine l_neu (n_nilCheck_ref rfl) rfl ?_; refine l_neu (n_field_ref rfl) rfl ?_; refine l_neu (n_load_ref rfl rfl rfl) rfl ?_; refine l_neu (n_add rfl rfl (by omega)) rfl ?_; refine l_neu (n_nilCheck_ref rfl) rfl ?_; refine l_neu (n_field_ref rfl) rfl ?_; refine l_eff (e_store_ref TySz.out rfl rfl rfl rfl rfl rfl) ?_; refine l_nil ?_
    refine k1 ?_; refine k2 ?_
    refine c_region ?_; refine l_neu (n_move rfl rfl) rfl ?_; refine l_neu (n_assign rfl rfl) rfl ?_; refine l_neu (n_assign rfl rfl) rfl ?_; refine l_nil ?_
    refine k1 ?_; refine k10 ?_; refine k12 ?_; refine k11 ?_
    refine met_ret (rets2 rfl rfl rfl) (by repeat (first | exact tail_refl | refine tail_cons rfl ?_ | refine tail_forget _ ?_)) ob_dup ⟨c.toNat, true, i + 1, rfl, rfl, hlt, ?_⟩
    rw [hE]; exact ⟨rfl, rfl, rfl⟩
  have h1 := of_decide_eq_false ht
  rw [if_neg h1] at hE
  refine k2 ?_
  refine c_region ?_; refine l_neu (n_eql rfl rfl) rfl ?_; refine l_neu (n_assign rfl rfl) rfl ?_; refine l_nil ?_
  refine k1 ?_
  refine c_cond rfl (fun ht => ?_) (fun ht => ?_)
  · have h2 : (c.toNat : Int) = 110 := of_decide_eq_true ht
    rw [if_pos (by omega)] at hE
    refine k2 ?_
    refine c_region ?_; refine l_neu (n_move rfl rfl) rfl ?_; refine l_neu (n_nilCheck_ref rfl) rfl ?_; refine l_neu (n_field_ref rfl) rfl ?_; refine l_neu (n_load_ref rfl rfl rfl) rfl ?_; refine l_neu (n_add rfl rfl (by omega)) rfl ?_; refine l_neu (n_nilCheck_ref rfl) rfl ?_; refine l_neu (n_field_ref rfl) rfl ?_; refine l_eff (e_store_ref TySz.out rfl rfl rfl rfl rfl rfl) ?_; refine l_nil ?_
    refine k1 ?_; refine k2 ?_
    refine c_region ?_; refine l_neu (n_assign rfl rfl) rfl ?_; refine l_neu (n_assign rfl rfl) rfl ?_; refine l_nil ?_
    refine k1 ?_; refine k10 ?_; refine k12 ?_; refine k11 ?_
    refine met_ret (rets2 rfl rfl rfl) (by repeat (first | exact tail_refl | refine tail_cons rfl ?_ | refine tail_forget _ ?_)) ob_dup ⟨10, true, i + 1, rfl, rfl, hlt, ?_⟩
    rw [hE]; exact ⟨rfl, rfl, rfl⟩
  have h2 : ¬ (c.toNat : Int) = 110 := of_decide_eq_false ht
  rw [if_neg (by omega)] at hE
  refine k2 ?_
  refine c_region ?_; refine l_neu (n_eql rfl rfl) rfl ?_; refine l_neu (n_assign rfl rfl) rfl ?_; refine l_nil ?_
  refine k1 ?_
  refine c_cond rfl (fun ht => ?_) (fun ht => ?_)
  · have h3 : (c.toNat : Int) = 116 := of_decide_eq_true ht
    rw [if_pos (by omega)] at hE
    refine k2 ?_
    refine c_region ?_; refine l_neu (n_move rfl rfl) rfl ?_; refine l_neu (n_nilCheck_ref rfl) rfl ?_; refine l_neu (n_field_ref rfl) rfl ?_; refine l_neu (n_load_ref rfl rfl rfl) rfl ?_; refine l_neu (n_add rfl rfl (by omega)) rfl ?_; refine l_neu (n_nilCheck_ref rfl) rfl ?_; refine l_neu (n_field_ref rfl) rfl ?_; refine l_eff (e_store_ref TySz.out rfl rfl rfl rfl rfl rfl) ?_; refine l_nil ?_
    refine k1 ?_; refine k2 ?_
    refine c_region ?_; refine l_neu (n_assign rfl rfl) rfl ?_; refine l_neu (n_assign rfl rfl) rfl ?_; refine l_nil ?_
    refine k1 ?_; refine k10 ?_; refine k12 ?_; refine k11 ?_
    refine met_ret (rets2 rfl rfl rfl) (by repeat (first | exact tail_refl | refine tail_cons rfl ?_ | refine tail_forget _ ?_)) ob_dup ⟨9, true, i + 1, rfl, rfl, hlt, ?_⟩
    rw [hE]; exact ⟨rfl, rfl, rfl⟩
  have h3 : ¬ (c.toNat : Int) = 116 := of_decide_eq_false ht
  rw [if_neg (by omega)] at hE
  refine k5 ?_; refine k2 ?_
  refine c_region ?_; refine l_neu (n_move rfl rfl) rfl ?_; refine l_met (octal_met s i hi hs rfl) rfl rfl rfl ?_; rintro _ _ ⟨x, b, j, rfl, rfl, hj, ho⟩; refine l_neu (n_extract rfl rfl) rfl ?_; refine l_neu (n_extract rfl rfl) rfl ?_; refine l_neu (n_assign rfl rfl) rfl ?_; refine l_neu (n_assign rfl rfl) rfl ?_; refine l_nil ?_
  refine k1 ?_; refine k10 ?_
  refine met_ret (rets2 rfl rfl rfl) (by repeat (first | exact tail_refl | refine tail_cons rfl ?_ | refine tail_forget _ ?_)) ob_dup ⟨x, b, j, rfl, rfl, hj, ?_⟩
  rw [hE]
  cases hoc : octI s i with
  | none => rw [hoc] at ho; exact ho
  | some y => rw [hoc] at ho; exact ho
def goOn (s acc : Str) : Option (UInt8 × Nat) → Option (Str × Nat)
  | none => none
  | some (x, j) => wordGo s j (acc ++ [x])
theorem wordGo_step {s : Str} {i : Nat} {acc : Str} (h : i < s.length) : wordGo s i acc = if (s.getD i 0).toNat = 34 then some (acc, i + 1) else if (s.getD i 0).toNat = 92 then goOn s acc (escI s (i + 1)) else wordGo s (i + 1) (acc ++ [s.getD i 0]) := by
  have hg : s[i] = s.getD i 0 := by have := gD h; rw [List.getElem?_eq_getElem h] at this; exact Option.some.inj this
  rw [wordGo, dif_pos h, hg, escI_eq]
  by_cases c1 : (s.getD i 0).toNat = 34
  · rw [if_pos c1, if_pos c1]
  · rw [if_neg c1, if_neg c1]
    by_cases c2 : (s.getD i 0).toNat = 92
    · rw [if_pos c2, if_pos c2]
      split
      · rename_i he; rw [he]; rfl
      · rename_i x k he; rw [he]; rfl
    · rw [if_neg c2, if_neg c2]
theorem wordGo_end {s : Str} {i : Nat} {acc : Str} (h : s.length ≤ i) : wordGo s i acc = none := by rw [wordGo, dif_neg (by omega)]
theorem quoted_met {gf : Fr} (s : Str) (i : Nat) (hi : i ≤ s.length) (hs : s.length ≤ 1073741824) :
    Met Tryz.prog 187 [.one (.ref 705 0)] gf [(705, rdBox s i)] [706]
      (fun rs ob' => ∃ (w : Str) (b : Bool) (j : Nat), rs = [.one (.p (.v (.string ⟨w.toArray⟩))), tBo b] ∧ ob' = [(705, rdBox s j)] ∧ j ≤ s.length ∧ match wordGo s i [] with
        | some (w', j') => b = true ∧ w = w' ∧ j = j'
        | none => b = false) := by
  refine Met.introH Tryz.func187 (by decide) rfl rfl rfl (fun hH => ?_)
  refine k2 ?_
  refine c_region ?_; refine l_neu (n_assign rfl rfl) rfl ?_; refine l_neu (n_assign rfl rfl) rfl ?_; refine l_nil ?_
  refine k1 ?_; refine k2 ?_
  refine c_region ?_; refine l_effv (e_adoptG 706 _ u8C rfl rfl) rfl ?_; refine l_nil ?_
  refine k1 ?_; refine k2 ?_; refine k3 ?_
  refine c_while (X := Nat × Str) (fun z => ([(0, .s (.one (.ref 705 0))), (4, .s (.one (.mut 706)))] ++ Fr.forget 706 gf, [(706, .grow 5 UInt8 1 u8C z.2), (705, rdBox s z.1)])) (fun z => z.1 ≤ s.length ∧ z.2.length ≤ z.1 ∧ wordGo s z.1 z.2 = wordGo s i []) (fun z => s.length - z.1) (i, []) ⟨hi, Nat.zero_le _, rfl⟩ ?_ ?_
  · exact Sees.tailed ⟨le1 rfl, le1 rfl, trivial⟩ (high_forget hH) (by repeat (first | exact tail_refl | refine tail_cons rfl ?_ | refine tail_forget' _ ?_ | refine tail_forget _ ?_)) (ObIn.spec (ob' := [(706, _), (705, _)]) ⟨rfl, rfl, trivial⟩)
  rintro ⟨p, acc⟩ ⟨hp, hal, hgo⟩
  dsimp only at hp hal hgo ⊢
  refine k2 ?_; refine k2 ?_
  refine c_region_draw (by kernel_rfl) (by kernel_rfl) ?_; refine d_neu (n_move rfl rfl) rfl rfl ?_; refine d_neu (n_nilCheck_ref rfl) rfl rfl ?_; refine d_neu (n_field_ref rfl) rfl rfl ?_; refine d_neu (n_load_ref rfl rfl rfl) rfl rfl ?_; refine d_neu (n_move rfl rfl) rfl rfl ?_; refine d_neu (n_nilCheck_ref rfl) rfl rfl ?_; refine d_neu (n_field_ref rfl) rfl rfl ?_; refine d_neu (n_load_ref rfl rfl rfl) rfl rfl ?_; refine d_neu (n_len_s rfl) rfl rfl ?_; refine d_neu (n_lss rfl rfl) rfl rfl ?_; refine d_nil ?_
  refine k1 ?_
  refine c_cond rfl (fun ht => ?_) (fun ht => ?_)
  · have hlt : p < s.length := by have := of_decide_eq_true ht; omega
    obtain ⟨c, hc⟩ : ∃ c, c = s.getD p 0 := ⟨_, rfl⟩
    have hv : s[p]? = some c := by rw [hc]; exact gD hlt
    rw [wordGo_step hlt, ← hc] at hgo
    refine k5 ?_; refine k1 ?_; refine k3 ?_; refine k2 ?_
    refine c_region_draw (by kernel_rfl) (by kernel_rfl) ?_; refine d_neu (n_move rfl rfl) rfl rfl ?_; refine d_neu (n_nilCheck_ref rfl) rfl rfl ?_; refine d_neu (n_field_ref rfl) rfl rfl ?_; refine d_neu (n_load_ref rfl rfl rfl) rfl rfl ?_; refine d_neu (n_move rfl rfl) rfl rfl ?_; refine d_neu (n_nilCheck_ref rfl) rfl rfl ?_; refine d_neu (n_field_ref rfl) rfl rfl ?_; refine d_neu (n_load_ref rfl rfl rfl) rfl rfl ?_; refine d_neu (n_index_s rfl rfl (by omega) hv) rfl rfl ?_; refine d_neu (n_assign rfl rfl) rfl rfl ?_; refine d_nil ?_
    refine k1 ?_; refine k2 ?_
    refine c_region ?_; refine l_neu (n_move rfl rfl) rfl ?_; refine l_neu (n_nilCheck_ref rfl) rfl ?_; refine l_neu (n_field_ref rfl) rfl ?_; refine l_neu (n_load_ref rfl rfl rfl) rfl ?_; refine l_neu (n_add rfl rfl (by omega)) rfl ?_; refine l_neu (n_nilCheck_ref rfl) rfl ?_; refine l_neu (n_field_ref rfl) rfl ?_; refine l_eff (e_store_ref TySz.out rfl rfl rfl rfl rfl rfl) ?_; refine l_nil ?_
    refine k1 ?_; refine k2 ?_; refine k2 ?_
    refine c_region ?_; refine l_neu (n_move rfl rfl) rfl ?_; refine l_neu (n_eql rfl rfl) rfl ?_; refine l_nil ?_
    refine k1 ?_
    refine c_cond rfl (fun ht => ?_) (fun ht => ?_)
    · have h1 : (c.toNat : Int) = 34 := of_decide_eq_true ht
      rw [if_pos (by omega)] at hgo
      refine k2 ?_
      refine c_sees (Sees.growBuf (t := 4) rfl rfl rfl) ?_
      refine c_region ?_; refine l_neu (n_move rfl rfl) rfl ?_; refine l_neu (n_bytes_string TyStr.out rfl (.buf _ _ _ _ _)) rfl ?_; refine l_neu (n_assign rfl rfl) rfl ?_; refine l_neu (n_assign rfl rfl) rfl ?_; refine l_nil ?_
      refine k1 ?_; refine k10 ?_; refine k11 ?_; refine k12 ?_; refine k11 ?_; refine k12 ?_; refine k11 ?_
      refine met_ret (rets2 rfl rfl rfl) (by repeat (first | exact tail_refl | refine tail_cons rfl ?_ | refine tail_forget _ ?_)) (ObIn.spec (ob' := [(705, rdBox s (p + 1))]) ⟨rfl, trivial⟩) ⟨acc, true, p + 1, rfl, rfl, hlt, ?_⟩
      rw [← hgo]; exact ⟨rfl, rfl, rfl⟩
    have h1 : ¬ (c.toNat : Int) = 34 := of_decide_eq_false ht
    rw [if_neg (by omega)] at hgo
    obtain ⟨nx, hnx⟩ : ∃ nx : Option (UInt8 × Nat), nx = if c.toNat = 92 then escI s (p + 1) else some (c, p + 1) := ⟨_, rfl⟩
    have hgo2 : goOn s acc nx = wordGo s i [] := by
      rw [← hgo, hnx]
      by_cases h2 : c.toNat = 92
      · rw [if_pos h2, if_pos h2]
      · rw [if_neg h2, if_neg h2]; rfl
    have hnb : ∀ x j, nx = some (x, j) → p < j ∧ j ≤ s.length := by
      intro x j hj
      rw [hnx] at hj
      by_cases h2 : c.toNat = 92
      · rw [if_pos h2] at hj; have := escI_le hj; omega
      · rw [if_neg h2] at hj; cases hj; omega
    cases hq : nx with
    | none =>
      refine k5 ?_; refine k1 ?_; refine k2 ?_; refine k2 ?_
      refine c_region ?_; refine l_neu (n_move rfl rfl) rfl ?_; refine l_neu (n_eql rfl rfl) rfl ?_; refine l_nil ?_
      refine k1 ?_
      rw [hq] at hgo2
      have h2 : c.toNat = 92 := by
        by_cases h2 : c.toNat = 92
        · exact h2
        · rw [if_neg h2, hq] at hnx; cases hnx
      rw [if_pos h2, hq] at hnx
      refine c_cond rfl (fun ht => ?_) (fun ht => ?_)
      rotate_left
      · exact absurd (show (c.toNat : Int) = 92 by omega) (of_decide_eq_false ht)
      refine k2 ?_
      refine c_region ?_; refine l_neu (n_assign rfl rfl) rfl ?_; refine l_nil ?_
      refine k1 ?_; refine k2 ?_
      refine c_region ?_; refine l_neu (n_move rfl rfl) rfl ?_; refine l_met (escape_met s (p + 1) hlt hs rfl) rfl rfl rfl ?_; rintro _ _ ⟨x, b, j, rfl, rfl, hj, ho⟩; refine l_neu (n_move rfl rfl) rfl ?_; refine l_neu (n_extract rfl rfl) rfl ?_; refine l_neu (n_extract rfl rfl) rfl ?_; refine l_neu (n_assign rfl rfl) rfl ?_; refine l_neu (n_assign rfl rfl) rfl ?_; refine l_nil ?_
      rw [← hnx] at ho
      have ho : b = false := ho
      subst ho
      refine k1 ?_; refine k2 ?_
      refine c_region ?_; refine l_neu (n_move rfl rfl) rfl ?_; refine l_neu (n_not rfl) rfl ?_; refine l_nil ?_
      refine k1 ?_
      refine c_cond rfl (fun ht => ?_) (fun ht => ?_)
      · refine k2 ?_
        refine c_region ?_; refine l_neu (n_assign rfl rfl) rfl ?_; refine l_neu (n_assign rfl rfl) rfl ?_; refine l_nil ?_
        refine k1 ?_; refine k10 ?_; refine k11 ?_; refine k12 ?_; refine k11 ?_; refine k12 ?_; refine k11 ?_
        refine met_ret (rets2 rfl rfl rfl) (by repeat (first | exact tail_refl | refine tail_cons rfl ?_ | refine tail_forget _ ?_)) (ObIn.spec (ob' := [(705, rdBox s j)]) ⟨rfl, trivial⟩) ⟨[], false, j, rfl, rfl, hj, ?_⟩
        rw [← hgo2]; exact (rfl : false = false)
      · cases ht
    | some q =>
      obtain ⟨y, j⟩ := q
      obtain ⟨hj1, hj2⟩ := hnb y j hq
      rw [hq] at hgo2
      refine c_skip ?_
      refine then_normal ?_
      refine c_join ([(0, .s (.one (.ref 705 0))), (4, .s (.one (.mut 706))), (5, .s (t8 y.toNat))] ++ Fr.forget 706 gf) [(706, .grow 5 UInt8 1 u8C acc), (705, rdBox s j)] ?_ ?_
      · refine k2 ?_
        refine c_region ?_; refine l_neu (n_move rfl rfl) rfl ?_; refine l_neu (n_eql rfl rfl) rfl ?_; refine l_nil ?_
        refine k1 ?_
        refine c_cond rfl (fun ht => ?_) (fun ht => ?_)
        · have h2 : c.toNat = 92 := by have : (c.toNat : Int) = 92 := of_decide_eq_true ht; omega
          rw [if_pos h2, hq] at hnx
          refine k2 ?_
          refine c_region ?_; refine l_neu (n_assign rfl rfl) rfl ?_; refine l_nil ?_
          refine k1 ?_; refine k2 ?_
          refine c_region ?_; refine l_neu (n_move rfl rfl) rfl ?_; refine l_met (escape_met s (p + 1) hlt hs rfl) rfl rfl rfl ?_; rintro _ _ ⟨x, b, j', rfl, rfl, hj, ho⟩; refine l_neu (n_move rfl rfl) rfl ?_; refine l_neu (n_extract rfl rfl) rfl ?_; refine l_neu (n_extract rfl rfl) rfl ?_; refine l_neu (n_assign rfl rfl) rfl ?_; refine l_neu (n_assign rfl rfl) rfl ?_; refine l_nil ?_
          rw [← hnx] at ho
          obtain ⟨rfl, rfl, rfl⟩ := ho
          refine k1 ?_; refine k2 ?_
          refine c_region ?_; refine l_neu (n_move rfl rfl) rfl ?_; refine l_neu (n_not rfl) rfl ?_; refine l_nil ?_
          refine k1 ?_
          refine c_cond rfl (fun ht => ?_) (fun ht => ?_)
          · cases ht
          refine k5 ?_; refine k1 ?_
          exact Sees.tailed ⟨le1 rfl, le1 rfl, le1 rfl, trivial⟩ (high_forget hH) (by repeat (first | exact tail_refl | refine tail_cons rfl ?_)) (ObIn.spec (ob' := [(706, _), (705, _)]) ⟨rfl, rfl, trivial⟩)
        · have h2 : ¬ c.toNat = 92 := by have : ¬ (c.toNat : Int) = 92 := of_decide_eq_false ht; omega
          rw [if_neg h2, hq] at hnx
          obtain ⟨rfl, rfl⟩ : y = c ∧ j = p + 1 := by simpa using hnx
          refine k5 ?_; refine k1 ?_
          exact Sees.tailed ⟨le1 rfl, le1 rfl, le1 rfl, trivial⟩ (high_forget hH) (by repeat (first | exact tail_refl | refine tail_cons rfl ?_)) (ObIn.spec (ob' := [(706, _), (705, _)]) ⟨rfl, rfl, trivial⟩)
      skip
      refine c_region ?_; refine l_neu (n_move rfl rfl) rfl ?_; refine l_neu (n_move rfl rfl) rfl ?_; refine l_neu (n_buildSlice (c := u8C) (ys := [y]) (asm_cons rfl rfl rfl rfl asm_nil) rfl rfl rfl) rfl ?_; refine l_effv (e_append_g rfl rfl rfl (.pure _ _ _ _) (by (simp; omega)) rfl) rfl ?_; refine l_neu (n_assign rfl rfl) rfl ?_; refine l_nil ?_
      refine k4 ?_; refine k1 ?_
      refine ⟨(j, acc ++ [y]), ⟨hj2, by simp; omega, hgo2⟩, by dsimp only; omega, ?_⟩
      exact Sees.tailed ⟨le1 rfl, le1 rfl, trivial⟩ (high_forget hH) (by repeat (first | exact tail_refl | refine tail_cons rfl ?_ | refine tail_forget' _ ?_)) (ObIn.spec (ob' := [(706, _), (705, _)]) ⟨rfl, rfl, trivial⟩)
  · have hend : s.length ≤ p := by have := of_decide_eq_false ht; omega
    rw [wordGo_end hend] at hgo
    refine k6 ?_; refine k2 ?_
    refine c_region ?_; refine l_neu (n_assign rfl rfl) rfl ?_; refine l_neu (n_assign rfl rfl) rfl ?_; refine l_nil ?_
    refine k1 ?_; refine k10 ?_
    refine met_ret (rets2 rfl rfl rfl) (by repeat (first | exact tail_refl | refine tail_cons rfl ?_ | refine tail_forget _ ?_)) (ObIn.spec (ob' := [(705, rdBox s p)]) ⟨rfl, trivial⟩) ⟨[], false, p, rfl, rfl, hp, ?_⟩
    rw [← hgo]
theorem getD_drop {s : Str} {i k : Nat} (h : i + k < s.length) : (s.drop i).getD k 0 = s.getD (i + k) 0 := by
  have h1 := gD (s := s.drop i) (i := k) (by rw [List.length_drop]; omega)
  rw [List.getElem?_drop, gD h] at h1
  exact (Option.some.inj h1).symm
theorem wordGo_drop (s : Str) (i : Nat) (n : Nat) : ∀ (k : Nat) (acc : Str), s.length - (i + k) ≤ n → wordGo (s.drop i) k acc = (wordGo s (i + k) acc).map fun p => (p.1, p.2 - i) := by
  induction n with
  | zero =>
    intro k acc h
    rw [wordGo_end (by rw [List.length_drop]; omega), wordGo_end (by omega)]; rfl
  | succ n ih =>
    intro k acc h
    by_cases hlt : i + k < s.length
    · rw [wordGo_step (by rw [List.length_drop]; omega), wordGo_step hlt, getD_drop hlt]
      by_cases c1 : (s.getD (i + k) 0).toNat = 34
      · rw [if_pos c1, if_pos c1]; simp; omega
      · rw [if_neg c1, if_neg c1]
        by_cases c2 : (s.getD (i + k) 0).toNat = 92
        · rw [if_pos c2, if_pos c2, escI_eq, escI_eq, List.drop_drop, show i + (k + 1) = i + k + 1 by omega]
          cases he : escAt (s.drop (i + k + 1)) with
          | none => rfl
          | some q =>
            obtain ⟨x, e⟩ := q
            simp only [Option.map_some]
            show wordGo (s.drop i) (k + 1 + e) (acc ++ [x]) = Option.map _ (wordGo s (i + k + 1 + e) (acc ++ [x]))
            rw [ih (k + 1 + e) _ (by omega), show i + (k + 1 + e) = i + k + 1 + e by omega]
        · rw [if_neg c2, if_neg c2, ih (k + 1) _ (by omega), show i + (k + 1) = i + k + 1 by omega]
    · rw [wordGo_end (by rw [List.length_drop]; omega), wordGo_end (by omega)]; rfl
theorem head_drop {s : Str} {i : Nat} : (s.drop i).head? = some 34 ↔ (i < s.length ∧ (s.getD i 0).toNat = 34) := by
  rw [List.head?_drop]
  by_cases h : i < s.length
  · rw [gD h, Option.some.injEq, ← UInt8.toNat_inj]
    have : (34 : UInt8).toNat = 34 := rfl
    constructor
    · intro h1; exact ⟨h, by omega⟩
    · intro h1; omega
  · rw [List.getElem?_eq_none (by omega)]
    constructor
    · intro h1; cases h1
    · intro h1; exact absurd h1.1 h
theorem takeWhile_le {p : UInt8 → Bool} (s : Str) (i : Nat) : ((s.drop i).takeWhile p).length ≤ s.length - i := by
  have := (List.takeWhile_sublist p (l := s.drop i)).length_le
  rw [List.length_drop] at this; exact this
theorem takeWhile_take {p : UInt8 → Bool} : ∀ (s : Str), s.take (s.takeWhile p).length = s.takeWhile p
  | [] => rfl
  | c :: r => by
    by_cases hc : p c = true
    · rw [List.takeWhile_cons, if_pos hc, List.length_cons, List.take_succ_cons, takeWhile_take r]
    · rw [List.takeWhile_cons, if_neg hc]; rfl
theorem wordGo_len {s : Str} {i j : Nat} {w : Str} (h : wordGo s i [] = some (w, j)) : i < j ∧ j ≤ s.length ∧ w.length + i ≤ j := by
  have := wordGo_pos (s := s) (s.length - i) (Nat.le_refl _) h
  simpa using this
set_option maxHeartbeats 1000000
theorem word_met {gf : Fr} (s : Str) (i : Nat) (hi : i ≤ s.length) (hs : s.length ≤ 16777216) :
    Met Tryz.prog 168 [.one (.ref 705 0)] gf [(705, rdBox s i)] [706]
      (fun rs ob' => ∃ (w : Str) (b : Bool) (j : Nat), rs = [.one (.p (.v (.string ⟨w.toArray⟩))), tBo b] ∧ ob' = [(705, rdBox s j)] ∧ j ≤ s.length ∧ match wordAt (s.drop i) with
        | some (w', k) => b = true ∧ w = w' ∧ j = i + k
        | none => b = false) := by
  have hcase : (i < s.length ∧ (s.getD i 0).toNat = 34 ∧ wordGo s (i + 1) [] = none) ∨
      ∃ w j, ((i < s.length ∧ (s.getD i 0).toNat = 34 ∧ wordGo s (i + 1) [] = some (w, j)) ∨ (¬ (i < s.length ∧ (s.getD i 0).toNat = 34) ∧ w = (s.drop i).takeWhile plainB ∧ j = i + w.length)) ∧
        i ≤ j ∧ j ≤ s.length ∧ w.length ≤ s.length ∧ wordAt (s.drop i) = if quoteOf w = (s.drop i).take (j - i) then some (w, j - i) else none := by
    by_cases hq : i < s.length ∧ (s.getD i 0).toNat = 34
    · cases hg : wordGo s (i + 1) [] with
      | none => exact .inl ⟨hq.1, hq.2, rfl⟩
      | some p =>
        obtain ⟨w, j⟩ := p
        have h1 := wordGo_len hg
        refine .inr ⟨w, j, .inl ⟨hq.1, hq.2, rfl⟩, by omega, by omega, by omega, ?_⟩
        unfold wordAt
        rw [if_pos (head_drop.2 hq), wordGo_drop s i s.length 1 [] (by omega), hg]
        rfl
    · have hl := takeWhile_le (p := plainB) s i
      refine .inr ⟨(s.drop i).takeWhile plainB, _, .inr ⟨hq, rfl, rfl⟩, by omega, by omega, by omega, ?_⟩
      unfold wordAt
      rw [if_neg (fun h => hq (head_drop.1 h)), show i + ((s.drop i).takeWhile plainB).length - i = ((s.drop i).takeWhile plainB).length by omega, takeWhile_take]
      by_cases hn : (s.drop i).takeWhile plainB = []
      · rw [if_pos hn, hn]; rfl
      · rw [if_neg hn]
        have : quoteOf ((s.drop i).takeWhile plainB) = (s.drop i).takeWhile plainB := by unfold quoteOf; rw [if_pos ⟨hn, List.all_takeWhile⟩]
        rw [this, if_pos rfl]
  have htest : decide ((i : Int) < (s.length : Int) ∧ ((s.getD i 0).toNat : Int) = 34) = decide (i < s.length ∧ (s.getD i 0).toNat = 34) := by congr 1; apply propext; constructor <;> intro h <;> omega
  refine Met.introH Tryz.func168 (by decide) rfl rfl rfl (fun hH => ?_)
  refine k2 ?_
  refine c_region ?_; refine l_neu (n_assign rfl rfl) rfl ?_; refine l_neu (n_assign rfl rfl) rfl ?_; refine l_nil ?_
  refine k1 ?_; refine k2 ?_
  refine c_region ?_; refine l_neu (n_move rfl rfl) rfl ?_; refine l_neu (n_nilCheck_ref rfl) rfl ?_; refine l_neu (n_field_ref rfl) rfl ?_; refine l_neu (n_load_ref rfl rfl rfl) rfl ?_; refine l_neu (n_assign rfl rfl) rfl ?_; refine l_nil ?_
  refine k1 ?_; refine k2 ?_
  refine c_region ?_; refine l_neu (n_assign rfl rfl) rfl ?_; refine l_nil ?_
  rcases hcase with ⟨hlt, h34, hg⟩ | ⟨w, j, hwj, hij, hjl, hwl, hW⟩
  · refine k1 ?_; refine k2 ?_; refine k2 ?_
    refine c_region ?_; refine l_neu (n_move rfl rfl) rfl ?_; refine l_neu (n_move rfl rfl) rfl ?_; refine l_neu (n_nilCheck_ref rfl) rfl ?_; refine l_neu (n_field_ref rfl) rfl ?_; refine l_neu (n_load_ref rfl rfl rfl) rfl ?_; refine l_neu (n_len_s rfl) rfl ?_; refine l_neu (n_lss rfl rfl) rfl ?_; refine l_neu (n_move rfl rfl) rfl ?_; refine l_guard rfl rfl rfl rfl (fun hg => by rw [hg]; exact n_move rfl rfl) ?_; refine l_guard rfl rfl rfl rfl (fun hg => by rw [hg]; exact n_nilCheck_ref rfl) ?_; refine l_guard rfl rfl rfl rfl (fun hg => by rw [hg]; exact n_field_ref rfl) ?_; refine l_guard rfl rfl rfl rfl (fun hg => by rw [hg]; exact n_load_ref rfl rfl rfl) ?_; refine l_guard rfl rfl rfl rfl (fun hg => by rw [hg]; exact n_move rfl rfl) ?_; refine l_guard rfl rfl rfl rfl (fun hg => by have hq := hg; (try simp at hq); rw [hg]; exact n_index_s rfl rfl (by omega) (gD (by omega))) ?_; refine l_guard rfl rfl rfl rfl (fun hg => by rw [hg]; exact n_eql rfl rfl) ?_; refine l_neu (n_pick_bool rfl (fun h => by first | rfl | (rw [h]; rfl)) (fun h => by first | rfl | (rw [h]; rfl))) rfl ?_; refine l_nil ?_
    simp only [and_pick, Int.toNat_natCast]
    rw [htest]
    refine k1 ?_
    refine c_cond rfl (fun ht => ?_) (fun ht => ?_)
    rotate_left
    · exact absurd ⟨hlt, h34⟩ (of_decide_eq_false ht)
    refine k2 ?_
    refine c_region ?_; refine l_neu (n_move rfl rfl) rfl ?_; refine l_neu (n_nilCheck_ref rfl) rfl ?_; refine l_neu (n_field_ref rfl) rfl ?_; refine l_neu (n_load_ref rfl rfl rfl) rfl ?_; refine l_neu (n_add rfl rfl (by omega)) rfl ?_; refine l_neu (n_nilCheck_ref rfl) rfl ?_; refine l_neu (n_field_ref rfl) rfl ?_; refine l_eff (e_store_ref TySz.out rfl rfl rfl rfl rfl rfl) ?_; refine l_nil ?_
    refine k1 ?_; refine k2 ?_
    refine c_sees (fr' := [(0, .s (.one (.ref 705 0))), (4, sInt i)] ++ gf) (ob' := [(705, rdBox s (i + 1))]) (Sees.tailed ⟨le1 rfl, le1 rfl, trivial⟩ hH (by repeat (first | exact tail_refl | refine tail_cons rfl ?_)) (ObIn.spec (ob' := [(705, _)]) ⟨rfl, trivial⟩)) ?_
    refine c_region ?_; refine l_neu (n_assign rfl rfl) rfl ?_; refine l_nil ?_
    refine k1 ?_; refine k2 ?_
    refine c_region ?_; refine l_neu (n_move rfl rfl) rfl ?_; refine l_met (quoted_met s (i + 1) hlt (by omega)) rfl rfl rfl ?_; rintro _ _ ⟨w, b, j, rfl, rfl, hj, ho⟩; refine l_neu (n_move rfl rfl) rfl ?_; refine l_neu (n_extract rfl rfl) rfl ?_; refine l_neu (n_extract rfl rfl) rfl ?_; refine l_neu (n_assign rfl rfl) rfl ?_; refine l_neu (n_assign rfl rfl) rfl ?_; refine l_nil ?_
    rw [hg] at ho
    have ho : b = false := ho
    subst ho
    refine k1 ?_; refine k2 ?_
    refine c_region ?_; refine l_neu (n_move rfl rfl) rfl ?_; refine l_neu (n_not rfl) rfl ?_; refine l_nil ?_
    refine k1 ?_
    refine c_cond rfl (fun ht => ?_) (fun ht => ?_)
    · refine k2 ?_
      refine c_region ?_; refine l_neu (n_assign rfl rfl) rfl ?_; refine l_neu (n_assign rfl rfl) rfl ?_; refine l_nil ?_
      refine k1 ?_; refine k10 ?_; refine k11 ?_
      refine met_ret (rets2 rfl rfl rfl) (by repeat (first | exact tail_refl | refine tail_cons rfl ?_ | refine tail_forget _ ?_)) (fun _ _ h => h) ⟨[], false, j, rfl, rfl, hj, ?_⟩
      have : wordAt (s.drop i) = none := by
        unfold wordAt
        rw [if_pos (head_drop.2 ⟨hlt, h34⟩), wordGo_drop s i s.length 1 [] (by omega), hg]; rfl
      rw [this]
    · cases ht
  · refine then_normal ?_
    refine c_join ([(0, .s (.one (.ref 705 0))), (4, sInt i), (5, sStr w)] ++ Fr.forget 706 gf) [(705, rdBox s j)] ?_ ?_
    · refine k2 ?_
      refine c_region ?_; refine l_neu (n_move rfl rfl) rfl ?_; refine l_neu (n_move rfl rfl) rfl ?_; refine l_neu (n_nilCheck_ref rfl) rfl ?_; refine l_neu (n_field_ref rfl) rfl ?_; refine l_neu (n_load_ref rfl rfl rfl) rfl ?_; refine l_neu (n_len_s rfl) rfl ?_; refine l_neu (n_lss rfl rfl) rfl ?_; refine l_neu (n_move rfl rfl) rfl ?_; refine l_guard rfl rfl rfl rfl (fun hg => by rw [hg]; exact n_move rfl rfl) ?_; refine l_guard rfl rfl rfl rfl (fun hg => by rw [hg]; exact n_nilCheck_ref rfl) ?_; refine l_guard rfl rfl rfl rfl (fun hg => by rw [hg]; exact n_field_ref rfl) ?_; refine l_guard rfl rfl rfl rfl (fun hg => by rw [hg]; exact n_load_ref rfl rfl rfl) ?_; refine l_guard rfl rfl rfl rfl (fun hg => by rw [hg]; exact n_move rfl rfl) ?_; refine l_guard rfl rfl rfl rfl (fun hg => by have hq := hg; (try simp at hq); rw [hg]; exact n_index_s rfl rfl (by omega) (gD (by omega))) ?_; refine l_guard rfl rfl rfl rfl (fun hg => by rw [hg]; exact n_eql rfl rfl) ?_; refine l_neu (n_pick_bool rfl (fun h => by first | rfl | (rw [h]; rfl)) (fun h => by first | rfl | (rw [h]; rfl))) rfl ?_; refine l_nil ?_
      simp only [and_pick, Int.toNat_natCast]
      rw [htest]
      refine k1 ?_
      refine c_cond rfl (fun ht => ?_) (fun ht => ?_)
      · have hq := of_decide_eq_true ht
        rcases hwj with ⟨_, _, hg⟩ | ⟨hn, _⟩
        · refine k2 ?_
          refine c_region ?_; refine l_neu (n_move rfl rfl) rfl ?_; refine l_neu (n_nilCheck_ref rfl) rfl ?_; refine l_neu (n_field_ref rfl) rfl ?_; refine l_neu (n_load_ref rfl rfl rfl) rfl ?_; refine l_neu (n_add rfl rfl (by omega)) rfl ?_; refine l_neu (n_nilCheck_ref rfl) rfl ?_; refine l_neu (n_field_ref rfl) rfl ?_; refine l_eff (e_store_ref TySz.out rfl rfl rfl rfl rfl rfl) ?_; refine l_nil ?_
          refine k1 ?_; refine k2 ?_
          refine c_sees (fr' := [(0, .s (.one (.ref 705 0))), (4, sInt i)] ++ gf) (ob' := [(705, rdBox s (i + 1))]) (Sees.tailed ⟨le1 rfl, le1 rfl, trivial⟩ hH (by repeat (first | exact tail_refl | refine tail_cons rfl ?_)) (ObIn.spec (ob' := [(705, _)]) ⟨rfl, trivial⟩)) ?_
          refine c_region ?_; refine l_neu (n_assign rfl rfl) rfl ?_; refine l_nil ?_
          refine k1 ?_; refine k2 ?_
          refine c_region ?_; refine l_neu (n_move rfl rfl) rfl ?_; refine l_met (quoted_met s (i + 1) hq.1 (by omega)) rfl rfl rfl ?_; rintro _ _ ⟨w', b, j', rfl, rfl, hj, ho⟩; refine l_neu (n_move rfl rfl) rfl ?_; refine l_neu (n_extract rfl rfl) rfl ?_; refine l_neu (n_extract rfl rfl) rfl ?_; refine l_neu (n_assign rfl rfl) rfl ?_; refine l_neu (n_assign rfl rfl) rfl ?_; refine l_nil ?_
          rw [hg] at ho
          obtain ⟨rfl, rfl, rfl⟩ := ho
          refine k1 ?_; refine k2 ?_
          refine c_region ?_; refine l_neu (n_move rfl rfl) rfl ?_; refine l_neu (n_not rfl) rfl ?_; refine l_nil ?_
          refine k1 ?_
          refine c_cond rfl (fun ht => ?_) (fun ht => ?_)
          · cases ht
          refine k5 ?_; refine k1 ?_
          exact Sees.tailed ⟨le1 rfl, le1 rfl, le1 rfl, trivial⟩ (high_forget hH) (by repeat (first | exact tail_refl | refine tail_cons rfl ?_ | refine tail_forget' _ ?_ | refine tail_forget _ ?_)) (ObIn.spec (ob' := [(705, _)]) ⟨rfl, trivial⟩)
        · exact absurd hq hn
      · have hq := of_decide_eq_false ht
        rcases hwj with ⟨h1, h2, _⟩ | ⟨_, hw, hj⟩
        · exact absurd ⟨h1, h2⟩ hq
        have hl := takeWhile_le (p := plainB) s i
        rw [← hw] at hl
        refine k2 ?_; refine k3 ?_
        refine c_while (X := Nat) (fun k => ([(0, .s (.one (.ref 705 0))), (4, sInt i)] ++ gf, [(705, rdBox s (i + k))])) (fun k => k ≤ w.length) (fun k => w.length - k) 0 (Nat.zero_le _) ?_ ?_
        · exact Sees.tailed ⟨le1 rfl, le1 rfl, trivial⟩ hH (by repeat (first | exact tail_refl | refine tail_cons rfl ?_)) (ObIn.spec (ob' := [(705, _)]) ⟨rfl, trivial⟩)
        intro k hk
        dsimp only at hk ⊢
        have hrun := takeWhile_at (p := plainB) (s.drop i) k (by rw [← hw]; exact hk)
        rw [← hw, List.getElem?_drop] at hrun
        obtain ⟨c, hc⟩ : ∃ c, c = s.getD (i + k) 0 := ⟨_, rfl⟩
        have hv : i + k < s.length → s[i + k]? = some c := fun h => by rw [hc]; exact gD h
        have hrun2 : (if decide (((i + k : Nat) : Int) < (s.length : Int)) = true then plainB c else false) = decide (k < w.length) := by
          rw [← hrun]
          by_cases hlt : i + k < s.length
          · rw [hv hlt, if_pos (decide_eq_true (by omega))]
          · rw [List.getElem?_eq_none (by omega), if_neg (by simp; omega)]
        refine k2 ?_; refine k2 ?_
        refine c_region_draw (by kernel_rfl) (by kernel_rfl) ?_; refine d_neu (n_move rfl rfl) rfl rfl ?_; refine d_neu (n_nilCheck_ref rfl) rfl rfl ?_; refine d_neu (n_field_ref rfl) rfl rfl ?_; refine d_neu (n_load_ref rfl rfl rfl) rfl rfl ?_; refine d_neu (n_move rfl rfl) rfl rfl ?_; refine d_neu (n_nilCheck_ref rfl) rfl rfl ?_; refine d_neu (n_field_ref rfl) rfl rfl ?_; refine d_neu (n_load_ref rfl rfl rfl) rfl rfl ?_; refine d_neu (n_len_s rfl) rfl rfl ?_; refine d_neu (n_lss rfl rfl) rfl rfl ?_; refine d_neu (n_move rfl rfl) rfl rfl ?_; refine d_guard rfl rfl (fun hg => by rw [hg]; exact n_move rfl rfl) rfl rfl ?_; refine d_guard rfl rfl (fun hg => by rw [hg]; exact n_nilCheck_ref rfl) rfl rfl ?_; refine d_guard rfl rfl (fun hg => by rw [hg]; exact n_field_ref rfl) rfl rfl ?_; refine d_guard rfl rfl (fun hg => by rw [hg]; exact n_load_ref rfl rfl rfl) rfl rfl ?_; refine d_guard rfl rfl (fun hg => by rw [hg]; exact n_move rfl rfl) rfl rfl ?_; refine d_guard rfl rfl (fun hg => by rw [hg]; exact n_nilCheck_ref rfl) rfl rfl ?_; refine d_guard rfl rfl (fun hg => by rw [hg]; exact n_field_ref rfl) rfl rfl ?_; refine d_guard rfl rfl (fun hg => by rw [hg]; exact n_load_ref rfl rfl rfl) rfl rfl ?_; refine d_guard rfl rfl (fun hg => by have hq := hg; (try simp at hq); rw [hg]; exact n_index_s rfl rfl (by omega) (hv (by omega))) rfl rfl ?_; refine d_guard rfl rfl (fun hg => by have hq := hg; (try simp at hq); rw [hg]; exact n_call1 (splain_ok c) rfl rfl) rfl rfl ?_; refine d_neu (n_pick_bool rfl (fun h => by first | rfl | (rw [h]; rfl)) (fun h => by first | rfl | (rw [h]; rfl))) rfl rfl ?_; refine d_nil ?_
        rw [hrun2]
        refine k1 ?_
        refine c_cond rfl (fun ht => ?_) (fun ht => ?_)
        · have hlt := of_decide_eq_true ht
          refine k5 ?_; refine k1 ?_; refine k3 ?_
          refine c_region ?_; refine l_neu (n_move rfl rfl) rfl ?_; refine l_neu (n_nilCheck_ref rfl) rfl ?_; refine l_neu (n_field_ref rfl) rfl ?_; refine l_neu (n_load_ref rfl rfl rfl) rfl ?_; refine l_neu (n_add rfl rfl (by omega)) rfl ?_; refine l_neu (n_nilCheck_ref rfl) rfl ?_; refine l_neu (n_field_ref rfl) rfl ?_; refine l_eff (e_store_ref TySz.out rfl rfl rfl rfl rfl rfl) ?_; refine l_nil ?_
          refine k4 ?_; refine k1 ?_
          exact ⟨k + 1, hlt, by omega, Sees.tailed ⟨le1 rfl, le1 rfl, trivial⟩ hH (by repeat (first | exact tail_refl | refine tail_cons rfl ?_)) (ObIn.spec (ob' := [(705, _)]) ⟨rfl, trivial⟩)⟩
        · have hk2 : k = w.length := by have := of_decide_eq_false ht; omega
          subst hk2
          refine k6 ?_; refine k7 ?_; refine k7 ?_; refine k8 rfl ?_; refine k1 ?_
          refine c_region_draw (by kernel_rfl) (by kernel_rfl) ?_; refine d_neu (n_move rfl rfl) rfl rfl ?_; refine d_neu (n_nilCheck_ref rfl) rfl rfl ?_; refine d_neu (n_field_ref rfl) rfl rfl ?_; refine d_neu (n_load_ref rfl rfl rfl) rfl rfl ?_; refine d_neu (n_move rfl rfl) rfl rfl ?_; refine d_neu (n_move rfl rfl) rfl rfl ?_; refine d_neu (n_nilCheck_ref rfl) rfl rfl ?_; refine d_neu (n_field_ref rfl) rfl rfl ?_; refine d_neu (n_load_ref rfl rfl rfl) rfl rfl ?_; refine d_neu (n_sub_lh rfl rfl rfl (by omega) (by omega) (by omega)) rfl rfl ?_; refine d_neu (n_assign rfl rfl) rfl rfl ?_; refine d_nil ?_
          have hww : (s.drop i).take (i + w.length - i) = w := by rw [Nat.add_sub_cancel_left, hw]; exact takeWhile_take _
          rw [Int.toNat_natCast, Int.toNat_natCast, hww]
          refine k1 ?_
          refine Sees.trans (Sees.forget 706) ?_
          subst hj
          exact Sees.tailed ⟨le1 rfl, le1 rfl, le1 rfl, trivial⟩ (high_forget hH) (by repeat (first | exact tail_refl | refine tail_cons rfl ?_ | refine tail_forget' _ ?_ | refine tail_forget _ ?_)) (ObIn.spec (ob' := [(705, _)]) ⟨rfl, trivial⟩)
    · refine k2 ?_
      refine c_region_draw (by kernel_rfl) (by kernel_rfl) ?_; refine d_neu (n_move rfl rfl) rfl rfl ?_; refine d_neu (n_move rfl rfl) rfl rfl ?_; refine d_neu (n_call1 (squote_ok w (by omega)) rfl rfl) rfl rfl ?_; refine d_neu (n_move rfl rfl) rfl rfl ?_; refine d_neu (n_nilCheck_ref rfl) rfl rfl ?_; refine d_neu (n_field_ref rfl) rfl rfl ?_; refine d_neu (n_load_ref rfl rfl rfl) rfl rfl ?_; refine d_neu (n_move rfl rfl) rfl rfl ?_; refine d_neu (n_move rfl rfl) rfl rfl ?_; refine d_neu (n_nilCheck_ref rfl) rfl rfl ?_; refine d_neu (n_field_ref rfl) rfl rfl ?_; refine d_neu (n_load_ref rfl rfl rfl) rfl rfl ?_; refine d_neu (n_sub_lh rfl rfl rfl (by omega) (by omega) (by omega)) rfl rfl ?_; refine d_neu (n_eql_s rfl rfl) rfl rfl ?_; refine d_neu (n_assign rfl rfl) rfl rfl ?_; refine d_neu (n_assign rfl rfl) rfl rfl ?_; refine d_nil ?_
      rw [Int.toNat_natCast, Int.toNat_natCast]
      refine k1 ?_; refine k10 ?_
      refine met_ret (rets2 rfl rfl rfl) (by repeat (first | exact tail_refl | refine tail_cons rfl ?_ | refine tail_forget _ ?_)) (fun _ _ h => h) ⟨w, _, j, rfl, rfl, hjl, ?_⟩
      rw [hW]
      by_cases hqw : quoteOf w = (s.drop i).take (j - i)
      · rw [if_pos hqw]; exact ⟨decide_eq_true hqw, rfl, by omega⟩
      · rw [if_neg hqw]; exact decide_eq_false hqw
def wordR (s : Str) (i : Nat) : List PV := match wordAt (s.drop i) with
  | none => [pStr [], pInt 0, pBool false]
  | some (w, k) => [pStr w, pInt ((i + k : Nat) : Int), pBool true]
theorem sUnquote_ok (s : Str) (i : Nat) (hi : i ≤ s.length) (hs : s.length ≤ 16777216) : FnOk Tryz.prog 131 [pStr s, pInt i] (fun rs => rs = wordR s i) := by
  refine FnOk.intro Tryz.func131 (by decide) rfl rfl rfl rfl ?_
  refine k2 ?_
  refine c_region ?_; refine l_neu (n_assign rfl rfl) rfl ?_; refine l_neu (n_assign rfl rfl) rfl ?_; refine l_neu (n_assign rfl rfl) rfl ?_; refine l_nil ?_
  refine k1 ?_; refine k2 ?_; refine k2 ?_
  refine c_region ?_; refine l_neu (n_move rfl rfl) rfl ?_; refine l_neu (n_lss rfl rfl) rfl ?_; refine l_neu (n_move rfl rfl) rfl ?_; refine l_guard rfl rfl rfl rfl (fun hg => by rw [hg]; exact n_move rfl rfl) ?_; refine l_guard rfl rfl rfl rfl (fun hg => by rw [hg]; exact n_move rfl rfl) ?_; refine l_guard rfl rfl rfl rfl (fun hg => by rw [hg]; exact n_len_s rfl) ?_; refine l_guard rfl rfl rfl rfl (fun hg => by rw [hg]; exact n_gtr rfl rfl) ?_; refine l_neu (n_pick_bool rfl (fun h => by first | rfl | (rw [h]; rfl)) (fun h => by first | rfl | (rw [h]; rfl))) rfl ?_; refine l_nil ?_
  refine k1 ?_
  refine c_cond rfl (fun ht => ?_) (fun ht => ?_)
  · exfalso; revert ht; simp only [or_pick]; simp; omega
  refine k5 ?_; refine k1 ?_; refine k2 ?_
  refine c_region ?_; refine l_neu (n_move rfl rfl) rfl ?_; refine l_neu (n_move rfl rfl) rfl ?_; refine l_neu (n_build rfl) rfl ?_; refine l_effv (f_box 705 rfl rfl rfl) rfl ?_; refine l_neu (n_assign rfl rfl) rfl ?_; refine l_nil ?_
  refine k1 ?_; refine k2 ?_
  refine c_region ?_; refine l_neu (n_move rfl rfl) rfl ?_; refine l_met (word_met s i hi hs) rfl rfl rfl ?_; rintro _ _ ⟨w, b, j, rfl, rfl, hj, ho⟩; refine l_neu (n_move rfl rfl) rfl ?_; refine l_neu (n_extract rfl rfl) rfl ?_; refine l_neu (n_extract rfl rfl) rfl ?_; refine l_neu (n_assign rfl rfl) rfl ?_; refine l_neu (n_assign rfl rfl) rfl ?_; refine l_nil ?_
  refine k1 ?_; refine k2 ?_; refine k2 ?_
  refine c_region ?_; refine l_neu (n_move rfl rfl) rfl ?_; refine l_neu (n_not rfl) rfl ?_; refine l_nil ?_
  refine k1 ?_
  cases hw : wordAt (s.drop i) with
  | none =>
    rw [hw] at ho
    have ho : b = false := ho
    subst ho
    refine c_cond rfl (fun ht => ?_) (fun ht => ?_)
    · refine k2 ?_
      refine c_region ?_; refine l_neu (n_assign rfl rfl) rfl ?_; refine l_neu (n_assign rfl rfl) rfl ?_; refine l_neu (n_assign rfl rfl) rfl ?_; refine l_nil ?_
      refine k1 ?_; refine k10 ?_; refine k11 ?_
      exact ret_ret (rs := [pStr [], pInt 0, pBool false]) (ret3 rfl rfl rfl rfl rfl rfl rfl) (by unfold wordR; rw [hw])
    · cases ht
  | some q =>
    obtain ⟨w', k⟩ := q
    rw [hw] at ho
    obtain ⟨rfl, rfl, rfl⟩ := ho
    refine c_cond rfl (fun ht => ?_) (fun ht => ?_)
    · cases ht
    refine k5 ?_; refine k1 ?_; refine k2 ?_
    refine c_region_draw (by kernel_rfl) (by kernel_rfl) ?_; refine d_neu (n_move rfl rfl) rfl rfl ?_; refine d_neu (n_move rfl rfl) rfl rfl ?_; refine d_neu (n_nilCheck_ref rfl) rfl rfl ?_; refine d_neu (n_field_ref rfl) rfl rfl ?_; refine d_neu (n_load_ref rfl rfl rfl) rfl rfl ?_; refine d_neu (n_assign rfl rfl) rfl rfl ?_; refine d_neu (n_assign rfl rfl) rfl rfl ?_; refine d_neu (n_assign rfl rfl) rfl rfl ?_; refine d_nil ?_
    refine k1 ?_; refine k10 ?_
    exact ret_ret (rs := [pStr w, pInt ((i + k : Nat) : Int), pBool true]) (ret3 rfl rfl rfl rfl rfl rfl rfl) (by unfold wordR; rw [hw])
end Go.Proofs.YtjjidificdmnmaaGreatDoor
namespace Go.Proofs.YtjjidificdmnmaaGreatDoor
open Go Go.AL
set_option maxRecDepth 100000
theorem wordR_none {s : Str} {i : Nat} (h : wordAt (s.drop i) = none) : wordR s i = [pStr [], pInt 0, pBool false] := by unfold wordR; rw [h]
theorem wordR_some {s : Str} {i k : Nat} {w : Str} (h : wordAt (s.drop i) = some (w, k)) : wordR s i = [pStr w, pInt ((i + k : Nat) : Int), pBool true] := by unfold wordR; rw [h]
set_option maxHeartbeats 1000000
end Go.Proofs.YtjjidificdmnmaaGreatDoor
namespace Go.Proofs.YtjjidificdmnmaaGreatDoor
open Go Go.AL
set_option maxRecDepth 100000
theorem count1_ok (s : Str) (c : UInt8) : FnOk Tryz.prog 140 [pStr s, pStr [c]] (fun rs => rs = [pInt (s.count c)]) :=
  FnOk.ofPlain (xs := [.string ⟨s.toArray⟩, .string ⟨#[c]⟩]) ⟨_, rfl, rfl, rfl⟩ rfl fun w => by simpa [Lib.countByte] using Tryz.strings_Count_one ⟨s.toArray⟩ c w
theorem index1_ok (s : Str) (c : UInt8) : FnOk Tryz.prog 141 [pStr s, pStr [c]] (fun rs => rs = [pInt (Lib.indexByte s c)]) :=
  FnOk.ofPlain (xs := [.string ⟨s.toArray⟩, .string ⟨#[c]⟩]) ⟨_, rfl, rfl, rfl⟩ rfl fun w => by simpa using Tryz.strings_Index_one ⟨s.toArray⟩ c w
theorem rsplit_ok (s : Str) (hs : s.length ≤ 536870912) : FnOk Tryz.prog 76 [pStr s] (fun rs => rs = [pStrs (splitOf s).1, pInt (splitOf s).2]) := by
  refine FnOk.intro Tryz.func76 (by decide) rfl rfl rfl rfl ?_
  refine k2 ?_
  refine c_region ?_; refine l_neu (n_assign rfl rfl) rfl ?_; refine l_neu (n_assign rfl rfl) rfl ?_; refine l_nil ?_
  refine k1 ?_; refine k2 ?_; refine k2 ?_
  refine c_region ?_; refine l_neu (n_move rfl rfl) rfl ?_; refine l_call (check_ok s (by omega)) rfl rfl rfl ?_; rintro _ rfl; refine l_neu (n_neq rfl rfl) rfl ?_; refine l_nil ?_
  refine k1 ?_
  refine c_cond rfl (fun ht => ?_) (fun ht => ?_)
  · have h : checkOf s ≠ 0 := by simpa using ht
    have h1 : s.length > 1048576 ∨ (linesOf s).length > 4096 := by
      by_cases h1 : s.length > 1048576 ∨ (linesOf s).length > 4096
      · exact h1
      · exact absurd (by rw [checkOf, if_neg h1]) h
    refine k2 ?_
    refine c_region ?_; refine l_neu (n_assign_nil _ 1 strC) rfl ?_; refine l_neu (n_assign rfl rfl) rfl ?_; refine l_nil ?_
    refine k1 ?_; refine k10 ?_; refine k11 ?_
    exact ret_ret (ret2 rfl rfl rfl rfl rfl) (by rw [splitOf, if_pos h1])
  · have h : checkOf s = 0 := by simpa using ht
    have h1 : ¬ (s.length > 1048576 ∨ (linesOf s).length > 4096) := fun h1 => by rw [checkOf, if_pos h1] at h; omega
    refine k5 ?_; refine k1 ?_; refine k2 ?_
    refine c_region ?_; refine l_neu (n_move rfl rfl) rfl ?_; refine l_call (lines_ok s (by omega)) rfl rfl rfl ?_; rintro _ rfl; refine l_neu (n_assign rfl rfl) rfl ?_; refine l_neu (n_assign rfl rfl) rfl ?_; refine l_nil ?_
    refine k1 ?_; refine k10 ?_
    exact ret_ret (ret2 rfl rfl rfl rfl rfl) (by rw [splitOf, if_neg h1])
end Go.Proofs.YtjjidificdmnmaaGreatDoor
namespace Go.Proofs.YtjjidificdmnmaaGreatDoor
open Go Go.AL
set_option maxRecDepth 100000
def cutsOf (r : Str) : List Str := (linesOf (r ++ [10])).map List.dropLast
theorem cuts_cut {a b : Str} (h : (10 : UInt8) ∉ a) : cutsOf (a ++ 10 :: b) = a :: cutsOf b := by
  unfold cutsOf linesOf
  rw [List.append_assoc, List.cons_append, linesAux_cut _ _ _ h]; simp
theorem cuts_last {r : Str} (h : (10 : UInt8) ∉ r) : cutsOf r = [r] := by
  unfold cutsOf linesOf
  rw [linesAux_cut _ _ _ h]; simp [linesAux]
theorem cuts_count (r : Str) : (cutsOf r).length = r.count 10 + 1 := by
  unfold cutsOf
  rw [List.length_map, linesOf_count, List.count_append, ended_app]; simp
theorem cuts_step {P : List Str} {i : Nat} {r a b : Str} (h : P.drop i = cutsOf r) (hr : r = a ++ 10 :: b) (ha : (10 : UInt8) ∉ a) : P[i]? = some a ∧ P.drop (i + 1) = cutsOf b := by
  have e : cutsOf r = a :: cutsOf b := by rw [hr, cuts_cut ha]
  rw [e] at h
  refine ⟨by rw [← List.head?_drop, h]; rfl, ?_⟩
  rw [← List.tail_drop, h]; rfl
theorem linesS_cuts {s : Str} (h : s ≠ []) : linesS s = if ended s = true then some (cutsOf s.dropLast) else none := by
  unfold linesS
  rw [if_neg h]
  by_cases he : ended s = true
  · rw [if_pos he, if_pos he]
    obtain ⟨a, rfl⟩ := ended_iff.1 he
    rw [List.dropLast_concat]; rfl
  · rw [if_neg he, if_neg he]
theorem genSplit0_ok (s : Str) (hs : s.length ≤ 536870912) : FnOk Tryz.prog 95 [pStr s, pStr [10], pInt 0, pInt (-1)] (fun rs => rs = [pStrs (cutsOf s)]) := by
  have hP := cuts_count s
  have hc : s.count 10 ≤ s.length := List.count_le_length
  have h10 : ([10] : Str).length = 1 := rfl
  obtain ⟨P, hPe⟩ : ∃ P, P = cutsOf s := ⟨_, rfl⟩
  have hPl : P.length = s.count 10 + 1 := by rw [hPe]; exact hP
  refine FnOk.intro Tryz.func95 (by decide) rfl rfl rfl rfl ?_
  refine k2 ?_
  refine c_region ?_; refine l_neu (n_assign rfl rfl) rfl ?_; refine l_nil ?_
  refine k1 ?_; refine k2 ?_; refine k2 ?_
  refine c_region ?_; refine l_neu (n_move rfl rfl) rfl ?_; refine l_neu (n_eql rfl rfl) rfl ?_; refine l_nil ?_
  refine k1 ?_
  refine c_cond rfl (fun ht => ?_) (fun ht => ?_)
  · exact absurd (of_decide_eq_true ht) (by omega)
  refine k5 ?_; refine k1 ?_; refine k2 ?_; refine k2 ?_
  refine c_region ?_; refine l_neu (n_move rfl rfl) rfl ?_; refine l_neu (n_eql_s rfl rfl) rfl ?_; refine l_nil ?_
  refine k1 ?_
  refine c_cond rfl (fun ht => ?_) (fun ht => ?_)
  · exact absurd (of_decide_eq_true ht) (by simp)
  refine k5 ?_; refine k1 ?_; refine k2 ?_; refine k2 ?_
  refine c_region ?_; refine l_neu (n_move rfl rfl) rfl ?_; refine l_neu (n_lss rfl rfl) rfl ?_; refine l_nil ?_
  refine k1 ?_
  refine c_cond rfl (fun ht => ?_) (fun ht => ?_)
  rotate_left
  · exact absurd (of_decide_eq_false ht) (by omega)
  skip
  refine c_region ?_; refine l_neu (n_move rfl rfl) rfl ?_; refine l_neu (n_move rfl rfl) rfl ?_; refine l_call (count1_ok s 10) rfl rfl rfl ?_; rintro _ rfl; refine l_neu (n_add rfl rfl (by omega)) rfl ?_; refine l_neu (n_assign rfl rfl) rfl ?_; refine l_nil ?_
  refine k1 ?_; refine k2 ?_
  refine c_region ?_; refine l_neu (n_move rfl rfl) rfl ?_; refine l_neu (n_move rfl rfl) rfl ?_; refine l_neu (n_len_s rfl) rfl ?_; refine l_neu (n_add rfl rfl (by omega)) rfl ?_; refine l_neu (n_min rfl rfl) rfl ?_; refine l_neu (n_assign rfl rfl) rfl ?_; refine l_nil ?_
  refine k1 ?_; refine k2 ?_
  rw [show (if (s.length : Int) + 1 < (s.count 10 : Int) + 1 then (s.length : Int) + 1 else (s.count 10 : Int) + 1) = (P.length : Int) from by split <;> omega]
  refine c_region ?_; refine l_neu (n_move rfl rfl) rfl ?_; refine l_effv (f_makeZ 9 Str strC [] rfl rfl (by omega) (by omega) (fun _ => by first | exact ⟨⟨rfl, rfl⟩, trivial⟩ | exact ⟨rep_nil _ _ _, trivial⟩) (by first | rfl | (simp [frFree, obFree, Ob.free, SV.free, S1.free, TC.free] <;> rfl))) rfl ?_; refine l_neu (n_assign rfl rfl) rfl ?_; refine l_nil ?_
  refine k1 ?_; refine k2 ?_
  refine c_region ?_; refine l_neu (n_move rfl rfl) rfl ?_; refine l_neu (n_sub rfl rfl (by omega)) rfl ?_; refine l_neu (n_assign rfl rfl) rfl ?_; refine l_nil ?_
  refine k1 ?_; refine k2 ?_
  refine c_region ?_; refine l_neu (n_assign rfl rfl) rfl ?_; refine l_nil ?_
  refine k1 ?_; refine k2 ?_; refine k3 ?_
  refine c_while (X := Nat × Str) (fun x => ([(0, sStr x.2), (1, sStr [10]), (2, sInt 0), (3, sInt ((P.length : Int) - 1)), (9, .s (.one (.mut 9))), (10, sInt x.1)], [(9, .arr Str 1 strC (P.take x.1 ++ List.replicate (P.length - x.1) []))])) (fun x => x.1 + 1 ≤ P.length ∧ P.drop x.1 = cutsOf x.2 ∧ x.2.length ≤ s.length) (fun x => P.length - x.1) (0, s) ⟨by dsimp only; omega, hPe, Nat.le_refl _⟩ (Sees.of ⟨le1 rfl, le1 rfl, le1 rfl, le1 rfl, le1 rfl, le1 rfl, trivial⟩ ⟨rfl, trivial⟩) ?_
  rintro ⟨i, r⟩ ⟨hi, hp, hr⟩
  dsimp only at hi hp hr ⊢
  refine k2 ?_; refine k2 ?_
  refine c_region ?_; refine l_neu (n_move rfl rfl) rfl ?_; refine l_neu (n_move rfl rfl) rfl ?_; refine l_neu (n_lss rfl rfl) rfl ?_; refine l_nil ?_
  refine k1 ?_
  refine c_cond rfl (fun ht => ?_) (fun ht => ?_)
  · have hlt : i + 1 < P.length := by have := of_decide_eq_true ht; omega
    have hin : (10 : UInt8) ∈ r := by
      have h1 := cuts_count r
      have h2 : (P.drop i).length = r.count 10 + 1 := by rw [hp]; exact h1
      rw [List.length_drop] at h2
      exact List.count_pos_iff.1 (by omega)
    rcases indexByte_first 10 r with ⟨h1, _⟩ | ⟨a, b, h1, h2, h3⟩
    · exact absurd hin h1
    obtain ⟨h4, h5⟩ := cuts_step hp h1 h2
    have hl : r.length = a.length + 1 + b.length := by rw [h1]; simp; omega
    refine k5 ?_; refine k1 ?_; refine k3 ?_; refine k2 ?_
    refine c_region ?_; refine l_neu (n_move rfl rfl) rfl ?_; refine l_neu (n_move rfl rfl) rfl ?_; refine l_call (index1_ok r 10) rfl rfl rfl ?_; rintro _ rfl; refine l_neu (n_assign rfl rfl) rfl ?_; refine l_nil ?_
    refine k1 ?_; refine k2 ?_; refine k2 ?_
    refine c_region ?_; refine l_neu (n_move rfl rfl) rfl ?_; refine l_neu (n_lss rfl rfl) rfl ?_; refine l_nil ?_
    refine k1 ?_
    rw [h3]
    refine c_cond rfl (fun ht => ?_) (fun ht => ?_)
    · exact absurd (of_decide_eq_true ht) (by omega)
    refine k5 ?_; refine k1 ?_; refine k2 ?_
    refine c_region ?_; refine l_neu (n_move rfl rfl) rfl ?_; refine l_neu (n_move rfl rfl) rfl ?_; refine l_neu (n_move rfl rfl) rfl ?_; refine l_neu (n_move rfl rfl) rfl ?_; refine l_neu (n_move rfl rfl) rfl ?_; refine l_neu (n_add rfl rfl (by omega)) rfl ?_; refine l_neu (n_sub_h rfl rfl (by omega) (by omega)) rfl ?_; refine l_neu (n_indexAddr_mut rfl rfl rfl (by omega) (by (simp; omega))) rfl ?_; refine l_eff (e_store_mref1 TySz.out rfl rfl (by simp; omega) rfl rfl) ?_; refine l_nil ?_
    refine k1 ?_; refine k2 ?_
    refine c_region ?_; refine l_neu (n_move rfl rfl) rfl ?_; refine l_neu (n_move rfl rfl) rfl ?_; refine l_neu (n_move rfl rfl) rfl ?_; refine l_neu (n_len_s rfl) rfl ?_; refine l_neu (n_add rfl rfl (by omega)) rfl ?_; refine l_neu (n_sub_l rfl rfl (by omega) (by omega)) rfl ?_; refine l_neu (n_assign rfl rfl) rfl ?_; refine l_nil ?_
    refine k1 ?_
    refine c_region ?_; refine l_neu (n_move rfl rfl) rfl ?_; refine l_neu (n_add rfl rfl (by omega)) rfl ?_; refine l_neu (n_assign rfl rfl) rfl ?_; refine l_nil ?_
    refine k4 ?_; refine k1 ?_
    have e1 : r.take (((a.length : Int) + 0).toNat) = a := by rw [h1, show ((a.length : Int) + 0).toNat = a.length by omega, List.take_left]
    have e2 : r.drop (((a.length : Int) + (([10] : Str).length : Int)).toNat) = b := by rw [h1, h10, show ((a.length : Int) + ((1 : Nat) : Int)).toNat = a.length + 1 by omega, show a ++ 10 :: b = (a ++ [10]) ++ b by simp, List.drop_left' (by simp)]
    refine ⟨(i + 1, b), ⟨by dsimp only; omega, h5, by dsimp only; omega⟩, by dsimp only; omega, ?_⟩
    rw [e1, e2]
    dsimp only
    rw [← fill_step P [] _ i h4]
    exact Sees.of ⟨le1 rfl, le1 rfl, le1 rfl, le1 rfl, le1 rfl, le1 rfl, trivial⟩ ⟨rfl, trivial⟩
  · have hge : i + 1 = P.length := by have := of_decide_eq_false ht; omega
    have h1 := cuts_count r
    have h2 : (P.drop i).length = r.count 10 + 1 := by rw [hp]; exact h1
    rw [List.length_drop] at h2
    have h3 : (10 : UInt8) ∉ r := List.count_eq_zero.1 (by omega)
    have h4 : P[i]? = some r := by rw [← List.head?_drop, hp, cuts_last h3]; rfl
    refine k6 ?_; refine k2 ?_
    refine c_region ?_; refine l_neu (n_move rfl rfl) rfl ?_; refine l_neu (n_move rfl rfl) rfl ?_; refine l_neu (n_move rfl rfl) rfl ?_; refine l_neu (n_indexAddr_mut rfl rfl rfl (by omega) (by (simp; omega))) rfl ?_; refine l_eff (e_store_mref1 TySz.out rfl rfl (by simp; omega) rfl rfl) ?_; refine l_nil ?_
    refine k1 ?_; refine k2 ?_
    have e : (P.take i ++ List.replicate (P.length - i) ([] : Str)).set (i : Int).toNat r = P := by rw [Int.toNat_natCast, fill_step P [] r i h4, hge]; simp
    rw [e]
    refine c_sees (Sees.freeze (k := 9) rfl) ?_
    refine c_region ?_; refine l_neu (n_move rfl rfl) rfl ?_; refine l_neu (n_move rfl rfl) rfl ?_; refine l_neu (n_add rfl rfl (by omega)) rfl ?_; refine l_neu (n_slice_h rfl (.pure _ _ _ _) rfl (by omega) (by omega)) rfl ?_; refine l_neu (n_assign rfl rfl) rfl ?_; refine l_nil ?_
    refine k1 ?_; refine k10 ?_
    exact ret_ret (ret1 rfl rfl rfl) (by rw [show ((i : Int) + 1).toNat = P.length by omega, List.take_length, hPe])
theorem split_ok (s : Str) (hs : s.length ≤ 536870912) : FnOk Tryz.prog 62 [pStr s, pStr [10]] (fun rs => rs = [pStrs (cutsOf s)]) := by
  refine FnOk.intro Tryz.func62 (by decide) rfl rfl rfl rfl ?_
  refine k2 ?_
  refine c_region ?_; refine l_neu (n_assign rfl rfl) rfl ?_; refine l_nil ?_
  refine k1 ?_; refine k2 ?_
  refine c_region ?_; refine l_neu (n_move rfl rfl) rfl ?_; refine l_neu (n_move rfl rfl) rfl ?_; refine l_call (genSplit0_ok s hs) rfl rfl rfl ?_; rintro _ rfl; refine l_neu (n_assign rfl rfl) rfl ?_; refine l_nil ?_
  refine k1 ?_; refine k10 ?_
  exact ret_ret (ret1 rfl rfl rfl) rfl
theorem lhasPrefix_ok (s p : Str) : FnOk Tryz.prog 186 [pStr s, pStr p] (fun rs => rs = [pBool (decide (s.take p.length = p))]) := by
  refine FnOk.intro Tryz.func186 (by decide) rfl rfl rfl rfl ?_
  refine k2 ?_
  refine c_region ?_; refine l_neu (n_assign rfl rfl) rfl ?_; refine l_nil ?_
  refine k1 ?_; refine k2 ?_
  refine c_region ?_; refine l_neu (n_move rfl rfl) rfl ?_; refine l_neu (n_len_s rfl) rfl ?_; refine l_neu (n_move rfl rfl) rfl ?_; refine l_neu (n_len_s rfl) rfl ?_; refine l_neu (n_geq rfl rfl) rfl ?_; refine l_neu (n_move rfl rfl) rfl ?_; refine l_guard rfl rfl rfl rfl (fun hg => by rw [hg]; exact n_move rfl rfl) ?_; refine l_guard rfl rfl rfl rfl (fun hg => by rw [hg]; exact n_move rfl rfl) ?_; refine l_guard rfl rfl rfl rfl (fun hg => by rw [hg]; exact n_len_s rfl) ?_; refine l_guard rfl rfl rfl rfl (fun hg => by have hq := hg; (try simp at hq); rw [hg]; exact n_sub_h rfl rfl (by omega) (by omega)) ?_; refine l_guard rfl rfl rfl rfl (fun hg => by rw [hg]; exact n_move rfl rfl) ?_; refine l_guard rfl rfl rfl rfl (fun hg => by rw [hg]; exact n_eql_s rfl rfl) ?_; refine l_neu (n_pick_bool rfl (fun h => by first | rfl | (rw [h]; rfl)) (fun h => by first | rfl | (rw [h]; rfl))) rfl ?_; refine l_neu (n_assign rfl rfl) rfl ?_; refine l_nil ?_
  simp only [and_pick, Int.toNat_natCast]
  refine k1 ?_; refine k10 ?_
  refine ret_ret (ret1 rfl rfl rfl) ?_
  congr 4
  congr 1
  apply propext; constructor
  · intro h; exact h.2
  · intro h
    refine ⟨?_, h⟩
    have := congrArg List.length h
    rw [List.length_take] at this; omega
theorem hasPrefix_ok (s p : Str) : FnOk Tryz.prog 188 [pStr s, pStr p] (fun rs => rs = [pBool (decide (s.take p.length = p))]) := by
  refine FnOk.intro Tryz.func188 (by decide) rfl rfl rfl rfl ?_
  refine k2 ?_
  refine c_region ?_; refine l_neu (n_assign rfl rfl) rfl ?_; refine l_nil ?_
  refine k1 ?_; refine k2 ?_
  refine c_region ?_; refine l_neu (n_move rfl rfl) rfl ?_; refine l_neu (n_move rfl rfl) rfl ?_; refine l_call (lhasPrefix_ok s p) rfl rfl rfl ?_; rintro _ rfl; refine l_neu (n_assign rfl rfl) rfl ?_; refine l_nil ?_
  refine k1 ?_; refine k10 ?_
  exact ret_ret (ret1 rfl rfl rfl) rfl
def cutP (s p : Str) : List PV := if s.take p.length = p then [pStr (s.drop p.length), pBool true] else [pStr s, pBool false]
theorem lcutPrefix_ok (s p : Str) : FnOk Tryz.prog 167 [pStr s, pStr p] (fun rs => rs = cutP s p) := by
  refine FnOk.intro Tryz.func167 (by decide) rfl rfl rfl rfl ?_
  refine k2 ?_
  refine c_region ?_; refine l_neu (n_assign rfl rfl) rfl ?_; refine l_neu (n_assign rfl rfl) rfl ?_; refine l_nil ?_
  refine k1 ?_; refine k2 ?_; refine k2 ?_
  refine c_region ?_; refine l_neu (n_move rfl rfl) rfl ?_; refine l_neu (n_move rfl rfl) rfl ?_; refine l_call (lhasPrefix_ok s p) rfl rfl rfl ?_; rintro _ rfl; refine l_neu (n_not rfl) rfl ?_; refine l_nil ?_
  refine k1 ?_
  refine c_cond rfl (fun ht => ?_) (fun ht => ?_)
  · have h : ¬ s.take p.length = p := by intro h; rw [decide_eq_true h] at ht; cases ht
    refine k2 ?_
    refine c_region ?_; refine l_neu (n_move rfl rfl) rfl ?_; refine l_neu (n_assign rfl rfl) rfl ?_; refine l_neu (n_assign rfl rfl) rfl ?_; refine l_nil ?_
    refine k1 ?_; refine k10 ?_; refine k11 ?_
    exact ret_ret (rs := [pStr s, pBool false]) (ret2 rfl rfl rfl rfl rfl) (by unfold cutP; rw [if_neg h])
  · have h : s.take p.length = p := by
      by_cases h : s.take p.length = p
      · exact h
      · rw [decide_eq_false h] at ht; cases ht
    have hl : p.length ≤ s.length := by
      have := congrArg List.length h
      rw [List.length_take] at this; omega
    refine k5 ?_; refine k1 ?_; refine k2 ?_
    refine c_region ?_; refine l_neu (n_move rfl rfl) rfl ?_; refine l_neu (n_move rfl rfl) rfl ?_; refine l_neu (n_len_s rfl) rfl ?_; refine l_neu (n_sub_l rfl rfl (by omega) (by omega)) rfl ?_; refine l_neu (n_assign rfl rfl) rfl ?_; refine l_neu (n_assign rfl rfl) rfl ?_; refine l_nil ?_
    refine k1 ?_; refine k10 ?_
    exact ret_ret (rs := [pStr (s.drop p.length), pBool true]) (ret2 rfl rfl rfl rfl rfl) (by unfold cutP; rw [if_pos h])
theorem cutPrefix_ok (s p : Str) : FnOk Tryz.prog 130 [pStr s, pStr p] (fun rs => rs = cutP s p) := by
  have hc := lcutPrefix_ok s p
  unfold cutP at hc ⊢
  by_cases h : s.take p.length = p
  · rw [if_pos h] at hc ⊢
    refine FnOk.intro Tryz.func130 (by decide) rfl rfl rfl rfl ?_
    refine k2 ?_
    refine c_region ?_; refine l_neu (n_assign rfl rfl) rfl ?_; refine l_neu (n_assign rfl rfl) rfl ?_; refine l_nil ?_
    refine k1 ?_; refine k2 ?_
    refine c_region ?_; refine l_neu (n_move rfl rfl) rfl ?_; refine l_neu (n_move rfl rfl) rfl ?_; refine l_call (hc) rfl rfl rfl ?_; rintro _ rfl; refine l_neu (n_extract rfl rfl) rfl ?_; refine l_neu (n_extract rfl rfl) rfl ?_; refine l_neu (n_assign rfl rfl) rfl ?_; refine l_neu (n_assign rfl rfl) rfl ?_; refine l_nil ?_
    refine k1 ?_; refine k10 ?_
    exact ret_ret (ret2 rfl rfl rfl rfl rfl) rfl
  · rw [if_neg h] at hc ⊢
    refine FnOk.intro Tryz.func130 (by decide) rfl rfl rfl rfl ?_
    refine k2 ?_
    refine c_region ?_; refine l_neu (n_assign rfl rfl) rfl ?_; refine l_neu (n_assign rfl rfl) rfl ?_; refine l_nil ?_
    refine k1 ?_; refine k2 ?_
    refine c_region ?_; refine l_neu (n_move rfl rfl) rfl ?_; refine l_neu (n_move rfl rfl) rfl ?_; refine l_call (hc) rfl rfl rfl ?_; rintro _ rfl; refine l_neu (n_extract rfl rfl) rfl ?_; refine l_neu (n_extract rfl rfl) rfl ?_; refine l_neu (n_assign rfl rfl) rfl ?_; refine l_neu (n_assign rfl rfl) rfl ?_; refine l_nil ?_
    refine k1 ?_; refine k10 ?_
    exact ret_ret (ret2 rfl rfl rfl rfl rfl) rfl
theorem ended_drop (s : Str) : ended s = decide (1 ≤ s.length ∧ s.drop (s.length - 1) = [10]) := by
  by_cases h : ended s = true
  · rw [h]
    obtain ⟨a, rfl⟩ := ended_iff.1 h
    symm; apply decide_eq_true; simp
  · have h2 : ended s = false := by simpa using h
    rw [h2]; symm; apply decide_eq_false
    rintro ⟨h3, h4⟩
    refine h (ended_iff.2 ⟨s.take (s.length - 1), ?_⟩)
    rw [← h4, List.take_append_drop]
theorem lhasSuffix_ok (s : Str) (hs : s.length ≤ 1073741824) : FnOk Tryz.prog 138 [pStr s, pStr [10]] (fun rs => rs = [pBool (ended s)]) := by
  have h10 : ([10] : Str).length = 1 := rfl
  refine FnOk.intro Tryz.func138 (by decide) rfl rfl rfl rfl ?_
  refine k2 ?_
  refine c_region ?_; refine l_neu (n_assign rfl rfl) rfl ?_; refine l_nil ?_
  refine k1 ?_; refine k2 ?_
  refine c_region ?_; refine l_neu (n_move rfl rfl) rfl ?_; refine l_neu (n_len_s rfl) rfl ?_; refine l_neu (n_move rfl rfl) rfl ?_; refine l_neu (n_len_s rfl) rfl ?_; refine l_neu (n_geq rfl rfl) rfl ?_; refine l_neu (n_move rfl rfl) rfl ?_; refine l_guard rfl rfl rfl rfl (fun hg => by rw [hg]; exact n_move rfl rfl) ?_; refine l_guard rfl rfl rfl rfl (fun hg => by rw [hg]; exact n_move rfl rfl) ?_; refine l_guard rfl rfl rfl rfl (fun hg => by rw [hg]; exact n_len_s rfl) ?_; refine l_guard rfl rfl rfl rfl (fun hg => by rw [hg]; exact n_move rfl rfl) ?_; refine l_guard rfl rfl rfl rfl (fun hg => by rw [hg]; exact n_len_s rfl) ?_; refine l_guard rfl rfl rfl rfl (fun hg => by have hq := hg; (try simp at hq); rw [hg]; exact n_sub rfl rfl (by omega)) ?_; refine l_guard rfl rfl rfl rfl (fun hg => by have hq := hg; (try simp at hq); rw [hg]; exact n_sub_l rfl rfl (by omega) (by omega)) ?_; refine l_guard rfl rfl rfl rfl (fun hg => by rw [hg]; exact n_move rfl rfl) ?_; refine l_guard rfl rfl rfl rfl (fun hg => by rw [hg]; exact n_eql_s rfl rfl) ?_; refine l_neu (n_pick_bool rfl (fun h => by first | rfl | (rw [h]; rfl)) (fun h => by first | rfl | (rw [h]; rfl))) rfl ?_; refine l_neu (n_assign rfl rfl) rfl ?_; refine l_nil ?_
  simp only [and_pick]
  refine k1 ?_; refine k10 ?_
  refine ret_ret (ret1 rfl rfl rfl) ?_
  rw [ended_drop, h10]
  congr 4
  congr 1
  rw [show ((s.length : Int) - ((1 : Nat) : Int)).toNat = s.length - 1 by omega]
  apply propext; constructor
  · intro h; exact ⟨by omega, h.2⟩
  · intro h; exact ⟨by omega, h.2⟩
def cutLf (s : Str) : List PV := if ended s = true then [pStr s.dropLast, pBool true] else [pStr s, pBool false]
theorem lcutSuffix_ok (s : Str) (hs : s.length ≤ 1073741824) : FnOk Tryz.prog 94 [pStr s, pStr [10]] (fun rs => rs = cutLf s) := by
  have h10 : ([10] : Str).length = 1 := rfl
  refine FnOk.intro Tryz.func94 (by decide) rfl rfl rfl rfl ?_
  refine k2 ?_
  refine c_region ?_; refine l_neu (n_assign rfl rfl) rfl ?_; refine l_neu (n_assign rfl rfl) rfl ?_; refine l_nil ?_
  refine k1 ?_; refine k2 ?_; refine k2 ?_
  refine c_region ?_; refine l_neu (n_move rfl rfl) rfl ?_; refine l_neu (n_move rfl rfl) rfl ?_; refine l_call (lhasSuffix_ok s hs) rfl rfl rfl ?_; rintro _ rfl; refine l_neu (n_not rfl) rfl ?_; refine l_nil ?_
  refine k1 ?_
  refine c_cond rfl (fun ht => ?_) (fun ht => ?_)
  · have h : ended s = false := by cases h : ended s <;> rw [h] at ht <;> simp at ht ⊢
    refine k2 ?_
    refine c_region ?_; refine l_neu (n_move rfl rfl) rfl ?_; refine l_neu (n_assign rfl rfl) rfl ?_; refine l_neu (n_assign rfl rfl) rfl ?_; refine l_nil ?_
    refine k1 ?_; refine k10 ?_; refine k11 ?_
    exact ret_ret (rs := [pStr s, pBool false]) (ret2 rfl rfl rfl rfl rfl) (by unfold cutLf; rw [h]; rfl)
  · have h : ended s = true := by cases h : ended s <;> rw [h] at ht <;> simp at ht ⊢
    have hl : 1 ≤ s.length := by obtain ⟨a, rfl⟩ := ended_iff.1 h; simp
    refine k5 ?_; refine k1 ?_; refine k2 ?_
    refine c_region ?_; refine l_neu (n_move rfl rfl) rfl ?_; refine l_neu (n_move rfl rfl) rfl ?_; refine l_neu (n_len_s rfl) rfl ?_; refine l_neu (n_move rfl rfl) rfl ?_; refine l_neu (n_len_s rfl) rfl ?_; refine l_neu (n_sub rfl rfl (by omega)) rfl ?_; refine l_neu (n_sub_h rfl rfl (by omega) (by omega)) rfl ?_; refine l_neu (n_assign rfl rfl) rfl ?_; refine l_neu (n_assign rfl rfl) rfl ?_; refine l_nil ?_
    refine k1 ?_; refine k10 ?_
    refine ret_ret (rs := [pStr s.dropLast, pBool true]) (ret2 rfl rfl (by rw [h10, show ((s.length : Int) - ((1 : Nat) : Int)).toNat = s.length - 1 by omega, ← List.dropLast_eq_take]; rfl) rfl rfl) (by unfold cutLf; rw [if_pos h])
theorem cutSuffix_ok (s : Str) (hs : s.length ≤ 1073741824) : FnOk Tryz.prog 61 [pStr s, pStr [10]] (fun rs => rs = cutLf s) := by
  have hc := lcutSuffix_ok s hs
  unfold cutLf at hc ⊢
  by_cases h : ended s = true
  · rw [if_pos h] at hc ⊢
    refine FnOk.intro Tryz.func61 (by decide) rfl rfl rfl rfl ?_
    refine k2 ?_
    refine c_region ?_; refine l_neu (n_assign rfl rfl) rfl ?_; refine l_neu (n_assign rfl rfl) rfl ?_; refine l_nil ?_
    refine k1 ?_; refine k2 ?_
    refine c_region ?_; refine l_neu (n_move rfl rfl) rfl ?_; refine l_neu (n_move rfl rfl) rfl ?_; refine l_call (hc) rfl rfl rfl ?_; rintro _ rfl; refine l_neu (n_extract rfl rfl) rfl ?_; refine l_neu (n_extract rfl rfl) rfl ?_; refine l_neu (n_assign rfl rfl) rfl ?_; refine l_neu (n_assign rfl rfl) rfl ?_; refine l_nil ?_
    refine k1 ?_; refine k10 ?_
    exact ret_ret (ret2 rfl rfl rfl rfl rfl) rfl
  · rw [if_neg h] at hc ⊢
    refine FnOk.intro Tryz.func61 (by decide) rfl rfl rfl rfl ?_
    refine k2 ?_
    refine c_region ?_; refine l_neu (n_assign rfl rfl) rfl ?_; refine l_neu (n_assign rfl rfl) rfl ?_; refine l_nil ?_
    refine k1 ?_; refine k2 ?_
    refine c_region ?_; refine l_neu (n_move rfl rfl) rfl ?_; refine l_neu (n_move rfl rfl) rfl ?_; refine l_call (hc) rfl rfl rfl ?_; rintro _ rfl; refine l_neu (n_extract rfl rfl) rfl ?_; refine l_neu (n_extract rfl rfl) rfl ?_; refine l_neu (n_assign rfl rfl) rfl ?_; refine l_neu (n_assign rfl rfl) rfl ?_; refine l_nil ?_
    refine k1 ?_; refine k10 ?_
    exact ret_ret (ret2 rfl rfl rfl rfl rfl) rfl
def linesR (s : Str) : List PV := match linesS s with
  | none => [pStrs [], pBool false]
  | some l => [pStrs l, pBool true]
theorem stLines_ok (s : Str) (hs : s.length ≤ 536870912) : FnOk Tryz.prog 33 [pStr s] (fun rs => rs = linesR s) := by
  refine FnOk.intro Tryz.func33 (by decide) rfl rfl rfl rfl ?_
  refine k2 ?_
  refine c_region ?_; refine l_neu (n_assign rfl rfl) rfl ?_; refine l_neu (n_assign rfl rfl) rfl ?_; refine l_nil ?_
  refine k1 ?_; refine k2 ?_; refine k2 ?_
  refine c_region ?_; refine l_neu (n_move rfl rfl) rfl ?_; refine l_neu (n_eql_s rfl rfl) rfl ?_; refine l_nil ?_
  refine k1 ?_
  refine c_cond rfl (fun ht => ?_) (fun ht => ?_)
  · have h : s = [] := of_decide_eq_true ht
    refine k2 ?_
    refine c_region ?_; refine l_neu (n_assign_nil _ 1 strC) rfl ?_; refine l_neu (n_assign rfl rfl) rfl ?_; refine l_nil ?_
    refine k1 ?_; refine k10 ?_; refine k11 ?_
    exact ret_ret (rs := [pStrs [], pBool true]) (ret2 rfl rfl rfl rfl rfl) (by unfold linesR linesS; rw [if_pos h])
  have h : s ≠ [] := of_decide_eq_false ht
  have hc := cutSuffix_ok s (by omega)
  unfold cutLf at hc
  by_cases he : ended s = true
  · rw [if_pos he] at hc
    have hl : s.dropLast.length ≤ s.length := by rw [List.length_dropLast]; omega
    refine k5 ?_; refine k1 ?_; refine k2 ?_
    refine c_region ?_; refine l_neu (n_move rfl rfl) rfl ?_; refine l_call (hc) rfl rfl rfl ?_; rintro _ rfl; refine l_neu (n_move rfl rfl) rfl ?_; refine l_neu (n_extract rfl rfl) rfl ?_; refine l_neu (n_extract rfl rfl) rfl ?_; refine l_neu (n_assign rfl rfl) rfl ?_; refine l_neu (n_assign rfl rfl) rfl ?_; refine l_nil ?_
    refine k1 ?_; refine k2 ?_; refine k2 ?_
    refine c_region ?_; refine l_neu (n_move rfl rfl) rfl ?_; refine l_neu (n_not rfl) rfl ?_; refine l_nil ?_
    refine k1 ?_
    refine c_cond rfl (fun ht => ?_) (fun ht => ?_)
    · cases ht
    refine k5 ?_; refine k1 ?_; refine k2 ?_
    refine c_region ?_; refine l_neu (n_move rfl rfl) rfl ?_; refine l_call (split_ok s.dropLast (by omega)) rfl rfl rfl ?_; rintro _ rfl; refine l_neu (n_assign rfl rfl) rfl ?_; refine l_neu (n_assign rfl rfl) rfl ?_; refine l_nil ?_
    refine k1 ?_; refine k10 ?_
    exact ret_ret (rs := [pStrs (cutsOf s.dropLast), pBool true]) (ret2 rfl rfl rfl rfl rfl) (by unfold linesR; rw [linesS_cuts h, if_pos he])
  · rw [if_neg he] at hc
    refine k5 ?_; refine k1 ?_; refine k2 ?_
    refine c_region ?_; refine l_neu (n_move rfl rfl) rfl ?_; refine l_call (hc) rfl rfl rfl ?_; rintro _ rfl; refine l_neu (n_move rfl rfl) rfl ?_; refine l_neu (n_extract rfl rfl) rfl ?_; refine l_neu (n_extract rfl rfl) rfl ?_; refine l_neu (n_assign rfl rfl) rfl ?_; refine l_neu (n_assign rfl rfl) rfl ?_; refine l_nil ?_
    refine k1 ?_; refine k2 ?_; refine k2 ?_
    refine c_region ?_; refine l_neu (n_move rfl rfl) rfl ?_; refine l_neu (n_not rfl) rfl ?_; refine l_nil ?_
    refine k1 ?_
    refine c_cond rfl (fun ht => ?_) (fun ht => ?_)
    · refine k2 ?_
      refine c_region ?_; refine l_neu (n_assign_nil _ 1 strC) rfl ?_; refine l_neu (n_assign rfl rfl) rfl ?_; refine l_nil ?_
      refine k1 ?_; refine k10 ?_; refine k11 ?_
      exact ret_ret (rs := [pStrs [], pBool false]) (ret2 rfl rfl rfl rfl rfl) (by unfold linesR; rw [linesS_cuts h, if_neg he])
    · cases ht
end Go.Proofs.YtjjidificdmnmaaGreatDoor
namespace Go.Proofs.YtjjidificdmnmaaGreatDoor
open Go Go.AL
set_option maxRecDepth 100000
theorem stname_ok (l pre : Str) (hl : l.length ≤ 16777216) : FnOk Tryz.prog 90 [pStr l, pStr pre]
    (fun rs => ∃ (w : Str) (b : Bool), rs = [pStr w, pBool b] ∧ match nameAt l pre with
      | some w' => b = true ∧ w = w'
      | none => b = false) := by
  have hc := cutPrefix_ok l pre
  unfold cutP at hc
  by_cases h : l.take pre.length = pre
  · rw [if_pos h] at hc
    obtain ⟨r, hr⟩ : ∃ r, r = l.drop pre.length := ⟨_, rfl⟩
    have hrl : r.length ≤ l.length := by rw [hr, List.length_drop]; omega
    have hu := sUnquote_ok r 0 (Nat.zero_le _) (by omega)
    rw [← hr] at hc
    cases hw : wordAt r with
    | none =>
      rw [wordR_none (by rw [List.drop_zero]; exact hw)] at hu
      have hN : nameAt l pre = none := by unfold nameAt; rw [if_pos h, ← hr, hw]
      refine FnOk.intro Tryz.func90 (by decide) rfl rfl rfl rfl ?_
      refine k2 ?_
      refine c_region ?_; refine l_neu (n_assign rfl rfl) rfl ?_; refine l_neu (n_assign rfl rfl) rfl ?_; refine l_nil ?_
      refine k1 ?_; refine k2 ?_
      refine c_region ?_; refine l_neu (n_move rfl rfl) rfl ?_; refine l_neu (n_move rfl rfl) rfl ?_; refine l_call (hc) rfl rfl rfl ?_; rintro _ rfl; refine l_neu (n_move rfl rfl) rfl ?_; refine l_neu (n_extract rfl rfl) rfl ?_; refine l_neu (n_extract rfl rfl) rfl ?_; refine l_neu (n_assign rfl rfl) rfl ?_; refine l_neu (n_assign rfl rfl) rfl ?_; refine l_nil ?_
      refine k1 ?_; refine k2 ?_; refine k2 ?_
      refine c_region ?_; refine l_neu (n_move rfl rfl) rfl ?_; refine l_neu (n_not rfl) rfl ?_; refine l_nil ?_
      refine k1 ?_
      refine c_cond rfl (fun ht => ?_) (fun ht => ?_)
      · cases ht
      refine k5 ?_; refine k1 ?_; refine k2 ?_
      refine c_region ?_; refine l_neu (n_move rfl rfl) rfl ?_; refine l_call (hu) rfl rfl rfl ?_; rintro _ rfl; refine l_neu (n_move rfl rfl) rfl ?_; refine l_neu (n_extract rfl rfl) rfl ?_; refine l_neu (n_extract rfl rfl) rfl ?_; refine l_neu (n_extract rfl rfl) rfl ?_; refine l_neu (n_assign rfl rfl) rfl ?_; refine l_neu (n_assign rfl rfl) rfl ?_; refine l_neu (n_assign rfl rfl) rfl ?_; refine l_nil ?_
      refine k1 ?_; refine k2 ?_
      refine c_region ?_; refine l_neu (n_move rfl rfl) rfl ?_; refine l_neu (n_move rfl rfl) rfl ?_; refine l_neu (n_move rfl rfl) rfl ?_; refine l_guard rfl rfl rfl rfl (fun hg => by rw [hg]; exact n_move rfl rfl) ?_; refine l_guard rfl rfl rfl rfl (fun hg => by rw [hg]; exact n_move rfl rfl) ?_; refine l_guard rfl rfl rfl rfl (fun hg => by rw [hg]; exact n_len_s rfl) ?_; refine l_guard rfl rfl rfl rfl (fun hg => by rw [hg]; exact n_eql rfl rfl) ?_; refine l_neu (n_pick_bool rfl (fun h => by first | rfl | (rw [h]; rfl)) (fun h => by first | rfl | (rw [h]; rfl))) rfl ?_; refine l_neu (n_assign rfl rfl) rfl ?_; refine l_neu (n_assign rfl rfl) rfl ?_; refine l_nil ?_
      refine k1 ?_; refine k10 ?_
      refine ret_ret (ret2 rfl rfl rfl rfl rfl) ⟨[], _, rfl, ?_⟩
      rw [hN]; rfl
    | some q =>
      obtain ⟨w, k⟩ := q
      rw [wordR_some (k := k) (by rw [List.drop_zero]; exact hw), Nat.zero_add] at hu
      have hN : nameAt l pre = if k = r.length then some w else none := by unfold nameAt; rw [if_pos h, ← hr, hw]
      refine FnOk.intro Tryz.func90 (by decide) rfl rfl rfl rfl ?_
      refine k2 ?_
      refine c_region ?_; refine l_neu (n_assign rfl rfl) rfl ?_; refine l_neu (n_assign rfl rfl) rfl ?_; refine l_nil ?_
      refine k1 ?_; refine k2 ?_
      refine c_region ?_; refine l_neu (n_move rfl rfl) rfl ?_; refine l_neu (n_move rfl rfl) rfl ?_; refine l_call (hc) rfl rfl rfl ?_; rintro _ rfl; refine l_neu (n_move rfl rfl) rfl ?_; refine l_neu (n_extract rfl rfl) rfl ?_; refine l_neu (n_extract rfl rfl) rfl ?_; refine l_neu (n_assign rfl rfl) rfl ?_; refine l_neu (n_assign rfl rfl) rfl ?_; refine l_nil ?_
      refine k1 ?_; refine k2 ?_; refine k2 ?_
      refine c_region ?_; refine l_neu (n_move rfl rfl) rfl ?_; refine l_neu (n_not rfl) rfl ?_; refine l_nil ?_
      refine k1 ?_
      refine c_cond rfl (fun ht => ?_) (fun ht => ?_)
      · cases ht
      refine k5 ?_; refine k1 ?_; refine k2 ?_
      refine c_region ?_; refine l_neu (n_move rfl rfl) rfl ?_; refine l_call (hu) rfl rfl rfl ?_; rintro _ rfl; refine l_neu (n_move rfl rfl) rfl ?_; refine l_neu (n_extract rfl rfl) rfl ?_; refine l_neu (n_extract rfl rfl) rfl ?_; refine l_neu (n_extract rfl rfl) rfl ?_; refine l_neu (n_assign rfl rfl) rfl ?_; refine l_neu (n_assign rfl rfl) rfl ?_; refine l_neu (n_assign rfl rfl) rfl ?_; refine l_nil ?_
      refine k1 ?_; refine k2 ?_
      refine c_region ?_; refine l_neu (n_move rfl rfl) rfl ?_; refine l_neu (n_move rfl rfl) rfl ?_; refine l_neu (n_move rfl rfl) rfl ?_; refine l_guard rfl rfl rfl rfl (fun hg => by rw [hg]; exact n_move rfl rfl) ?_; refine l_guard rfl rfl rfl rfl (fun hg => by rw [hg]; exact n_move rfl rfl) ?_; refine l_guard rfl rfl rfl rfl (fun hg => by rw [hg]; exact n_len_s rfl) ?_; refine l_guard rfl rfl rfl rfl (fun hg => by rw [hg]; exact n_eql rfl rfl) ?_; refine l_neu (n_pick_bool rfl (fun h => by first | rfl | (rw [h]; rfl)) (fun h => by first | rfl | (rw [h]; rfl))) rfl ?_; refine l_neu (n_assign rfl rfl) rfl ?_; refine l_neu (n_assign rfl rfl) rfl ?_; refine l_nil ?_
      refine k1 ?_; refine k10 ?_
      refine ret_ret (ret2 rfl rfl rfl rfl rfl) ⟨w, _, rfl, ?_⟩
      rw [hN]
      by_cases hk : k = r.length
      · rw [if_pos hk]; exact ⟨by rw [hk]; simp, rfl⟩
      · rw [if_neg hk]; simp; omega
  · rw [if_neg h] at hc
    have hN : nameAt l pre = none := by unfold nameAt; rw [if_neg h]
    refine FnOk.intro Tryz.func90 (by decide) rfl rfl rfl rfl ?_
    refine k2 ?_
    refine c_region ?_; refine l_neu (n_assign rfl rfl) rfl ?_; refine l_neu (n_assign rfl rfl) rfl ?_; refine l_nil ?_
    refine k1 ?_; refine k2 ?_
    refine c_region ?_; refine l_neu (n_move rfl rfl) rfl ?_; refine l_neu (n_move rfl rfl) rfl ?_; refine l_call (hc) rfl rfl rfl ?_; rintro _ rfl; refine l_neu (n_move rfl rfl) rfl ?_; refine l_neu (n_extract rfl rfl) rfl ?_; refine l_neu (n_extract rfl rfl) rfl ?_; refine l_neu (n_assign rfl rfl) rfl ?_; refine l_neu (n_assign rfl rfl) rfl ?_; refine l_nil ?_
    refine k1 ?_; refine k2 ?_; refine k2 ?_
    refine c_region ?_; refine l_neu (n_move rfl rfl) rfl ?_; refine l_neu (n_not rfl) rfl ?_; refine l_nil ?_
    refine k1 ?_
    refine c_cond rfl (fun ht => ?_) (fun ht => ?_)
    · refine k2 ?_
      refine c_region ?_; refine l_neu (n_assign rfl rfl) rfl ?_; refine l_neu (n_assign rfl rfl) rfl ?_; refine l_nil ?_
      refine k1 ?_; refine k10 ?_; refine k11 ?_
      refine ret_ret (rs := [pStr [], pBool false]) (ret2 rfl rfl rfl rfl rfl) ⟨[], false, rfl, ?_⟩
      rw [hN]
    · cases ht
def spanR (l : Str) (i : Nat) (pre : Str) : List PV := match spanAt l i pre with
  | none => [pInt 0, pInt 0, pBool false]
  | some (a, _, e) => [pInt a, pInt (e : Int), pBool true]
theorem take_len {l pre : Str} {i : Nat} (hi : i ≤ l.length) (h : (l.drop i).take pre.length = pre) : i + pre.length ≤ l.length := by
  have := congrArg List.length h
  rw [List.length_take, List.length_drop] at this; omega
theorem rngFin_le {s : Str} {a c e : Nat} {r : Int × Int × Nat} (h : rngFin s a c e = some r) : r.2.2 = e := by
  unfold rngFin at h
  obtain ⟨st, hst⟩ : ∃ st : Int, st = if 0 < c then (a : Int) - 1 else a := ⟨_, rfl⟩
  rw [← hst] at h
  by_cases hc : rangeOf st c = s.take e
  · rw [if_pos hc] at h; cases h; rfl
  · rw [if_neg hc] at h; cases h
theorem rngAt_le {s : Str} {a n : Int} {e : Nat} (h : rngAt s = some (a, n, e)) : e ≤ s.length := by
  unfold rngAt at h
  cases h1 : numAt s with
  | none => rw [h1] at h; cases h
  | some p =>
    obtain ⟨v, k⟩ := p
    rw [h1] at h
    dsimp only at h
    obtain ⟨_, _, _, hk, _⟩ := num_facts h1
    split at h
    · rename_i h44
      have hlt := (List.getElem?_eq_some_iff.1 h44).1
      cases h2 : numAt (s.drop (k + 1)) with
      | none => rw [h2] at h; cases h
      | some q =>
        obtain ⟨c, k'⟩ := q
        rw [h2] at h
        dsimp only at h
        obtain ⟨_, _, _, hk', _⟩ := num_facts h2
        rw [List.length_drop] at hk'
        have := rngFin_le h
        dsimp only at this; omega
    · have := rngFin_le h
      dsimp only at this; omega
theorem spanAt_le {l pre : Str} {i : Nat} {a n : Int} {e : Nat} (hi : i ≤ l.length) (h : spanAt l i pre = some (a, n, e)) : e ≤ l.length := by
  unfold spanAt at h
  split at h
  · rename_i h1
    have h2 := take_len hi h1
    cases h3 : rngAt (l.drop (i + pre.length)) with
    | none => rw [h3] at h; cases h
    | some q =>
      obtain ⟨x, y, z⟩ := q
      rw [h3] at h
      have h4 := rngAt_le h3
      rw [List.length_drop] at h4
      simp at h; omega
  · cases h
theorem stspan_ok (l : Str) (i : Nat) (pre : Str) (hi : i ≤ l.length) (hl : l.length ≤ 16777216) : FnOk Tryz.prog 169 [pStr l, pInt i, pStr pre] (fun rs => rs = spanR l i pre) := by
  by_cases h : (l.drop i).take pre.length = pre
  · have hp := take_len hi h
    have hr := sRange_ok l (i + pre.length) hp (by omega)
    cases hg : rngAt (l.drop (i + pre.length)) with
    | none =>
      have hr : FnOk Tryz.prog 189 [pStr l, pInt ((i + pre.length : Nat) : Int)] (fun rs => rs = [pInt 0, pInt 0, pInt 0, pBool false]) := by unfold rngR at hr; rw [hg] at hr; exact hr
      rw [show ((i + pre.length : Nat) : Int) = (i : Int) + (pre.length : Int) by omega] at hr
      have hS : spanAt l i pre = none := by unfold spanAt; rw [if_pos h, hg]
      refine FnOk.intro Tryz.func169 (by decide) rfl rfl rfl rfl ?_
      refine k2 ?_
      refine c_region ?_; refine l_neu (n_assign rfl rfl) rfl ?_; refine l_neu (n_assign rfl rfl) rfl ?_; refine l_neu (n_assign rfl rfl) rfl ?_; refine l_nil ?_
      refine k1 ?_; refine k2 ?_; refine k2 ?_
      refine c_region ?_; refine l_neu (n_move rfl rfl) rfl ?_; refine l_neu (n_move rfl rfl) rfl ?_; refine l_neu (n_sub_l rfl rfl (by omega) (by omega)) rfl ?_; refine l_neu (n_move rfl rfl) rfl ?_; refine l_call (hasPrefix_ok (l.drop i) pre) rfl rfl rfl ?_; rintro _ rfl; refine l_neu (n_not rfl) rfl ?_; refine l_nil ?_
      refine k1 ?_
      refine c_cond rfl (fun ht => ?_) (fun ht => ?_)
      · rw [decide_eq_true h] at ht; cases ht
      refine k5 ?_; refine k1 ?_; refine k2 ?_
      refine c_region ?_; refine l_neu (n_move rfl rfl) rfl ?_; refine l_neu (n_move rfl rfl) rfl ?_; refine l_neu (n_move rfl rfl) rfl ?_; refine l_neu (n_len_s rfl) rfl ?_; refine l_neu (n_add rfl rfl (by omega)) rfl ?_; refine l_call (hr) rfl rfl rfl ?_; rintro _ rfl; refine l_neu (n_move rfl rfl) rfl ?_; refine l_neu (n_extract rfl rfl) rfl ?_; refine l_neu (n_extract rfl rfl) rfl ?_; refine l_neu (n_extract rfl rfl) rfl ?_; refine l_neu (n_extract rfl rfl) rfl ?_; refine l_neu (n_assign rfl rfl) rfl ?_; refine l_neu (n_assign rfl rfl) rfl ?_; refine l_neu (n_assign rfl rfl) rfl ?_; refine l_neu (n_assign rfl rfl) rfl ?_; refine l_nil ?_
      refine k1 ?_; refine k2 ?_
      refine c_region ?_; refine l_neu (n_move rfl rfl) rfl ?_; refine l_neu (n_move rfl rfl) rfl ?_; refine l_neu (n_move rfl rfl) rfl ?_; refine l_neu (n_assign rfl rfl) rfl ?_; refine l_neu (n_assign rfl rfl) rfl ?_; refine l_neu (n_assign rfl rfl) rfl ?_; refine l_nil ?_
      refine k1 ?_; refine k10 ?_
      refine ret_ret (rs := [pInt 0, pInt 0, pBool false]) (ret3 rfl rfl rfl rfl rfl rfl rfl) ?_
      unfold spanR; rw [hS]
    | some q =>
      obtain ⟨a, n, e⟩ := q
      have hr : FnOk Tryz.prog 189 [pStr l, pInt ((i + pre.length : Nat) : Int)] (fun rs => rs = [pInt a, pInt n, pInt ((i + pre.length + e : Nat) : Int), pBool true]) := by unfold rngR at hr; rw [hg] at hr; exact hr
      rw [show ((i + pre.length : Nat) : Int) = (i : Int) + (pre.length : Int) by omega] at hr
      have hS : spanAt l i pre = some (a, n, i + pre.length + e) := by unfold spanAt; rw [if_pos h, hg]
      refine FnOk.intro Tryz.func169 (by decide) rfl rfl rfl rfl ?_
      refine k2 ?_
      refine c_region ?_; refine l_neu (n_assign rfl rfl) rfl ?_; refine l_neu (n_assign rfl rfl) rfl ?_; refine l_neu (n_assign rfl rfl) rfl ?_; refine l_nil ?_
      refine k1 ?_; refine k2 ?_; refine k2 ?_
      refine c_region ?_; refine l_neu (n_move rfl rfl) rfl ?_; refine l_neu (n_move rfl rfl) rfl ?_; refine l_neu (n_sub_l rfl rfl (by omega) (by omega)) rfl ?_; refine l_neu (n_move rfl rfl) rfl ?_; refine l_call (hasPrefix_ok (l.drop i) pre) rfl rfl rfl ?_; rintro _ rfl; refine l_neu (n_not rfl) rfl ?_; refine l_nil ?_
      refine k1 ?_
      refine c_cond rfl (fun ht => ?_) (fun ht => ?_)
      · rw [decide_eq_true h] at ht; cases ht
      refine k5 ?_; refine k1 ?_; refine k2 ?_
      refine c_region ?_; refine l_neu (n_move rfl rfl) rfl ?_; refine l_neu (n_move rfl rfl) rfl ?_; refine l_neu (n_move rfl rfl) rfl ?_; refine l_neu (n_len_s rfl) rfl ?_; refine l_neu (n_add rfl rfl (by omega)) rfl ?_; refine l_call (hr) rfl rfl rfl ?_; rintro _ rfl; refine l_neu (n_move rfl rfl) rfl ?_; refine l_neu (n_extract rfl rfl) rfl ?_; refine l_neu (n_extract rfl rfl) rfl ?_; refine l_neu (n_extract rfl rfl) rfl ?_; refine l_neu (n_extract rfl rfl) rfl ?_; refine l_neu (n_assign rfl rfl) rfl ?_; refine l_neu (n_assign rfl rfl) rfl ?_; refine l_neu (n_assign rfl rfl) rfl ?_; refine l_neu (n_assign rfl rfl) rfl ?_; refine l_nil ?_
      refine k1 ?_; refine k2 ?_
      refine c_region ?_; refine l_neu (n_move rfl rfl) rfl ?_; refine l_neu (n_move rfl rfl) rfl ?_; refine l_neu (n_move rfl rfl) rfl ?_; refine l_neu (n_assign rfl rfl) rfl ?_; refine l_neu (n_assign rfl rfl) rfl ?_; refine l_neu (n_assign rfl rfl) rfl ?_; refine l_nil ?_
      refine k1 ?_; refine k10 ?_
      refine ret_ret (rs := [pInt a, pInt ((i + pre.length + e : Nat) : Int), pBool true]) (ret3 rfl rfl rfl rfl rfl rfl rfl) ?_
      unfold spanR; rw [hS]
  · have hS : spanAt l i pre = none := by unfold spanAt; rw [if_neg h]
    refine FnOk.intro Tryz.func169 (by decide) rfl rfl rfl rfl ?_
    refine k2 ?_
    refine c_region ?_; refine l_neu (n_assign rfl rfl) rfl ?_; refine l_neu (n_assign rfl rfl) rfl ?_; refine l_neu (n_assign rfl rfl) rfl ?_; refine l_nil ?_
    refine k1 ?_; refine k2 ?_; refine k2 ?_
    refine c_region ?_; refine l_neu (n_move rfl rfl) rfl ?_; refine l_neu (n_move rfl rfl) rfl ?_; refine l_neu (n_sub_l rfl rfl (by omega) (by omega)) rfl ?_; refine l_neu (n_move rfl rfl) rfl ?_; refine l_call (hasPrefix_ok (l.drop i) pre) rfl rfl rfl ?_; rintro _ rfl; refine l_neu (n_not rfl) rfl ?_; refine l_nil ?_
    refine k1 ?_
    refine c_cond rfl (fun ht => ?_) (fun ht => ?_)
    · refine k2 ?_
      refine c_region ?_; refine l_neu (n_assign rfl rfl) rfl ?_; refine l_neu (n_assign rfl rfl) rfl ?_; refine l_neu (n_assign rfl rfl) rfl ?_; refine l_nil ?_
      refine k1 ?_; refine k10 ?_; refine k11 ?_
      refine ret_ret (rs := [pInt 0, pInt 0, pBool false]) (ret3 rfl rfl rfl rfl rfl rfl rfl) ?_
      unfold spanR; rw [hS]
    · rw [decide_eq_false h] at ht; cases ht
def methC : UInt8 × Nat → Nat → Cell
  | (c, _), 0 => .v (.int .u8 c.toNat)
  | (_, f), _ => .v (.func (.func f) #[] #[])
def meths : List (UInt8 × Nat) := [(64, 132), (32, 133), (45, 133), (43, 133), (92, 134)]
def chooseF (c : UInt8) : Value := match meths.find? fun m => decide (m.1 = c) with
  | some m => .func (.func m.2) #[] #[]
  | none => .nilFunc
theorem find_none {c : UInt8} : ∀ (l : List (UInt8 × Nat)) (k : Nat), (∀ j m, j < k → l[j]? = some m → m.1 ≠ c) → l.find? (fun m => decide (m.1 = c)) = (l.drop k).find? fun m => decide (m.1 = c)
  | [], k, _ => by simp
  | x :: r, 0, _ => rfl
  | x :: r, k + 1, h => by
    have h0 : x.1 ≠ c := h 0 x (by omega) rfl
    rw [List.find?_cons_of_neg (by simpa using h0), List.drop_succ_cons]
    exact find_none r k fun j m hj hm => h (j + 1) m (by omega) (by simpa using hm)
theorem choose_ok (c : UInt8) : FnOk Tryz.prog 91 [pByte c] (fun rs => rs = [.one (.v (chooseF c))]) := by
  have hm5 : meths.length = 5 := rfl
  refine FnOk.intro Tryz.func91 (by decide) rfl rfl rfl rfl ?_
  refine k2 ?_
  refine c_region ?_; refine l_neu (n_assign rfl rfl) rfl ?_; refine l_nil ?_
  refine k1 ?_; refine k2 ?_; refine k2 ?_
  refine c_region ?_; refine l_neu (n_build rfl) rfl ?_; refine l_neu (n_build rfl) rfl ?_; refine l_neu (n_build rfl) rfl ?_; refine l_neu (n_build rfl) rfl ?_; refine l_neu (n_build rfl) rfl ?_; refine l_neu (n_buildSlice (c := methC) (ys := meths) (asm_cons rfl rfl rfl rfl (asm_cons rfl rfl rfl rfl (asm_cons rfl rfl rfl rfl (asm_cons rfl rfl rfl rfl (asm_cons rfl rfl rfl rfl asm_nil))))) rfl rfl rfl) rfl ?_; refine l_neu (n_len rfl (.pure _ _ _ _)) rfl ?_; refine l_neu (n_move rfl rfl) rfl ?_; refine l_nil ?_
  refine k1 ?_; refine k3 ?_
  refine c_while (X := Nat) (fun k => ([(0, .s (pByte c).s1), (10, sList (UInt8 × Nat) 2 methC meths), (11, sInt 5), (12, sInt k)], [])) (fun k => k ≤ 5 ∧ ∀ j m, j < k → meths[j]? = some m → m.1 ≠ c) (fun k => 5 - k) 0 ⟨by omega, by omega⟩ (Sees.of ⟨le1 rfl, le1 rfl, le1 rfl, le1 rfl, trivial⟩ trivial) ?_
  rintro k ⟨hk, hne⟩
  dsimp only at hk hne ⊢
  refine k2 ?_
  refine c_region ?_; refine l_neu (n_lss rfl rfl) rfl ?_; refine l_nil ?_
  refine k1 ?_; refine k2 ?_
  refine c_cond rfl (fun ht => ?_) (fun ht => ?_)
  · have hlt : k < 5 := by have := of_decide_eq_true ht; omega
    obtain ⟨m, hm⟩ : ∃ m, meths[k]? = some m := ⟨meths[k]'(by omega), List.getElem?_eq_getElem _⟩
    obtain ⟨m1, m2⟩ := m
    refine k5 ?_; refine k1 ?_; refine k2 ?_; refine k3 ?_; refine k2 ?_
    refine c_region ?_; refine l_neu (n_indexAddr rfl (.pure _ _ _ _) rfl (by omega) hm) rfl ?_; refine l_neu (n_loads_eref rfl rfl) rfl ?_; refine l_effv (f_alloc 4 rfl) rfl ?_; refine l_eff (e_store_ref TySz.out rfl rfl rfl rfl rfl rfl) ?_; refine l_nil ?_
    refine k1 ?_; refine k2 ?_
    refine c_region ?_; refine l_neu (n_field_ref rfl) rfl ?_; refine l_neu (n_load_ref rfl rfl rfl) rfl ?_; refine l_neu (n_move rfl rfl) rfl ?_; refine l_neu (n_eql rfl rfl) rfl ?_; refine l_nil ?_
    refine k1 ?_
    refine c_cond rfl (fun ht => ?_) (fun ht => ?_)
    · have he : (m1.toNat : Int) = (c.toNat : Int) := of_decide_eq_true ht
      have he : m1 = c := UInt8.toNat_inj.1 (by omega)
      refine k2 ?_
      refine c_region ?_; refine l_neu (n_field_ref rfl) rfl ?_; refine l_neu (n_load_ref rfl rfl rfl) rfl ?_; refine l_neu (n_assign rfl rfl) rfl ?_; refine l_nil ?_
      refine k1 ?_; refine k10 ?_; refine k12 ?_; refine k11 ?_; refine k11 ?_; refine k12 ?_; refine k11 ?_
      refine ret_ret (ret1 rfl rfl rfl) ?_
      unfold chooseF
      rw [find_none meths k hne, List.drop_eq_getElem_cons (by omega), List.find?_cons_of_pos]
      · have : meths[k]'(by omega) = (m1, m2) := (List.getElem?_eq_some_iff.1 hm).2
        rw [this]; rfl
      · have : meths[k]'(by omega) = (m1, m2) := (List.getElem?_eq_some_iff.1 hm).2
        rw [this]; simpa using he
    · have he : ¬ (m1.toNat : Int) = (c.toNat : Int) := of_decide_eq_false ht
      refine k5 ?_; refine k4 ?_; refine k1 ?_
      refine c_region ?_; refine l_neu (n_add rfl rfl (by omega)) rfl ?_; refine l_neu (n_move rfl rfl) rfl ?_; refine l_nil ?_
      refine k1 ?_
      refine ⟨k + 1, ⟨by omega, fun j x hj hx => ?_⟩, by omega, Sees.of ⟨le1 rfl, le1 rfl, le1 rfl, le1 rfl, trivial⟩ trivial⟩
      by_cases hjk : j = k
      · subst hjk
        rw [hm] at hx; cases hx
        intro e; exact he (by rw [show m1 = c from e])
      · exact hne j x (by omega) hx
  · have hk5 : k = 5 := by have := of_decide_eq_false ht; omega
    subst hk5
    refine k6 ?_; refine k2 ?_
    refine c_region ?_; refine l_neu (n_assign rfl rfl) rfl ?_; refine l_nil ?_
    refine k1 ?_; refine k10 ?_
    refine ret_ret (ret1 rfl rfl rfl) ?_
    unfold chooseF
    rw [find_none meths 5 hne]; rfl
end Go.Proofs.YtjjidificdmnmaaGreatDoor
namespace Go.Proofs.YtjjidificdmnmaaGreatDoor
open Go Go.AL
set_option maxRecDepth 100000
end Go.Proofs.YtjjidificdmnmaaGreatDoor
namespace Go.Proofs.YtjjidificdmnmaaGreatDoor
open Go Go.AL
set_option maxRecDepth 100000
end Go.Proofs.YtjjidificdmnmaaGreatDoor
namespace Go.Proofs.YtjjidificdmnmaaGreatDoor
open Go Go.AL
set_option maxRecDepth 100000
def phunkN : PatchHunk → Nat → Cell
  | h, 0 => .v (.int .i64 h.Old)
  | h, 1 => .v (.int .i64 h.New)
  | h, _ => match h.Lines with
    | [] => .v (.slice none 0 0)
    | _ :: _ => .list PatchLine 2 plineC h.Lines
abbrev zBox : Ob := .box [.p (.v (.string ⟨#[]⟩)), .p (.v (.string ⟨#[]⟩)), .p (.v (.slice none 0 0))]
abbrev psBox (o n : Str) : Ob := .box [.p (.v (.string ⟨o.toArray⟩)), .p (.v (.string ⟨n.toArray⟩)), .mut 731]
abbrev psShut (o n : Str) (hs : List PatchHunk) : Obs := [(730, psBox o n), (731, .grow 29 PatchHunk 3 phunkN hs), (2, zBox)]
abbrev psOpen (o n : Str) (hs : List PatchHunk) (a b : Int) (ls : List PatchLine) : Obs :=
  [(730, psBox o n), (731, .growA 29 PatchHunk 3 phunkN hs (hs.length - 1) [.p (.v (.int .i64 a)), .p (.v (.int .i64 b)), .mut 732]), (732, .grow 36 PatchLine 2 plineC ls), (2, zBox)]
theorem last_shut {gf : Fr} (o n : Str) : Met Tryz.prog 170 [.one (.ref 730 0)] gf (psShut o n []) [] (fun rs ob' => rs = [.one (.p (.v (.pointer none)))] ∧ ob' = psShut o n []) := by
  refine Met.intro Tryz.func170 (by decide) rfl rfl rfl ?_
  refine k2 ?_
  refine c_region ?_; refine l_neu (n_assign rfl rfl) rfl ?_; refine l_nil ?_
  refine k1 ?_; refine k2 ?_; refine k2 ?_
  refine c_region ?_; refine l_neu (n_move rfl rfl) rfl ?_; refine l_neu (n_nilCheck_ref rfl) rfl ?_; refine l_neu (n_field_ref rfl) rfl ?_; refine l_neu (n_field_ref rfl) rfl ?_; refine l_neu (n_load_ref rfl rfl rfl) rfl ?_; refine l_neu (n_len_g rfl rfl) rfl ?_; refine l_neu (n_eql rfl rfl) rfl ?_; refine l_nil ?_
  refine k1 ?_
  refine c_cond rfl (fun ht => ?_) (fun ht => ?_)
  rotate_left
  · exact absurd rfl (of_decide_eq_false ht)
  refine k2 ?_
  refine c_region ?_; refine l_neu (n_assign rfl rfl) rfl ?_; refine l_nil ?_
  refine k1 ?_; refine k10 ?_; refine k11 ?_
  exact met_ret (rets1 rfl rfl) (by repeat (first | exact tail_refl | refine tail_cons rfl ?_ | refine tail_forget _ ?_)) (fun _ _ h => h) ⟨rfl, rfl⟩
theorem last_open {gf : Fr} (o n : Str) (hs : List PatchHunk) (a b : Int) (ls : List PatchLine) (h0 : 0 < hs.length) (hl : hs.length ≤ 1073741824) :
    Met Tryz.prog 170 [.one (.ref 730 0)] gf (psOpen o n hs a b ls) [] (fun rs ob' => rs = [.one (.mref 731 3 ((hs.length : Int) - 1).toNat 0)] ∧ ob' = psOpen o n hs a b ls) := by
  refine Met.intro Tryz.func170 (by decide) rfl rfl rfl ?_
  refine k2 ?_
  refine c_region ?_; refine l_neu (n_assign rfl rfl) rfl ?_; refine l_nil ?_
  refine k1 ?_; refine k2 ?_; refine k2 ?_
  refine c_region ?_; refine l_neu (n_move rfl rfl) rfl ?_; refine l_neu (n_nilCheck_ref rfl) rfl ?_; refine l_neu (n_field_ref rfl) rfl ?_; refine l_neu (n_field_ref rfl) rfl ?_; refine l_neu (n_load_ref rfl rfl rfl) rfl ?_; refine l_neu (n_len_gA rfl rfl) rfl ?_; refine l_neu (n_eql rfl rfl) rfl ?_; refine l_nil ?_
  refine k1 ?_
  refine c_cond rfl (fun ht => ?_) (fun ht => ?_)
  · exact absurd (of_decide_eq_true ht) (by omega)
  refine k5 ?_; refine k1 ?_; refine k2 ?_
  refine c_region_draw (by kernel_rfl) (by kernel_rfl) ?_; refine d_neu (n_move rfl rfl) rfl rfl ?_; refine d_neu (n_nilCheck_ref rfl) rfl rfl ?_; refine d_neu (n_field_ref rfl) rfl rfl ?_; refine d_neu (n_field_ref rfl) rfl rfl ?_; refine d_neu (n_load_ref rfl rfl rfl) rfl rfl ?_; refine d_neu (n_move rfl rfl) rfl rfl ?_; refine d_neu (n_nilCheck_ref rfl) rfl rfl ?_; refine d_neu (n_field_ref rfl) rfl rfl ?_; refine d_neu (n_field_ref rfl) rfl rfl ?_; refine d_neu (n_load_ref rfl rfl rfl) rfl rfl ?_; refine d_neu (n_len_gA rfl rfl) rfl rfl ?_; refine d_neu (n_sub rfl rfl (by omega)) rfl rfl ?_; refine d_neu (n_indexAddr_gA rfl rfl rfl (by omega) (by omega)) rfl rfl ?_; refine d_neu (n_assign rfl rfl) rfl rfl ?_; refine d_nil ?_
  refine k1 ?_; refine k10 ?_
  exact met_ret (rets1 rfl rfl) (by repeat (first | exact tail_refl | refine tail_cons rfl ?_ | refine tail_forget _ ?_)) (fun _ _ h => h) ⟨rfl, rfl⟩
theorem header_met {gf : Fr} (o n : Str) (hs : List PatchHunk) (l : Str) (hl : hs.length ≤ 16777216) (hll : l.length ≤ 16777216) :
    Met Tryz.prog 132 [.one (.ref 730 0), .one (.p (.v (.string ⟨l.toArray⟩)))] gf (psShut o n hs) [731]
      (fun rs ob' => match headAt l with
        | none => rs = [tBo false] ∧ ob' = [(2, zBox)]
        | some (a, _, b, _) => rs = [tBo true] ∧ ob' = psShut o n (hs ++ [⟨a, b, []⟩])) := by
  have s1 := stspan_ok l 0 [64, 64, 32, 45] (Nat.zero_le _) hll
  cases hp1 : spanAt l 0 [64, 64, 32, 45] with
  | none =>
    have hH : headAt l = none := by unfold headAt; rw [hp1]
    rw [hH]
    unfold spanR at s1
    rw [hp1] at s1
    refine Met.intro Tryz.func132 (by decide) rfl rfl rfl ?_
    refine k2 ?_
    refine c_region ?_; refine l_neu (n_assign rfl rfl) rfl ?_; refine l_nil ?_
    refine k1 ?_; refine k2 ?_
    refine c_region ?_; refine l_neu (n_move rfl rfl) rfl ?_; refine l_call (s1) rfl rfl rfl ?_; rintro _ rfl; refine l_neu (n_move rfl rfl) rfl ?_; refine l_neu (n_extract rfl rfl) rfl ?_; refine l_neu (n_extract rfl rfl) rfl ?_; refine l_neu (n_extract rfl rfl) rfl ?_; refine l_neu (n_assign rfl rfl) rfl ?_; refine l_neu (n_assign rfl rfl) rfl ?_; refine l_neu (n_assign rfl rfl) rfl ?_; refine l_nil ?_
    refine k1 ?_; refine k2 ?_; refine k2 ?_
    refine c_region ?_; refine l_neu (n_move rfl rfl) rfl ?_; refine l_neu (n_not rfl) rfl ?_; refine l_nil ?_
    refine k1 ?_
    refine c_cond rfl (fun ht => ?_) (fun ht => ?_)
    · refine k2 ?_
      refine c_sees (Sees.forget 731) ?_
      refine c_region ?_; refine l_neu (n_assign rfl rfl) rfl ?_; refine l_nil ?_
      refine k1 ?_; refine k10 ?_; refine k11 ?_
      exact met_ret (rets1 rfl rfl) (by repeat (first | exact tail_refl | refine tail_cons rfl ?_ | refine tail_forget _ ?_)) (ObIn.spec (ob' := [(2, zBox)]) ⟨rfl, trivial⟩) ⟨rfl, rfl⟩
    · cases ht
  | some q =>
    obtain ⟨a, m, i⟩ := q
    unfold spanR at s1
    rw [hp1] at s1
    have hi := spanAt_le (Nat.zero_le _) hp1
    have s2 := stspan_ok l i [32, 43] hi hll
    cases hp2 : spanAt l i [32, 43] with
    | none =>
      have hH : headAt l = none := by unfold headAt; rw [hp1]; dsimp only; rw [hp2]
      rw [hH]
      unfold spanR at s2
      rw [hp2] at s2
      refine Met.intro Tryz.func132 (by decide) rfl rfl rfl ?_
      refine k2 ?_
      refine c_region ?_; refine l_neu (n_assign rfl rfl) rfl ?_; refine l_nil ?_
      refine k1 ?_; refine k2 ?_
      refine c_region ?_; refine l_neu (n_move rfl rfl) rfl ?_; refine l_call (s1) rfl rfl rfl ?_; rintro _ rfl; refine l_neu (n_move rfl rfl) rfl ?_; refine l_neu (n_extract rfl rfl) rfl ?_; refine l_neu (n_extract rfl rfl) rfl ?_; refine l_neu (n_extract rfl rfl) rfl ?_; refine l_neu (n_assign rfl rfl) rfl ?_; refine l_neu (n_assign rfl rfl) rfl ?_; refine l_neu (n_assign rfl rfl) rfl ?_; refine l_nil ?_
      refine k1 ?_; refine k2 ?_; refine k2 ?_
      refine c_region ?_; refine l_neu (n_move rfl rfl) rfl ?_; refine l_neu (n_not rfl) rfl ?_; refine l_nil ?_
      refine k1 ?_
      refine c_cond rfl (fun ht => ?_) (fun ht => ?_)
      · cases ht
      refine k5 ?_; refine k1 ?_; refine k2 ?_
      refine c_region ?_; refine l_neu (n_move rfl rfl) rfl ?_; refine l_neu (n_move rfl rfl) rfl ?_; refine l_call (s2) rfl rfl rfl ?_; rintro _ rfl; refine l_neu (n_move rfl rfl) rfl ?_; refine l_neu (n_extract rfl rfl) rfl ?_; refine l_neu (n_extract rfl rfl) rfl ?_; refine l_neu (n_extract rfl rfl) rfl ?_; refine l_neu (n_assign rfl rfl) rfl ?_; refine l_neu (n_assign rfl rfl) rfl ?_; refine l_neu (n_assign rfl rfl) rfl ?_; refine l_nil ?_
      refine k1 ?_; refine k2 ?_; refine k2 ?_
      refine c_region ?_; refine l_neu (n_move rfl rfl) rfl ?_; refine l_neu (n_not rfl) rfl ?_; refine l_neu (n_move rfl rfl) rfl ?_; refine l_skip rfl rfl rfl (by simp) rfl ?_; refine l_skip rfl rfl rfl (by simp) rfl ?_; refine l_skip rfl rfl rfl (by simp) rfl ?_; refine l_skip rfl rfl rfl (by simp) rfl ?_; refine l_neu (n_pick_t rfl (rfl) rfl) rfl ?_; refine l_nil ?_
      refine k1 ?_
      refine c_cond rfl (fun ht => ?_) (fun ht => ?_)
      · refine k2 ?_
        refine c_sees (Sees.forget 731) ?_
        refine c_region ?_; refine l_neu (n_assign rfl rfl) rfl ?_; refine l_nil ?_
        refine k1 ?_; refine k10 ?_; refine k11 ?_
        exact met_ret (rets1 rfl rfl) (by repeat (first | exact tail_refl | refine tail_cons rfl ?_ | refine tail_forget _ ?_)) (ObIn.spec (ob' := [(2, zBox)]) ⟨rfl, trivial⟩) ⟨rfl, rfl⟩
      · cases ht
    | some q =>
      obtain ⟨b, k, j⟩ := q
      unfold spanR at s2
      rw [hp2] at s2
      have hj := spanAt_le hi hp2
      have hH : headAt l = if l.drop j = [32, 64, 64] then some (a, m, b, k) else none := by unfold headAt; rw [hp1]; dsimp only; rw [hp2]
      rw [hH]
      refine Met.intro Tryz.func132 (by decide) rfl rfl rfl ?_
      refine k2 ?_
      refine c_region ?_; refine l_neu (n_assign rfl rfl) rfl ?_; refine l_nil ?_
      refine k1 ?_; refine k2 ?_
      refine c_region ?_; refine l_neu (n_move rfl rfl) rfl ?_; refine l_call (s1) rfl rfl rfl ?_; rintro _ rfl; refine l_neu (n_move rfl rfl) rfl ?_; refine l_neu (n_extract rfl rfl) rfl ?_; refine l_neu (n_extract rfl rfl) rfl ?_; refine l_neu (n_extract rfl rfl) rfl ?_; refine l_neu (n_assign rfl rfl) rfl ?_; refine l_neu (n_assign rfl rfl) rfl ?_; refine l_neu (n_assign rfl rfl) rfl ?_; refine l_nil ?_
      refine k1 ?_; refine k2 ?_; refine k2 ?_
      refine c_region ?_; refine l_neu (n_move rfl rfl) rfl ?_; refine l_neu (n_not rfl) rfl ?_; refine l_nil ?_
      refine k1 ?_
      refine c_cond rfl (fun ht => ?_) (fun ht => ?_)
      · cases ht
      refine k5 ?_; refine k1 ?_; refine k2 ?_
      refine c_region ?_; refine l_neu (n_move rfl rfl) rfl ?_; refine l_neu (n_move rfl rfl) rfl ?_; refine l_call (s2) rfl rfl rfl ?_; rintro _ rfl; refine l_neu (n_move rfl rfl) rfl ?_; refine l_neu (n_extract rfl rfl) rfl ?_; refine l_neu (n_extract rfl rfl) rfl ?_; refine l_neu (n_extract rfl rfl) rfl ?_; refine l_neu (n_assign rfl rfl) rfl ?_; refine l_neu (n_assign rfl rfl) rfl ?_; refine l_neu (n_assign rfl rfl) rfl ?_; refine l_nil ?_
      refine k1 ?_; refine k2 ?_; refine k2 ?_
      refine c_region ?_; refine l_neu (n_move rfl rfl) rfl ?_; refine l_neu (n_not rfl) rfl ?_; refine l_neu (n_move rfl rfl) rfl ?_; refine l_guard rfl rfl rfl rfl (fun hg => by rw [hg]; exact n_move rfl rfl) ?_; refine l_guard rfl rfl rfl rfl (fun hg => by rw [hg]; exact n_move rfl rfl) ?_; refine l_guard rfl rfl rfl rfl (fun hg => by have hq := hg; (try simp at hq); rw [hg]; exact n_sub_l rfl rfl (by omega) (by omega)) ?_; refine l_guard rfl rfl rfl rfl (fun hg => by rw [hg]; exact n_neq_s rfl rfl) ?_; refine l_neu (n_pick_bool rfl (fun h => by first | rfl | (rw [h]; rfl)) (fun h => by first | rfl | (rw [h]; rfl))) rfl ?_; refine l_nil ?_
      refine k1 ?_
      refine c_cond rfl (fun ht => ?_) (fun ht => ?_)
      · have hd : ¬ l.drop j = [32, 64, 64] := by simpa using ht
        rw [if_neg hd]
        refine k2 ?_
        refine c_sees (Sees.forget 731) ?_
        refine c_region ?_; refine l_neu (n_assign rfl rfl) rfl ?_; refine l_nil ?_
        refine k1 ?_; refine k10 ?_; refine k11 ?_
        exact met_ret (rets1 rfl rfl) (by repeat (first | exact tail_refl | refine tail_cons rfl ?_ | refine tail_forget _ ?_)) (ObIn.spec (ob' := [(2, zBox)]) ⟨rfl, trivial⟩) ⟨rfl, rfl⟩
      · have hd : l.drop j = [32, 64, 64] := by simpa using ht
        rw [if_pos hd]
        refine k5 ?_; refine k1 ?_; refine k2 ?_
        refine c_region ?_; refine l_neu (n_move rfl rfl) rfl ?_; refine l_neu (n_move rfl rfl) rfl ?_; refine l_neu (n_nilCheck_ref rfl) rfl ?_; refine l_neu (n_field_ref rfl) rfl ?_; refine l_neu (n_field_ref rfl) rfl ?_; refine l_neu (n_load_ref rfl rfl rfl) rfl ?_; refine l_neu (n_move rfl rfl) rfl ?_; refine l_neu (n_move rfl rfl) rfl ?_; refine l_neu (n_build rfl) rfl ?_; refine l_neu (n_buildSlice (c := phunkN) (ys := [⟨a, b, []⟩]) (asm_cons rfl rfl rfl rfl asm_nil) rfl rfl rfl) rfl ?_; refine l_effv (e_append_g rfl rfl rfl (.pure _ _ _ _) (by (simp; omega)) rfl) rfl ?_; refine l_neu (n_nilCheck_ref rfl) rfl ?_; refine l_neu (n_field_ref rfl) rfl ?_; refine l_neu (n_field_ref rfl) rfl ?_; refine l_eff (e_store_ref TySz.out rfl rfl rfl rfl rfl rfl) ?_; refine l_nil ?_
        refine k1 ?_; refine k2 ?_
        refine c_region ?_; refine l_neu (n_assign rfl rfl) rfl ?_; refine l_nil ?_
        refine k1 ?_; refine k10 ?_
        exact met_ret (rets1 rfl rfl) (by repeat (first | exact tail_refl | refine tail_cons rfl ?_ | refine tail_forget _ ?_)) (ObIn.spec (ob' := psShut o n (hs ++ [⟨a, b, []⟩])) ⟨rfl, rfl, rfl, trivial⟩) ⟨rfl, rfl⟩
theorem content_shut {gf : Fr} (o n l : Str) : Met Tryz.prog 133 [.one (.ref 730 0), .one (.p (.v (.string ⟨l.toArray⟩)))] gf (psShut o n []) [732] (fun rs ob' => rs = [tBo false] ∧ ob' = [(2, zBox)]) := by
  refine Met.intro Tryz.func133 (by decide) rfl rfl rfl ?_
  refine k2 ?_
  refine c_region ?_; refine l_neu (n_assign rfl rfl) rfl ?_; refine l_nil ?_
  refine k1 ?_; refine k2 ?_
  refine c_region ?_; refine l_neu (n_move rfl rfl) rfl ?_; refine l_met (last_shut o n) rfl rfl rfl ?_; rintro _ _ ⟨rfl, rfl⟩; refine l_neu (n_assign rfl rfl) rfl ?_; refine l_nil ?_
  refine k1 ?_; refine k2 ?_; refine k2 ?_
  refine c_region ?_; refine l_neu (n_move rfl rfl) rfl ?_; refine l_neu (n_eql_ptr0 rfl (by kernel_rfl)) rfl ?_; refine l_nil ?_
  refine k1 ?_
  refine c_cond rfl (fun ht => ?_) (fun ht => ?_)
  · refine k2 ?_
    refine c_sees (Sees.forget 732) ?_
    refine c_region ?_; refine l_neu (n_assign rfl rfl) rfl ?_; refine l_nil ?_
    refine k1 ?_; refine k10 ?_; refine k11 ?_
    exact met_ret (rets1 rfl rfl) (by repeat (first | exact tail_refl | refine tail_cons rfl ?_ | refine tail_forget _ ?_)) (ObIn.spec (ob' := [(2, zBox)]) ⟨rfl, trivial⟩) ⟨rfl, rfl⟩
  · cases ht
abbrev gfP (F : Nat) (l : Str) (R : List Str) (k : Nat) : Fr := [(1000060, sBool false), (1000061, .s (.one (.clo F [] []))), (1000062, .s (.one (.ref 730 0))), (1000063, sStr l), (1000004, .s (.one (.ref 730 0))), (1000002, .s (.one (.ref 2 0))), (1000046, sList Str 1 strC R), (1000047, sInt R.length), (1000048, sInt k)]
theorem content_open (F : Nat) (R : List Str) (k : Nat) (o n : Str) (hs : List PatchHunk) (a b : Int) (ls : List PatchLine) (c : UInt8) (r : Str) (h0 : 0 < hs.length) (hl : hs.length ≤ 16777216) (hls : ls.length ≤ 16777216) (hr : r.length ≤ 16777216) :
    Met Tryz.prog 133 [.one (.ref 730 0), .one (.p (.v (.string ⟨(c :: r).toArray⟩)))] (gfP F (c :: r) R k) (psOpen o n hs a b ls) [732]
      (fun rs ob' => rs = [tBo true] ∧ ob' = psOpen o n hs a b (ls ++ [⟨c, r ++ [10]⟩])) := by
  refine Met.intro Tryz.func133 (by decide) rfl rfl rfl ?_
  refine k2 ?_
  refine c_region ?_; refine l_neu (n_assign rfl rfl) rfl ?_; refine l_nil ?_
  refine k1 ?_; refine k2 ?_
  refine c_region ?_; refine l_neu (n_move rfl rfl) rfl ?_; refine l_met (last_open o n hs a b ls h0 (by omega)) rfl rfl rfl ?_; rintro _ _ ⟨rfl, rfl⟩; refine l_neu (n_assign rfl rfl) rfl ?_; refine l_nil ?_
  refine k1 ?_; refine k2 ?_; refine k2 ?_
  refine c_region ?_; refine l_neu (n_move rfl rfl) rfl ?_; refine l_neu (n_eql_mref0 rfl (by kernel_rfl)) rfl ?_; refine l_nil ?_
  refine k1 ?_
  refine c_cond rfl (fun ht => ?_) (fun ht => ?_)
  · cases ht
  refine k5 ?_; refine k1 ?_; refine k2 ?_
  refine c_region_ord [15, 12] [[], [12], [15, 12]] [(12, ([732], [14])), (15, ([], []))] [(0, []), (1, []), (2, []), (3, []), (4, []), (5, []), (6, []), (7, []), (8, []), (9, []), (10, []), (11, []), (12, []), (13, [12]), (14, [12]), (15, [12])] [(0, [12])] (by kernel_rfl) (by kernel_rfl) ?_; refine w_neu rfl rfl rfl rfl rfl (n_move rfl rfl) ?_; refine w_neu rfl rfl rfl rfl rfl (n_move rfl rfl) ?_; refine w_neu rfl rfl rfl rfl rfl (n_nilCheck_mref rfl) ?_; refine w_neu rfl rfl rfl rfl rfl (n_field_mref rfl) ?_; refine w_neu rfl rfl rfl rfl rfl (n_load_gA rfl rfl (by first | rfl | omega) rfl) ?_; refine w_neu rfl rfl rfl rfl rfl (n_move rfl rfl) ?_; refine w_neu rfl rfl rfl rfl rfl (n_index_s rfl rfl (by omega) (show (c :: r)[(0 : Int).toNat]? = some c from rfl)) ?_; refine w_neu rfl rfl rfl rfl rfl (n_move rfl rfl) ?_; refine w_neu rfl rfl rfl rfl rfl (n_sub_l rfl rfl (by (first | omega | (simp only [List.length_cons]; omega))) (by (first | omega | (simp only [List.length_cons]; omega)))) ?_; refine w_neu rfl rfl rfl rfl rfl (n_add_s rfl rfl (by (simp; omega))) ?_; refine w_neu rfl rfl rfl rfl rfl (n_build rfl) ?_; refine w_neu rfl rfl rfl rfl rfl (n_buildSlice (c := plineC) (ys := [⟨c, r ++ [10]⟩]) (asm_cons rfl rfl rfl rfl asm_nil) rfl rfl rfl) ?_; refine w_eff rfl rfl rfl rfl rfl (r_turn (fun frc hU => e_append_g (opvU hU rfl) rfl (opvU hU rfl) (.pure _ _ _ _) (by (simp; omega)) rfl)) rfl ?_; refine w_neu rfl rfl rfl rfl rfl (n_nilCheck_mref rfl) ?_; refine w_neu rfl rfl rfl rfl rfl (n_field_mref rfl) ?_; refine w_eff rfl rfl rfl rfl rfl (r_eff (fun frc hU => e_store_gA TySz.out (opvU hU rfl) rfl (by first | rfl | omega) (opvU hU rfl) rfl rfl rfl)) rfl ?_; refine w_nil rfl rfl ?_ ?_
  · refine x_neu rfl rfl rfl rfl rfl (n_move rfl rfl) ?_; exact x_nil
  refine k1 ?_; refine k2 ?_
  refine c_region ?_; refine l_neu (n_assign rfl rfl) rfl ?_; refine l_nil ?_
  refine k1 ?_; refine k10 ?_
  exact met_ret (rets1 rfl rfl) (by repeat (first | exact tail_refl | refine tail_cons rfl ?_ | refine tail_forget _ ?_)) (ObIn.spec (ob' := psOpen o n hs a b (ls ++ [⟨c, r ++ [10]⟩])) ⟨rfl, rfl, rfl, rfl, trivial⟩) ⟨rfl, rfl⟩
theorem unended_shut {gf : Fr} (o n l : Str) : Met Tryz.prog 134 [.one (.ref 730 0), .one (.p (.v (.string ⟨l.toArray⟩)))] gf (psShut o n []) [] (fun rs ob' => rs = [tBo false] ∧ ob' = [(2, zBox)]) := by
  refine Met.intro Tryz.func134 (by decide) rfl rfl rfl ?_
  refine k2 ?_
  refine c_region ?_; refine l_neu (n_assign rfl rfl) rfl ?_; refine l_nil ?_
  refine k1 ?_; refine k2 ?_
  refine c_region ?_; refine l_neu (n_move rfl rfl) rfl ?_; refine l_met (last_shut o n) rfl rfl rfl ?_; rintro _ _ ⟨rfl, rfl⟩; refine l_neu (n_assign rfl rfl) rfl ?_; refine l_nil ?_
  refine k1 ?_; refine k2 ?_; refine k2 ?_
  refine c_region ?_; refine l_neu (n_move rfl rfl) rfl ?_; refine l_neu (n_eql_ptr0 rfl (by kernel_rfl)) rfl ?_; refine l_neu (n_move rfl rfl) rfl ?_; refine l_skip rfl rfl rfl (by simp) rfl ?_; refine l_skip rfl rfl rfl (by simp) rfl ?_; refine l_skip rfl rfl rfl (by simp) rfl ?_; refine l_skip rfl rfl rfl (by simp) rfl ?_; refine l_skip rfl rfl rfl (by simp) rfl ?_; refine l_skip rfl rfl rfl (by simp) rfl ?_; refine l_neu (n_pick_t rfl (rfl) rfl) rfl ?_; refine l_neu (n_move rfl rfl) rfl ?_; refine l_skip rfl rfl rfl (by simp) rfl ?_; refine l_skip rfl rfl rfl (by simp) rfl ?_; refine l_neu (n_pick_t rfl (rfl) rfl) rfl ?_; refine l_nil ?_
  refine k1 ?_
  refine c_cond rfl (fun ht => ?_) (fun ht => ?_)
  · refine k2 ?_
    refine c_region ?_; refine l_neu (n_assign rfl rfl) rfl ?_; refine l_nil ?_
    refine k1 ?_; refine k10 ?_; refine k11 ?_
    exact met_ret (rets1 rfl rfl) (by repeat (first | exact tail_refl | refine tail_cons rfl ?_ | refine tail_forget _ ?_)) (ObIn.spec (ob' := [(2, zBox)]) ⟨rfl, trivial⟩) ⟨rfl, rfl⟩
  · cases ht
theorem unended_open {gf : Fr} (o n : Str) (hs : List PatchHunk) (a b : Int) (ls : List PatchLine) (l : Str) (h0 : 0 < hs.length) (hl : hs.length ≤ 16777216) (hls : ls.length ≤ 16777216) (htx : ∀ x ∈ ls, x.Text.length ≤ 1073741824) :
    Met Tryz.prog 134 [.one (.ref 730 0), .one (.p (.v (.string ⟨l.toArray⟩)))] gf (psOpen o n hs a b ls) []
      (fun rs ob' => match ls.getLast? with
        | none => rs = [tBo false] ∧ ob' = [(2, zBox)]
        | some x => if l = noNl then rs = [tBo true] ∧ ob' = psOpen o n hs a b (ls.dropLast ++ [⟨x.Kind, trimS x.Text⟩]) else rs = [tBo false] ∧ ob' = [(2, zBox)]) := by
  cases hx : ls.getLast? with
  | none =>
    have hn : ls = [] := List.getLast?_eq_none_iff.1 hx
    subst hn
    refine Met.intro Tryz.func134 (by decide) rfl rfl rfl ?_
    refine k2 ?_
    refine c_region ?_; refine l_neu (n_assign rfl rfl) rfl ?_; refine l_nil ?_
    refine k1 ?_; refine k2 ?_
    refine c_region ?_; refine l_neu (n_move rfl rfl) rfl ?_; refine l_met (last_open o n hs a b [] h0 (by omega)) rfl rfl rfl ?_; rintro _ _ ⟨rfl, rfl⟩; refine l_neu (n_assign rfl rfl) rfl ?_; refine l_nil ?_
    refine k1 ?_; refine k2 ?_; refine k2 ?_
    refine c_region ?_; refine l_neu (n_move rfl rfl) rfl ?_; refine l_neu (n_eql_mref0 rfl (by kernel_rfl)) rfl ?_; refine l_neu (n_move rfl rfl) rfl ?_; refine l_run rfl rfl rfl rfl ?_; refine l_neu (n_move rfl rfl) rfl ?_; refine l_run rfl rfl rfl rfl ?_; refine l_neu (n_nilCheck_mref rfl) rfl ?_; refine l_run rfl rfl rfl rfl ?_; refine l_neu (n_field_mref rfl) rfl ?_; refine l_run rfl rfl rfl rfl ?_; refine l_neu (n_load_gA rfl rfl (by first | rfl | omega) rfl) rfl ?_; refine l_run rfl rfl rfl rfl ?_; refine l_neu (n_len_g rfl rfl) rfl ?_; refine l_run rfl rfl rfl rfl ?_; refine l_neu (n_eql rfl rfl) rfl ?_; refine l_neu (n_pick_f rfl (rfl) rfl) rfl ?_; refine l_neu (n_move rfl rfl) rfl ?_; refine l_skip rfl rfl rfl (by simp) rfl ?_; refine l_skip rfl rfl rfl (by simp) rfl ?_; refine l_neu (n_pick_t rfl ((by simp)) rfl) rfl ?_; refine l_nil ?_
    refine k1 ?_
    refine c_cond rfl (fun ht => ?_) (fun ht => ?_)
    · refine k2 ?_
      refine c_region ?_; refine l_neu (n_assign rfl rfl) rfl ?_; refine l_nil ?_
      refine k1 ?_; refine k10 ?_; refine k11 ?_
      exact met_ret (rets1 rfl rfl) (by repeat (first | exact tail_refl | refine tail_cons rfl ?_ | refine tail_forget _ ?_)) (ObIn.spec (ob' := [(2, zBox)]) ⟨rfl, trivial⟩) ⟨rfl, rfl⟩
    · cases ht
  | some x =>
    have hne : ls ≠ [] := fun e => by rw [e] at hx; cases hx
    have hlen := List.length_pos_iff.2 hne
    have hv : ls[((ls.length : Int) - 1).toNat]? = some x := by rw [show ((ls.length : Int) - 1).toNat = ls.length - 1 by omega, ← List.getLast?_eq_getElem?]; exact hx
    have hset : ∀ y : PatchLine, ls.set (((ls.length : Int) - 1).toNat) y = ls.dropLast ++ [y] := by
      intro y
      rw [show ((ls.length : Int) - 1).toNat = ls.length - 1 by omega]
      have hd := List.dropLast_concat_getLast hne
      conv => lhs; rw [← hd]
      rw [List.set_append_right _ _ (by rw [List.length_dropLast, List.length_append, List.length_dropLast]; simp)]
      simp
    have hxt := htx x (List.mem_of_getElem? hv)
    have htr := trimSuffix_ok x.Text [10] (by omega)
    rw [trimSuffix_lf, show bareOf x.Text = trimS x.Text from rfl] at htr
    have hne0 : decide ((ls.length : Int) = 0) = false := decide_eq_false (by omega)
    refine Met.intro Tryz.func134 (by decide) rfl rfl rfl ?_
    refine k2 ?_
    refine c_region ?_; refine l_neu (n_assign rfl rfl) rfl ?_; refine l_nil ?_
    refine k1 ?_; refine k2 ?_
    refine c_region ?_; refine l_neu (n_move rfl rfl) rfl ?_; refine l_met (last_open o n hs a b ls h0 (by omega)) rfl rfl rfl ?_; rintro _ _ ⟨rfl, rfl⟩; refine l_neu (n_assign rfl rfl) rfl ?_; refine l_nil ?_
    refine k1 ?_; refine k2 ?_; refine k2 ?_
    refine c_region ?_; refine l_neu (n_move rfl rfl) rfl ?_; refine l_neu (n_eql_mref0 rfl (by kernel_rfl)) rfl ?_; refine l_neu (n_move rfl rfl) rfl ?_; refine l_run rfl rfl rfl rfl ?_; refine l_neu (n_move rfl rfl) rfl ?_; refine l_run rfl rfl rfl rfl ?_; refine l_neu (n_nilCheck_mref rfl) rfl ?_; refine l_run rfl rfl rfl rfl ?_; refine l_neu (n_field_mref rfl) rfl ?_; refine l_run rfl rfl rfl rfl ?_; refine l_neu (n_load_gA rfl rfl (by first | rfl | omega) rfl) rfl ?_; refine l_run rfl rfl rfl rfl ?_; refine l_neu (n_len_g rfl rfl) rfl ?_; refine l_run rfl rfl rfl rfl ?_; refine l_neu (n_eql rfl rfl) rfl ?_; refine l_neu (n_pick_f rfl (rfl) rfl) rfl ?_; refine l_neu (n_move rfl rfl) rfl ?_; refine l_run rfl rfl rfl hne0 ?_; refine l_neu (n_move rfl rfl) rfl ?_; refine l_run rfl rfl rfl hne0 ?_; refine l_neu (n_neq_s rfl rfl) rfl ?_; refine l_neu (n_pick_f rfl (hne0) rfl) rfl ?_; refine l_nil ?_
    refine k1 ?_
    refine c_cond rfl (fun ht => ?_) (fun ht => ?_)
    · have hl2 : l ≠ noNl := of_decide_eq_true ht
      refine k2 ?_
      refine c_region ?_; refine l_neu (n_assign rfl rfl) rfl ?_; refine l_nil ?_
      refine k1 ?_; refine k10 ?_; refine k11 ?_
      refine met_ret (rets1 rfl rfl) (by repeat (first | exact tail_refl | refine tail_cons rfl ?_ | refine tail_forget _ ?_)) (ObIn.spec (ob' := [(2, zBox)]) ⟨rfl, trivial⟩) ?_
      dsimp only
      rw [if_neg hl2]
      exact ⟨rfl, rfl⟩
    · have hl2 : l = noNl := Decidable.not_not.1 (of_decide_eq_false ht)
      refine k5 ?_; refine k1 ?_; refine k2 ?_
      refine c_region_draw (by kernel_rfl) (by kernel_rfl) ?_; refine d_neu (n_move rfl rfl) rfl rfl ?_; refine d_neu (n_nilCheck_mref rfl) rfl rfl ?_; refine d_neu (n_field_mref rfl) rfl rfl ?_; refine d_neu (n_load_gA rfl rfl (by first | rfl | omega) rfl) rfl rfl ?_; refine d_neu (n_move rfl rfl) rfl rfl ?_; refine d_neu (n_nilCheck_mref rfl) rfl rfl ?_; refine d_neu (n_field_mref rfl) rfl rfl ?_; refine d_neu (n_load_gA rfl rfl (by first | rfl | omega) rfl) rfl rfl ?_; refine d_neu (n_len_g rfl rfl) rfl rfl ?_; refine d_neu (n_sub rfl rfl (by omega)) rfl rfl ?_; refine d_neu (n_indexAddr_g rfl rfl rfl (by omega) (by omega)) rfl rfl ?_; refine d_neu (n_assign rfl rfl) rfl rfl ?_; refine d_nil ?_
      refine k1 ?_; refine k2 ?_
      refine c_region ?_; refine l_neu (n_move rfl rfl) rfl ?_; refine l_neu (n_move rfl rfl) rfl ?_; refine l_neu (n_nilCheck_mref rfl) rfl ?_; refine l_neu (n_field_mref rfl) rfl ?_; refine l_neu (n_load_g rfl rfl hv rfl) rfl ?_; refine l_call (htr) rfl rfl rfl ?_; rintro _ rfl; refine l_neu (n_nilCheck_mref rfl) rfl ?_; refine l_neu (n_field_mref rfl) rfl ?_; refine l_eff (e_store_g (⟨x.Kind, trimS x.Text⟩) TySz.out rfl rfl hv rfl rfl rfl rfl (fun _ _ _ h => all2_unp h) (by intro j h1 h2; rcases j with _ | _ | _ | _ | _ | _ | _ | j <;> first | rfl | omega)) ?_; refine l_nil ?_
      rw [hset]
      refine k1 ?_; refine k2 ?_
      refine c_region ?_; refine l_neu (n_assign rfl rfl) rfl ?_; refine l_nil ?_
      refine k1 ?_; refine k10 ?_
      refine met_ret (rets1 rfl rfl) (by repeat (first | exact tail_refl | refine tail_cons rfl ?_ | refine tail_forget _ ?_)) (ObIn.spec (ob' := psOpen o n hs a b (ls.dropLast ++ [⟨x.Kind, trimS x.Text⟩])) ⟨rfl, rfl, rfl, rfl, trivial⟩) ?_
      dsimp only
      rw [if_pos hl2]
      exact ⟨rfl, rfl⟩
end Go.Proofs.YtjjidificdmnmaaGreatDoor
