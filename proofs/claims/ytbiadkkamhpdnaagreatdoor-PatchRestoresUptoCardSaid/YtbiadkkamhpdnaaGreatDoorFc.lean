/- Walks of the program's functions. -/
import Derived.Test.YtbiadkkamhpdnaaGreatDoorFb
import Derived.Test.YtbiadkkamhpdnaaGreatDoorFs
import Derived.Test.YtbiadkkamhpdnaaGreatDoorAn
set_option linter.unusedSimpArgs false
namespace Go.Proofs.YtbiadkkamhpdnaaGreatDoor
open Go Go.AL
set_option maxRecDepth 100000
def wTo (p : Patch) (k : Nat) : Str := (namePs p ++ ((p.Hunks.take k).map hunkPs).flatten).flatten
theorem wTo_succ (p : Patch) (k : Nat) (h : k < p.Hunks.length) : wTo p (k + 1) = wTo p k ++ (hunkPs p.Hunks[k]).flatten := by
  unfold wTo
  rw [hunkTo_succ _ _ h]; simp only [List.flatten_append, List.append_assoc]
def lTo (ls : List PatchLine) (n : Nat) : Str := ((ls.take n).map linePs).flatten.flatten
theorem lTo_succ (ls : List PatchLine) (n : Nat) (h : n < ls.length) : lTo ls (n + 1) = lTo ls n ++ (linePs ls[n]).flatten := by
  unfold lTo; rw [lineTo_succ _ _ h, List.flatten_append]
theorem uwritten_ok (p : Patch) (hp : PFit p) (hrange : ∀ h ∈ p.Hunks, (-4611686018427387904 ≤ h.Old ∧ h.Old ≤ 4611686018427387904) ∧ (-4611686018427387904 ≤ h.New ∧ h.New ≤ 4611686018427387904)) : FnOk Tryz.prog 77 [pPatch p] (fun rs => rs = [pStr (writeOf p)]) := by
  have hsl := szP_len p.Hunks
  have hpl := hp.hunks
  have hpo := hp.old
  have hpn := hp.new
  have hq1 := quoteOf_len p.OldName
  have hq2 := quoteOf_len p.NewName
  have hnf := namePs_flat p
  have hw0 : wTo p 0 = [45, 45, 45, 32] ++ quoteOf p.OldName ++ [10, 43, 43, 43, 32] ++ quoteOf p.NewName ++ [10] := by
    unfold wTo namePs; simp
  have hwl : ∀ k, (wTo p k).length ≤ 33554446 + szP p.Hunks := fun k => by
    have h1 := hunksPs_flat (p.Hunks.take k)
    have h2 := szP_take p.Hunks k
    unfold wTo; rw [List.flatten_append, List.length_append]; omega
  refine FnOk.intro Tryz.func77 (by decide) rfl rfl rfl rfl ?_
  refine k2 ?_
  refine c_region ?_; refine l_effv (f_box 1 rfl rfl rfl) rfl ?_; refine l_neu (n_assign rfl rfl) rfl ?_; refine l_nil ?_
  refine k1 ?_; refine k2 ?_
  refine c_region ?_; refine l_effv (f_allocT 700 rfl) rfl ?_; refine l_nil ?_
  refine k1 ?_; refine k2 ?_
  refine c_sees (Sees.adoptT 701 UInt8 1 u8C 5 (kb := 700) (o := 1) rfl rfl rfl) ?_
  have hwl0 := hwl 0
  rw [hw0] at hwl0
  refine c_region_turn 10 (by kernel_rfl) (by kernel_rfl) rfl ?_; refine d_neu (n_field_ref rfl) rfl rfl ?_; refine d_neu (n_load_ref rfl rfl rfl) rfl rfl ?_; refine d_neu (n_call1 (squote_ok p.OldName (by omega)) rfl rfl) rfl rfl ?_; refine d_neu (n_add_s rfl rfl (by (simp only [List.length_cons, List.length_nil]; omega))) rfl rfl ?_; refine d_neu (n_add_s rfl rfl (by (simp only [List.length_append, List.length_cons, List.length_nil]; omega))) rfl rfl ?_; refine d_neu (n_field_ref rfl) rfl rfl ?_; refine d_neu (n_load_ref rfl rfl rfl) rfl rfl ?_; refine d_neu (n_call1 (squote_ok p.NewName (by omega)) rfl rfl) rfl rfl ?_; refine d_neu (n_add_s rfl rfl (by (simp only [List.length_append, List.length_cons, List.length_nil]; omega))) rfl rfl ?_; refine d_neu (n_add_s rfl rfl (by (simp only [List.length_append, List.length_cons, List.length_nil]; omega))) rfl rfl ?_; refine d_nil ?_; refine met_step (writeString_met (xs := []) ⟨⟨_, .inl rfl, rfl⟩, rfl⟩ (by simp only [List.length_nil]; omega)) rfl rfl rfl ?_; rintro _ _ ⟨rfl, rfl⟩; refine ⟨_, rfl, ?_⟩; refine d_nil ?_
  rw [← hw0]
  refine k1 ?_; refine k2 ?_; refine k2 ?_
  refine c_region ?_; refine l_neu (n_field_ref rfl) rfl ?_; refine l_neu (n_load_ref rfl rfl rfl) rfl ?_; refine l_neu (n_len rfl (.pure _ _ _ _)) rfl ?_; refine l_neu (n_move rfl rfl) rfl ?_; refine l_nil ?_
  refine k1 ?_; refine k3 ?_
  refine c_while (X := Nat) (fun k => ([(3, .s (.one (.ref 700 0))), (20, sList PatchHunk 3 phunkC p.Hunks), (21, sInt p.Hunks.length), (22, sInt k)], [(700, .tbx 124 [.ref 700 0, .buf 701 UInt8 1 u8C (wTo p k)]), (701, .spare (wTo p k).length 1 5)])) (fun k => k ≤ p.Hunks.length) (fun k => p.Hunks.length - k) 0 (Nat.zero_le _) (Sees.of ⟨le1 rfl, le1 rfl, le1 rfl, le1 rfl, trivial⟩ ⟨rfl, rfl, trivial⟩) ?_
  intro k hk
  dsimp only at hk ⊢
  refine k2 ?_
  refine c_region ?_; refine l_neu (n_lss rfl rfl) rfl ?_; refine l_nil ?_
  refine k1 ?_; refine k2 ?_
  refine c_cond rfl (fun ht => ?_) (fun ht => ?_)
  · have hlt : k < p.Hunks.length := by have := of_decide_eq_true ht; omega
    have hv : p.Hunks[k]? = some p.Hunks[k] := by simp [hlt]
    have hmem : p.Hunks[k] ∈ p.Hunks := List.getElem_mem hlt
    have hsucc := wTo_succ p k hlt
    have hwk := hwl k
    obtain ⟨h, hx⟩ : ∃ x, x = p.Hunks[k] := ⟨_, rfl⟩
    rw [← hx] at hv hmem hsucc
    have h1 := szP_mem hmem
    have h3 := szL_len h.Lines
    have h4 := headW_len h
    have hr := hrange h hmem
    unfold szH at h1
    obtain ⟨base, hbase⟩ : ∃ base, base = wTo p k := ⟨_, rfl⟩
    rw [← hbase] at hsucc hwk ⊢
    refine k5 ?_; refine k1 ?_; refine k2 ?_; refine k3 ?_; refine k2 ?_
    refine c_region ?_; refine l_neu (n_indexAddr rfl (.pure _ _ _ _) rfl (by omega) hv) rfl ?_; refine l_neu (n_loads_eref rfl rfl) rfl ?_; refine l_effv (f_alloc 5 rfl) rfl ?_; refine l_eff (e_store_ref TySz.out rfl rfl rfl rfl rfl rfl) ?_; refine l_nil ?_
    refine k1 ?_; refine k2 ?_
    refine c_region ?_; refine l_neu (n_loads_ref rfl rfl rfl) rfl ?_; refine l_call (uheader_ok h (by omega) hr.1 hr.2) rfl rfl rfl ?_; rintro _ rfl; refine l_met (writeString_met (xs := base) (s := headW h) ⟨⟨_, .inr rfl, rfl⟩, rfl⟩ (by omega)) rfl rfl rfl ?_; rintro _ _ ⟨rfl, rfl⟩; refine l_nil ?_
    refine k1 ?_; refine k2 ?_
    refine c_region ?_; refine l_neu (n_field_ref rfl) rfl ?_; refine l_neu (n_load_ref rfl rfl rfl) rfl ?_; refine l_neu (n_len rfl (.pure _ _ _ _)) rfl ?_; refine l_neu (n_move rfl rfl) rfl ?_; refine l_nil ?_
    refine k1 ?_; refine k3 ?_
    refine c_while (X := Nat) (fun n => ([(3, .s (.one (.ref 700 0))), (20, sList PatchHunk 3 phunkC p.Hunks), (21, sInt p.Hunks.length), (22, sInt k), (30, sList PatchLine 2 plineC h.Lines), (31, sInt h.Lines.length), (32, sInt n)], [(700, .tbx 124 [.ref 700 0, .buf 701 UInt8 1 u8C (base ++ headW h ++ lTo h.Lines n)]), (701, .spare (base ++ headW h ++ lTo h.Lines n).length 1 5)])) (fun n => n ≤ h.Lines.length) (fun n => h.Lines.length - n) 0 (Nat.zero_le _) ?_ ?_
    · have e : base ++ headW h ++ lTo h.Lines 0 = base ++ headW h := by simp [lTo]
      rw [e]
      exact Sees.of ⟨le1 rfl, le1 rfl, le1 rfl, le1 rfl, le1 rfl, le1 rfl, le1 rfl, trivial⟩ ⟨rfl, rfl, trivial⟩
    intro n hn1
    dsimp only at hn1 ⊢
    have hll := linesPs_flat (h.Lines.take n)
    have hl2 := szL_take h.Lines n
    have hlt0 : (lTo h.Lines n).length ≤ (h.Lines.map szL).sum := by unfold lTo; omega
    refine k2 ?_
    refine c_region ?_; refine l_neu (n_lss rfl rfl) rfl ?_; refine l_nil ?_
    refine k1 ?_; refine k2 ?_
    refine c_cond rfl (fun ht => ?_) (fun ht => ?_)
    · have hlt2 : n < h.Lines.length := by have := of_decide_eq_true ht; omega
      have hv2 : h.Lines[n]? = some h.Lines[n] := by simp [hlt2]
      have hmem2 := szL_mem (List.getElem_mem hlt2)
      have hsucc2 := lTo_succ h.Lines n hlt2
      obtain ⟨x, hx2⟩ : ∃ x, x = h.Lines[n] := ⟨_, rfl⟩
      rw [← hx2] at hv2 hmem2 hsucc2
      obtain ⟨bs, hbs⟩ : ∃ bs, bs = base ++ headW h ++ lTo h.Lines n := ⟨_, rfl⟩
      have hbl : bs.length ≤ 33554446 + szP p.Hunks + 52 + szP p.Hunks := by rw [hbs, List.length_append, List.length_append]; omega
      rw [← hbs]
      have hm29 : markS.length = 29 := rfl
      refine k5 ?_; refine k1 ?_; refine k2 ?_; refine k3 ?_; refine k2 ?_
      refine c_region ?_; refine l_neu (n_indexAddr rfl (.pure _ _ _ _) rfl (by omega) hv2) rfl ?_; refine l_neu (n_loads_eref rfl rfl) rfl ?_; refine l_effv (f_alloc 7 rfl) rfl ?_; refine l_eff (e_store_ref TySz.out rfl rfl rfl rfl rfl rfl) ?_; refine l_nil ?_
      refine k1 ?_; refine k2 ?_
      refine c_region ?_; refine l_neu (n_field_ref rfl) rfl ?_; refine l_neu (n_load_ref rfl rfl rfl) rfl ?_; refine l_met (writeByte_met (xs := bs) (c := x.Kind) ⟨⟨_, .inr rfl, rfl⟩, rfl⟩ (by omega)) rfl rfl rfl ?_; rintro _ _ ⟨rfl, rfl⟩; refine l_nil ?_
      refine k1 ?_; refine k2 ?_
      refine c_region ?_; refine l_neu (n_field_ref rfl) rfl ?_; refine l_neu (n_load_ref rfl rfl rfl) rfl ?_; refine l_met (writeString_met (xs := bs ++ [x.Kind]) (s := x.Text) ⟨⟨_, .inr rfl, rfl⟩, rfl⟩ (by simp only [List.length_append, List.length_cons, List.length_nil]; omega)) rfl rfl rfl ?_; rintro _ _ ⟨rfl, rfl⟩; refine l_nil ?_
      refine k1 ?_; refine k2 ?_
      refine c_region ?_; refine l_neu (n_field_ref rfl) rfl ?_; refine l_neu (n_load_ref rfl rfl rfl) rfl ?_; refine l_call (tended_ok x.Text (by omega)) rfl rfl rfl ?_; rintro _ rfl; refine l_neu (n_not rfl) rfl ?_; refine l_nil ?_
      refine k1 ?_
      refine c_cond rfl (fun ht => ?_) (fun ht => ?_)
      · have h2 : ended x.Text = false := by simpa using ht
        have e : base ++ headW h ++ lTo h.Lines (n + 1) = bs ++ [x.Kind] ++ x.Text ++ markS := by
          rw [hsucc2, hbs, linePs, h2]; simp
        skip
        refine c_region ?_; refine l_met (writeString_met (xs := bs ++ [x.Kind] ++ x.Text) (s := markS) ⟨⟨_, .inr rfl, rfl⟩, rfl⟩ (by simp only [List.length_append, List.length_cons, List.length_nil]; omega)) rfl rfl rfl ?_; rintro _ _ ⟨rfl, rfl⟩; refine l_nil ?_
        refine k4 ?_; refine k1 ?_
        refine c_region ?_; refine l_neu (n_add rfl rfl (by omega)) rfl ?_; refine l_neu (n_move rfl rfl) rfl ?_; refine l_nil ?_
        refine k1 ?_
        refine ⟨n + 1, by omega, by omega, ?_⟩
        rw [e]
        exact Sees.of ⟨le1 rfl, le1 rfl, le1 rfl, le1 rfl, le1 rfl, le1 rfl, le1 rfl, trivial⟩ ⟨rfl, rfl, trivial⟩
      · have h2 : ended x.Text = true := by simpa using ht
        have e : base ++ headW h ++ lTo h.Lines (n + 1) = bs ++ [x.Kind] ++ x.Text := by
          rw [hsucc2, hbs, linePs, h2]; simp
        refine k5 ?_; refine k4 ?_; refine k1 ?_
        refine c_region ?_; refine l_neu (n_add rfl rfl (by omega)) rfl ?_; refine l_neu (n_move rfl rfl) rfl ?_; refine l_nil ?_
        refine k1 ?_
        refine ⟨n + 1, by omega, by omega, ?_⟩
        rw [e]
        exact Sees.of ⟨le1 rfl, le1 rfl, le1 rfl, le1 rfl, le1 rfl, le1 rfl, le1 rfl, trivial⟩ ⟨rfl, rfl, trivial⟩
    · have hn' : n = h.Lines.length := by have := of_decide_eq_false ht; omega
      subst hn'
      have e : wTo p (k + 1) = base ++ headW h ++ lTo h.Lines h.Lines.length := by
        rw [hsucc, hunkPs, lTo, List.take_length]; simp
      rw [← e]
      refine k6 ?_; refine k7 ?_; refine k7 ?_; refine k8 rfl ?_; refine k4 ?_; refine k1 ?_
      refine c_region ?_; refine l_neu (n_add rfl rfl (by omega)) rfl ?_; refine l_neu (n_move rfl rfl) rfl ?_; refine l_nil ?_
      refine k1 ?_
      exact ⟨k + 1, by omega, by omega, Sees.of ⟨le1 rfl, le1 rfl, le1 rfl, le1 rfl, trivial⟩ ⟨rfl, rfl, trivial⟩⟩
  · have hk' : k = p.Hunks.length := by have := of_decide_eq_false ht; omega
    subst hk'
    have e : wTo p p.Hunks.length = writeOf p := by unfold wTo writeOf writePs; rw [List.take_length]
    rw [e]
    refine k6 ?_; refine k2 ?_
    refine c_region ?_; refine l_bstring (k := 700) (k' := 701) ⟨_, rfl, rfl, rfl⟩ bstring_calls rfl rfl rfl rfl rfl (.inr rfl) rfl ?_; refine l_neu (n_assign rfl rfl) rfl ?_; refine l_nil ?_
    refine k1 ?_; refine k10 ?_
    exact ret_ret (ret1 rfl rfl rfl) rfl
end Go.Proofs.YtbiadkkamhpdnaaGreatDoor
namespace Go.Proofs.YtbiadkkamhpdnaaGreatDoor
open Go Go.AL
set_option maxRecDepth 100000
theorem usize_ok (p : Patch) (hp : PFit p) (hrange : ∀ h ∈ p.Hunks, (-4611686018427387904 ≤ h.Old ∧ h.Old ≤ 4611686018427387904) ∧ (-4611686018427387904 ≤ h.New ∧ h.New ≤ 4611686018427387904)) : FnOk Tryz.prog 81 [pPatch p] (fun rs => rs = [pInt (writeOf p).length]) := by
  have hsl := szP_len p.Hunks
  have hpl := hp.hunks
  have hpo := hp.old
  have hpn := hp.new
  have hnf := namePs_flat p
  have hw0 : (writeOf ⟨p.OldName, p.NewName, []⟩).length = (wTo p 0).length := by
    unfold writeOf wTo writePs namePs; simp
  have hwl : ∀ k, (wTo p k).length ≤ 33554446 + szP p.Hunks := fun k => by
    have h1 := hunksPs_flat (p.Hunks.take k)
    have h2 := szP_take p.Hunks k
    unfold wTo; rw [List.flatten_append, List.length_append]; omega
  refine FnOk.intro Tryz.func81 (by decide) rfl rfl rfl rfl ?_
  refine k2 ?_
  refine c_region ?_; refine l_effv (f_box 1 rfl rfl rfl) rfl ?_; refine l_neu (n_assign rfl rfl) rfl ?_; refine l_nil ?_
  refine k1 ?_; refine k2 ?_
  refine c_region ?_; refine l_neu (n_field_ref rfl) rfl ?_; refine l_neu (n_load_ref rfl rfl rfl) rfl ?_; refine l_neu (n_field_ref rfl) rfl ?_; refine l_neu (n_load_ref rfl rfl rfl) rfl ?_; refine l_neu (n_build rfl) rfl ?_; refine l_sees (Sees.aggNil PatchHunk 3 phunkC 12 2 rfl rfl) ?_; refine l_call (uwritten_ok ⟨p.OldName, p.NewName, []⟩ ⟨by dsimp only; omega, by dsimp only; omega, by simp [szP]⟩ (by simp)) rfl rfl rfl ?_; rintro _ rfl; refine l_neu (n_len_s rfl) rfl ?_; refine l_neu (n_assign rfl rfl) rfl ?_; refine l_nil ?_
  rw [hw0]
  refine k1 ?_; refine k2 ?_; refine k2 ?_
  refine c_region ?_; refine l_neu (n_field_ref rfl) rfl ?_; refine l_neu (n_load_ref rfl rfl rfl) rfl ?_; refine l_neu (n_len rfl (.pure _ _ _ _)) rfl ?_; refine l_neu (n_move rfl rfl) rfl ?_; refine l_nil ?_
  refine k1 ?_; refine k3 ?_
  refine c_while (X := Nat) (fun k => ([(3, sInt (wTo p k).length), (16, sList PatchHunk 3 phunkC p.Hunks), (17, sInt p.Hunks.length), (18, sInt k)], [])) (fun k => k ≤ p.Hunks.length) (fun k => p.Hunks.length - k) 0 (Nat.zero_le _) (Sees.of ⟨le1 rfl, le1 rfl, le1 rfl, le1 rfl, trivial⟩ trivial) ?_
  intro k hk
  dsimp only at hk ⊢
  have hwk := hwl k
  refine k2 ?_
  refine c_region ?_; refine l_neu (n_lss rfl rfl) rfl ?_; refine l_nil ?_
  refine k1 ?_; refine k2 ?_
  refine c_cond rfl (fun ht => ?_) (fun ht => ?_)
  · have hlt : k < p.Hunks.length := by have := of_decide_eq_true ht; omega
    have hv : p.Hunks[k]? = some p.Hunks[k] := by simp [hlt]
    have hmem : p.Hunks[k] ∈ p.Hunks := List.getElem_mem hlt
    have hsucc := wTo_succ p k hlt
    obtain ⟨h, hx⟩ : ∃ x, x = p.Hunks[k] := ⟨_, rfl⟩
    rw [← hx] at hv hmem hsucc
    have h1 := szP_mem hmem
    have h3 := szL_len h.Lines
    have h4 := headW_len h
    have hr := hrange h hmem
    unfold szH at h1
    obtain ⟨base, hbase⟩ : ∃ base, base = (wTo p k).length := ⟨_, rfl⟩
    rw [← hbase] at hwk ⊢
    have hsl2 : (wTo p (k + 1)).length = base + (headW h).length + (lTo h.Lines h.Lines.length).length := by
      rw [hsucc, hunkPs, lTo, List.take_length, hbase]; simp; omega
    refine k5 ?_; refine k1 ?_; refine k2 ?_; refine k3 ?_; refine k2 ?_
    refine c_region ?_; refine l_neu (n_indexAddr rfl (.pure _ _ _ _) rfl (by omega) hv) rfl ?_; refine l_neu (n_loads_eref rfl rfl) rfl ?_; refine l_effv (f_alloc 5 rfl) rfl ?_; refine l_eff (e_store_ref TySz.out rfl rfl rfl rfl rfl rfl) ?_; refine l_nil ?_
    refine k1 ?_; refine k2 ?_
    refine c_region ?_; refine l_neu (n_move rfl rfl) rfl ?_; refine l_neu (n_loads_ref rfl rfl rfl) rfl ?_; refine l_call (uheader_ok h (by omega) hr.1 hr.2) rfl rfl rfl ?_; rintro _ rfl; refine l_neu (n_len_s rfl) rfl ?_; refine l_neu (n_add rfl rfl (by omega)) rfl ?_; refine l_neu (n_assign rfl rfl) rfl ?_; refine l_nil ?_
    refine k1 ?_; refine k2 ?_
    refine c_region ?_; refine l_neu (n_field_ref rfl) rfl ?_; refine l_neu (n_load_ref rfl rfl rfl) rfl ?_; refine l_neu (n_len rfl (.pure _ _ _ _)) rfl ?_; refine l_neu (n_move rfl rfl) rfl ?_; refine l_nil ?_
    refine k1 ?_; refine k3 ?_
    refine c_while (X := Nat) (fun n => ([(3, sInt (base + (headW h).length + (lTo h.Lines n).length : Nat)), (16, sList PatchHunk 3 phunkC p.Hunks), (17, sInt p.Hunks.length), (18, sInt k), (28, sList PatchLine 2 plineC h.Lines), (29, sInt h.Lines.length), (30, sInt n)], [])) (fun n => n ≤ h.Lines.length) (fun n => h.Lines.length - n) 0 (Nat.zero_le _) ?_ ?_
    · have e : ((base + (headW h).length + (lTo h.Lines 0).length : Nat) : Int) = (base : Int) + ((headW h).length : Int) := by simp [lTo]
      rw [e]
      exact Sees.of ⟨le1 rfl, le1 rfl, le1 rfl, le1 rfl, le1 rfl, le1 rfl, le1 rfl, trivial⟩ trivial
    intro n hn1
    dsimp only at hn1 ⊢
    have hll := linesPs_flat (h.Lines.take n)
    have hl2 := szL_take h.Lines n
    have hlt0 : (lTo h.Lines n).length ≤ (h.Lines.map szL).sum := by unfold lTo; omega
    refine k2 ?_
    refine c_region ?_; refine l_neu (n_lss rfl rfl) rfl ?_; refine l_nil ?_
    refine k1 ?_; refine k2 ?_
    refine c_cond rfl (fun ht => ?_) (fun ht => ?_)
    · have hlt2 : n < h.Lines.length := by have := of_decide_eq_true ht; omega
      have hv2 : h.Lines[n]? = some h.Lines[n] := by simp [hlt2]
      have hmem2 := szL_mem (List.getElem_mem hlt2)
      have hsucc2 := lTo_succ h.Lines n hlt2
      obtain ⟨x, hx2⟩ : ∃ x, x = h.Lines[n] := ⟨_, rfl⟩
      rw [← hx2] at hv2 hmem2 hsucc2
      have hm29 : markS.length = 29 := rfl
      refine k5 ?_; refine k1 ?_; refine k2 ?_; refine k3 ?_; refine k2 ?_
      refine c_region ?_; refine l_neu (n_indexAddr rfl (.pure _ _ _ _) rfl (by omega) hv2) rfl ?_; refine l_neu (n_loads_eref rfl rfl) rfl ?_; refine l_effv (f_alloc 7 rfl) rfl ?_; refine l_eff (e_store_ref TySz.out rfl rfl rfl rfl rfl rfl) ?_; refine l_nil ?_
      refine k1 ?_; refine k2 ?_
      refine c_region ?_; refine l_neu (n_move rfl rfl) rfl ?_; refine l_neu (n_field_ref rfl) rfl ?_; refine l_neu (n_load_ref rfl rfl rfl) rfl ?_; refine l_neu (n_len_s rfl) rfl ?_; refine l_neu (n_add rfl rfl (by omega)) rfl ?_; refine l_neu (n_add rfl rfl (by omega)) rfl ?_; refine l_neu (n_assign rfl rfl) rfl ?_; refine l_nil ?_
      refine k1 ?_; refine k2 ?_
      refine c_region ?_; refine l_neu (n_field_ref rfl) rfl ?_; refine l_neu (n_load_ref rfl rfl rfl) rfl ?_; refine l_call (tended_ok x.Text (by omega)) rfl rfl rfl ?_; rintro _ rfl; refine l_neu (n_not rfl) rfl ?_; refine l_nil ?_
      refine k1 ?_
      refine c_cond rfl (fun ht => ?_) (fun ht => ?_)
      · have h2 : ended x.Text = false := by simpa using ht
        have e : ((base + (headW h).length + (lTo h.Lines (n + 1)).length : Nat) : Int) = ((base + (headW h).length + (lTo h.Lines n).length : Nat) : Int) + (1 + (x.Text.length : Int)) + 29 := by
          rw [hsucc2, linePs, h2]; simp [hm29]; omega
        skip
        refine c_region ?_; refine l_neu (n_move rfl rfl) rfl ?_; refine l_neu (n_add rfl rfl (by omega)) rfl ?_; refine l_neu (n_assign rfl rfl) rfl ?_; refine l_nil ?_
        refine k4 ?_; refine k1 ?_
        refine c_region ?_; refine l_neu (n_add rfl rfl (by omega)) rfl ?_; refine l_neu (n_move rfl rfl) rfl ?_; refine l_nil ?_
        refine k1 ?_
        refine ⟨n + 1, by omega, by omega, ?_⟩
        rw [e]
        exact Sees.of ⟨le1 rfl, le1 rfl, le1 rfl, le1 rfl, le1 rfl, le1 rfl, le1 rfl, trivial⟩ trivial
      · have h2 : ended x.Text = true := by simpa using ht
        have e : ((base + (headW h).length + (lTo h.Lines (n + 1)).length : Nat) : Int) = ((base + (headW h).length + (lTo h.Lines n).length : Nat) : Int) + (1 + (x.Text.length : Int)) := by
          rw [hsucc2, linePs, h2]; simp; omega
        refine k5 ?_; refine k4 ?_; refine k1 ?_
        refine c_region ?_; refine l_neu (n_add rfl rfl (by omega)) rfl ?_; refine l_neu (n_move rfl rfl) rfl ?_; refine l_nil ?_
        refine k1 ?_
        refine ⟨n + 1, by omega, by omega, ?_⟩
        rw [e]
        exact Sees.of ⟨le1 rfl, le1 rfl, le1 rfl, le1 rfl, le1 rfl, le1 rfl, le1 rfl, trivial⟩ trivial
    · have hn' : n = h.Lines.length := by have := of_decide_eq_false ht; omega
      subst hn'
      rw [← hsl2]
      refine k6 ?_; refine k7 ?_; refine k7 ?_; refine k8 rfl ?_; refine k4 ?_; refine k1 ?_
      refine c_region ?_; refine l_neu (n_add rfl rfl (by omega)) rfl ?_; refine l_neu (n_move rfl rfl) rfl ?_; refine l_nil ?_
      refine k1 ?_
      exact ⟨k + 1, by omega, by omega, Sees.of ⟨le1 rfl, le1 rfl, le1 rfl, le1 rfl, trivial⟩ trivial⟩
  · have hk' : k = p.Hunks.length := by have := of_decide_eq_false ht; omega
    subst hk'
    have e : wTo p p.Hunks.length = writeOf p := by unfold wTo writeOf writePs; rw [List.take_length]
    rw [e]
    refine k6 ?_; refine k2 ?_
    refine c_region ?_; refine l_neu (n_move rfl rfl) rfl ?_; refine l_neu (n_assign rfl rfl) rfl ?_; refine l_nil ?_
    refine k1 ?_; refine k10 ?_
    exact ret_ret (ret1 rfl rfl rfl) rfl
end Go.Proofs.YtbiadkkamhpdnaaGreatDoor
namespace Go.Proofs.YtbiadkkamhpdnaaGreatDoor
open Go Go.AL
set_option maxRecDepth 100000
abbrev sideBox (e : Int) (o : Bool) : Ob := .box [.p (.v (.int .i64 e)), .p (.v (.bool o))]
theorem uplaced_met {gf : Fr} (h h' : PatchHunk) (i j : Int) (o n : Bool) (hl : (h.Lines.map szL).sum ≤ 268435456) (hi : 0 ≤ i ∧ i ≤ 8192) (hj : 0 ≤ j ∧ j ≤ 8192) (hf3 : frFree 3 gf = true) (hf8 : frFree 8 gf = true) :
    AL.Met Tryz.prog 141 [(pPhunk h).s1, .one (.ref 710 0), .one (.ref 711 0)] gf [(6, .box (pPhunk h').s1.cells), (710, sideBox i o), (711, sideBox j n)] []
      (fun rs ob' => ∃ b, rs = [.one (.p (.v (.bool b)))] ∧ b = (decide (¬ badPlace i j h) && match openGo o n h.Lines with
        | none => false
        | some _ => decide (h.Old + oldN h ≤ 4096 ∧ h.New + newN h ≤ 4096)) ∧
        (b = true → ∃ o' n', openGo o n h.Lines = some (o', n') ∧ ob' = [(6, .box (pPhunk h').s1.cells), (710, sideBox (h.Old + oldN h) o'), (711, sideBox (h.New + newN h) n')])) := by
  refine AL.Met.introH Tryz.func141 (by decide) rfl rfl rfl (fun hH => ?_)
  refine k2 ?_
  refine c_region ?_; refine l_effv (f_box 3 rfl rfl (show ((frFree 3 gf && true) && true) = true by rw [hf3]; rfl)) rfl ?_; refine l_neu (n_assign rfl rfl) rfl ?_; refine l_nil ?_
  refine k1 ?_; refine k2 ?_; refine k2 ?_
  refine c_region_draw (by kernel_rfl) (by kernel_rfl) ?_; refine d_neu (n_field_ref rfl) rfl rfl ?_; refine d_neu (n_load_ref rfl rfl rfl) rfl rfl ?_; refine d_neu (n_lss rfl rfl) rfl rfl ?_; refine d_neu (n_move rfl rfl) rfl rfl ?_; refine d_guard rfl rfl (fun hg => by rw [hg]; exact n_field_ref rfl) rfl rfl ?_; refine d_guard rfl rfl (fun hg => by rw [hg]; exact n_load_ref rfl rfl rfl) rfl rfl ?_; refine d_guard rfl rfl (fun hg => by rw [hg]; exact n_lss rfl rfl) rfl rfl ?_; refine d_neu (n_pick_bool rfl (fun h => by first | rfl | (rw [h]; rfl)) (fun h => by first | rfl | (rw [h]; rfl))) rfl rfl ?_; refine d_neu (n_move rfl rfl) rfl rfl ?_; refine d_guard rfl rfl (fun hg => by rw [hg]; exact n_field_ref rfl) rfl rfl ?_; refine d_guard rfl rfl (fun hg => by rw [hg]; exact n_load_ref rfl rfl rfl) rfl rfl ?_; refine d_guard rfl rfl (fun hg => by rw [hg]; exact n_gtr rfl rfl) rfl rfl ?_; refine d_neu (n_pick_bool rfl (fun h => by first | rfl | (rw [h]; rfl)) (fun h => by first | rfl | (rw [h]; rfl))) rfl rfl ?_; refine d_neu (n_move rfl rfl) rfl rfl ?_; refine d_guard rfl rfl (fun hg => by rw [hg]; exact n_field_ref rfl) rfl rfl ?_; refine d_guard rfl rfl (fun hg => by rw [hg]; exact n_load_ref rfl rfl rfl) rfl rfl ?_; refine d_guard rfl rfl (fun hg => by rw [hg]; exact n_gtr rfl rfl) rfl rfl ?_; refine d_neu (n_pick_bool rfl (fun h => by first | rfl | (rw [h]; rfl)) (fun h => by first | rfl | (rw [h]; rfl))) rfl rfl ?_; refine d_neu (n_move rfl rfl) rfl rfl ?_; refine d_guard rfl rfl (fun hg => by rw [hg]; exact n_field_ref rfl) rfl rfl ?_; refine d_guard rfl rfl (fun hg => by rw [hg]; exact n_load_ref rfl rfl rfl) rfl rfl ?_; refine d_guard rfl rfl (fun hg => by rw [hg]; exact n_move rfl rfl) rfl rfl ?_; refine d_guard rfl rfl (fun hg => by rw [hg]; exact n_nilCheck_ref rfl) rfl rfl ?_; refine d_guard rfl rfl (fun hg => by rw [hg]; exact n_field_ref rfl) rfl rfl ?_; refine d_guard rfl rfl (fun hg => by rw [hg]; exact n_load_ref rfl rfl rfl) rfl rfl ?_; refine d_guard rfl rfl (fun hg => by rw [hg]; exact n_lss rfl rfl) rfl rfl ?_; refine d_neu (n_pick_bool rfl (fun h => by first | rfl | (rw [h]; rfl)) (fun h => by first | rfl | (rw [h]; rfl))) rfl rfl ?_; refine d_neu (n_move rfl rfl) rfl rfl ?_; refine d_guard rfl rfl (fun hg => by rw [hg]; exact n_field_ref rfl) rfl rfl ?_; refine d_guard rfl rfl (fun hg => by rw [hg]; exact n_load_ref rfl rfl rfl) rfl rfl ?_; refine d_guard rfl rfl (fun hg => by rw [hg]; exact n_move rfl rfl) rfl rfl ?_; refine d_guard rfl rfl (fun hg => by rw [hg]; exact n_nilCheck_ref rfl) rfl rfl ?_; refine d_guard rfl rfl (fun hg => by rw [hg]; exact n_field_ref rfl) rfl rfl ?_; refine d_guard rfl rfl (fun hg => by rw [hg]; exact n_load_ref rfl rfl rfl) rfl rfl ?_; refine d_guard rfl rfl (fun hg => by have hq := hg; (try simp at hq); rw [hg]; exact n_sub rfl rfl (by omega)) rfl rfl ?_; refine d_guard rfl rfl (fun hg => by rw [hg]; exact n_field_ref rfl) rfl rfl ?_; refine d_guard rfl rfl (fun hg => by rw [hg]; exact n_load_ref rfl rfl rfl) rfl rfl ?_
  refine d_guard rfl rfl (fun hg => by rw [hg]; exact n_move rfl rfl) rfl rfl ?_; refine d_guard rfl rfl (fun hg => by rw [hg]; exact n_nilCheck_ref rfl) rfl rfl ?_; refine d_guard rfl rfl (fun hg => by rw [hg]; exact n_field_ref rfl) rfl rfl ?_; refine d_guard rfl rfl (fun hg => by rw [hg]; exact n_load_ref rfl rfl rfl) rfl rfl ?_; refine d_guard rfl rfl (fun hg => by have hq := hg; (try simp at hq); rw [hg]; exact n_sub rfl rfl (by omega)) rfl rfl ?_; refine d_guard rfl rfl (fun hg => by rw [hg]; exact n_neq rfl rfl) rfl rfl ?_; refine d_neu (n_pick_bool rfl (fun h => by first | rfl | (rw [h]; rfl)) (fun h => by first | rfl | (rw [h]; rfl))) rfl rfl ?_; refine d_nil ?_
  refine k1 ?_
  refine c_cond rfl (fun ht => ?_) (fun ht => ?_)
  · simp only [or_pick] at ht
    have hb : badPlace i j h := of_decide_eq_true ht
    refine k2 ?_
    refine c_region ?_; refine l_neu (n_assign rfl rfl) rfl ?_; refine l_nil ?_
    refine k1 ?_; refine k10 ?_; refine k11 ?_
    refine met_ret (rets1 rfl rfl) (by repeat (first | exact tail_refl | refine tail_cons rfl ?_ | refine tail_forget _ ?_)) (fun _ _ h => h) ⟨false, rfl, by rw [decide_eq_false (fun hh => hh hb)]; rfl, fun hh => by cases hh⟩
  · simp only [or_pick] at ht
    have hb : ¬ badPlace i j h := of_decide_eq_false ht
    have hln := szL_len h.Lines
    refine k5 ?_; refine k1 ?_; refine k2 ?_; refine k2 ?_
    refine c_region ?_; refine l_neu (n_field_ref rfl) rfl ?_; refine l_neu (n_load_ref rfl rfl rfl) rfl ?_; refine l_neu (n_len rfl (.pure _ _ _ _)) rfl ?_; refine l_neu (n_move rfl rfl) rfl ?_; refine l_nil ?_
    refine k1 ?_; refine k3 ?_
    refine c_while (X := Nat × Bool × Bool) (fun z => ([(1, .s (.one (.ref 710 0))), (2, .s (.one (.ref 711 0))), (3, .s (.one (.ref 3 0))), (56, sList PatchLine 2 plineC h.Lines), (57, sInt h.Lines.length), (58, sInt z.1)] ++ gf, [(3, .box (pPhunk h).s1.cells), (6, .box (pPhunk h').s1.cells), (710, sideBox i z.2.1), (711, sideBox j z.2.2)])) (fun z => z.1 ≤ h.Lines.length ∧ openGo o n h.Lines = openGo z.2.1 z.2.2 (h.Lines.drop z.1)) (fun z => h.Lines.length - z.1) (0, o, n) ⟨Nat.zero_le _, rfl⟩ ?_ ?_
    · exact Sees.tailed ⟨le1 rfl, le1 rfl, le1 rfl, le1 rfl, le1 rfl, le1 rfl, trivial⟩ hH (by repeat (first | exact tail_refl | refine tail_cons rfl ?_)) (fun _ _ hh => hh)
    rintro ⟨k, ok, nk⟩ ⟨hk, hp⟩
    dsimp only at hk hp ⊢
    refine k2 ?_
    refine c_region ?_; refine l_neu (n_lss rfl rfl) rfl ?_; refine l_nil ?_
    refine k1 ?_; refine k2 ?_
    refine c_cond rfl (fun ht => ?_) (fun ht => ?_)
    · have hlt : k < h.Lines.length := by have := of_decide_eq_true ht; omega
      have hv : h.Lines[k]? = some h.Lines[k] := by simp [hlt]
      have hmem2 := szL_mem (List.getElem_mem hlt)
      rw [List.drop_eq_getElem_cons hlt, openGo] at hp
      obtain ⟨x, hx⟩ : ∃ x, x = h.Lines[k] := ⟨_, rfl⟩
      rw [← hx] at hv hmem2 hp
      refine k5 ?_; refine k1 ?_; refine k2 ?_; refine k3 ?_; refine k2 ?_
      refine c_region ?_; refine l_neu (n_indexAddr rfl (.pure _ _ _ _) rfl (by omega) hv) rfl ?_; refine l_neu (n_loads_eref rfl rfl) rfl ?_; refine l_effv (f_alloc 8 (show ((frFree 8 gf && true) = true) by rw [hf8]; rfl)) rfl ?_; refine l_eff (e_store_ref TySz.out rfl rfl rfl rfl rfl rfl) ?_; refine l_nil ?_
      refine k1 ?_; refine k2 ?_
      refine c_cut ([(1, .s (.one (.ref 710 0))), (2, .s (.one (.ref 711 0))), (3, .s (.one (.ref 3 0))), (8, .s (.one (.ref 8 0))), (56, sList PatchLine 2 plineC h.Lines), (57, sInt h.Lines.length), (58, sInt k)] ++ gf) [(8, .box [.p (.v (.int .u8 x.Kind.toNat)), .p (.v (.string ⟨x.Text.toArray⟩))]), (3, .box (pPhunk h).s1.cells), (6, .box (pPhunk h').s1.cells), (710, sideBox i ok), (711, sideBox j nk)] (Sees.tailed ⟨le1 rfl, le1 rfl, le1 rfl, le1 rfl, le1 rfl, le1 rfl, le1 rfl, trivial⟩ hH (by repeat (first | exact tail_refl | refine tail_cons rfl ?_ | refine tail_forget' _ ?_)) (ObIn.spec ⟨rfl, rfl, rfl, rfl, rfl, trivial⟩)) ?_
      have hneg : ∀ {b : Bool}, b = (decide (¬ badPlace i j h) && match openGo o n h.Lines with
        | none => false
        | some _ => decide (h.Old + oldN h ≤ 4096 ∧ h.New + newN h ≤ 4096)) → openGo o n h.Lines = none → b = false := fun h1 h2 => by rw [h1, h2]; simp
      by_cases c1 : x.Kind ≠ 43
      · have c1n : (x.Kind.toNat : Int) ≠ 43 := (decide_eq_decide.1 (kind_ne x.Kind 43)).2 c1
        cases ok with
        | true =>
          rw [if_pos ⟨c1, rfl⟩] at hp
          refine c_region ?_; refine l_neu (n_field_ref rfl) rfl ?_; refine l_neu (n_load_ref rfl rfl rfl) rfl ?_; refine l_neu (n_neq rfl rfl) rfl ?_; refine l_neu (n_move rfl rfl) rfl ?_; refine l_run rfl rfl rfl (by simp [c1n]) ?_; refine l_neu (n_move rfl rfl) rfl ?_; refine l_run rfl rfl rfl (by simp [c1n]) ?_; refine l_neu (n_field_ref rfl) rfl ?_; refine l_run rfl rfl rfl (by simp [c1n]) ?_; refine l_neu (n_load_ref rfl rfl rfl) rfl ?_; refine l_run rfl rfl rfl (by simp [c1n]) ?_; refine l_met (uline_met (k := 710) (e := i) (o := true) rfl (by omega)) rfl rfl rfl ?_; rintro _ _ ⟨rfl, rfl⟩; refine l_run rfl rfl rfl (by simp [c1n]) ?_; refine l_neu (n_not rfl) rfl ?_; refine l_neu (n_pick_bool rfl (fun h => by first | rfl | (rw [h]; rfl)) (fun h => by first | rfl | (rw [h]; rfl))) rfl ?_; refine l_neu (n_move rfl rfl) rfl ?_; refine l_skip rfl rfl rfl (by simp [c1n]) rfl ?_; refine l_skip rfl rfl rfl (by simp [c1n]) rfl ?_; refine l_skip rfl rfl rfl (by simp [c1n]) rfl ?_; refine l_skip rfl rfl rfl (by simp [c1n]) rfl ?_; refine l_guardW (s := .any) rfl rfl rfl .un rfl (fun h => absurd h (by decide)) ?_; refine l_guardW (s := .any) rfl rfl rfl .un rfl (fun h => absurd h (by decide)) ?_; refine l_guardW (s := .any) rfl rfl rfl .un rfl (fun h => absurd h (by decide)) ?_; refine l_guardW (s := .any) rfl rfl rfl .un rfl (fun h => absurd h (by decide)) ?_; refine l_guardW (s := .any) rfl rfl rfl .un rfl (fun h => absurd h (by decide)) ?_; refine l_skip rfl rfl rfl (by simp [c1n]) rfl ?_; refine l_neu (n_pick_t rfl ((by simp [c1n])) rfl) rfl ?_; refine l_nil ?_
          refine k1 ?_
          refine c_cond rfl (fun ht => ?_) (fun ht => ?_)
          · refine k2 ?_
            refine c_region ?_; refine l_neu (n_assign rfl rfl) rfl ?_; refine l_nil ?_
            refine k1 ?_; refine k10 ?_; refine k12 ?_; refine k11 ?_; refine k11 ?_; refine k12 ?_; refine k11 ?_
            refine met_ret (rets1 rfl rfl) (by repeat (first | exact tail_refl | refine tail_cons rfl ?_ | refine tail_forget _ ?_)) (fun _ _ h => h) ⟨false, rfl, by rw [hp]; simp, fun hh => by cases hh⟩
          · cases ht
        | false =>
          rw [if_neg (by simp)] at hp
          by_cases c2 : x.Kind ≠ 45
          · have c2n : (x.Kind.toNat : Int) ≠ 45 := (decide_eq_decide.1 (kind_ne x.Kind 45)).2 c2
            refine c_region ?_; refine l_neu (n_field_ref rfl) rfl ?_; refine l_neu (n_load_ref rfl rfl rfl) rfl ?_; refine l_neu (n_neq rfl rfl) rfl ?_; refine l_neu (n_move rfl rfl) rfl ?_; refine l_run rfl rfl rfl (by simp [c1n]) ?_; refine l_neu (n_move rfl rfl) rfl ?_; refine l_run rfl rfl rfl (by simp [c1n]) ?_; refine l_neu (n_field_ref rfl) rfl ?_; refine l_run rfl rfl rfl (by simp [c1n]) ?_; refine l_neu (n_load_ref rfl rfl rfl) rfl ?_; refine l_run rfl rfl rfl (by simp [c1n]) ?_; refine l_met (uline_met (k := 710) (e := i) (o := false) rfl (by omega)) rfl rfl rfl ?_; rintro _ _ ⟨rfl, rfl⟩; refine l_run rfl rfl rfl (by simp [c1n]) ?_; refine l_neu (n_not rfl) rfl ?_; refine l_neu (n_pick_bool rfl (fun h => by first | rfl | (rw [h]; rfl)) (fun h => by first | rfl | (rw [h]; rfl))) rfl ?_; refine l_neu (n_move rfl rfl) rfl ?_; refine l_run rfl rfl rfl (by simp [c1n]) ?_; refine l_neu (n_field_ref rfl) rfl ?_; refine l_run rfl rfl rfl (by simp [c1n]) ?_; refine l_neu (n_load_ref rfl rfl rfl) rfl ?_; refine l_run rfl rfl rfl (by simp [c1n]) ?_; refine l_neu (n_neq rfl rfl) rfl ?_; refine l_run rfl rfl rfl (by simp [c1n]) ?_; refine l_neu (n_move rfl rfl) rfl ?_; refine l_run rfl rfl rfl (by simp [c1n, c2n]) ?_; refine l_neu (n_move rfl rfl) rfl ?_; refine l_run rfl rfl rfl (by simp [c1n, c2n]) ?_; refine l_neu (n_field_ref rfl) rfl ?_; refine l_run rfl rfl rfl (by simp [c1n, c2n]) ?_; refine l_neu (n_load_ref rfl rfl rfl) rfl ?_; refine l_run rfl rfl rfl (by simp [c1n, c2n]) ?_; refine l_met (uline_met (k := 711) (e := j) (o := nk) rfl (by omega)) rfl rfl rfl ?_; rintro _ _ ⟨rfl, rfl⟩; refine l_run rfl rfl rfl (by simp [c1n, c2n]) ?_; refine l_neu (n_not rfl) rfl ?_; refine l_run rfl rfl rfl (by simp [c1n]) ?_; refine l_neu (n_pick_bool rfl (fun h => by first | rfl | (rw [h]; rfl)) (fun h => by first | rfl | (rw [h]; rfl))) rfl ?_; refine l_neu (n_pick_bool rfl (fun h => by first | rfl | (rw [h]; rfl)) (fun h => by first | rfl | (rw [h]; rfl))) rfl ?_; refine l_nil ?_
            refine k1 ?_
            refine c_cond rfl (fun ht => ?_) (fun ht => ?_)
            · have hnk : nk = true := by revert ht; simp [c1n, c2n]
              rw [if_pos ⟨c2, hnk⟩] at hp
              refine k2 ?_
              refine c_region ?_; refine l_neu (n_assign rfl rfl) rfl ?_; refine l_nil ?_
              refine k1 ?_; refine k10 ?_; refine k12 ?_; refine k11 ?_; refine k11 ?_; refine k12 ?_; refine k11 ?_
              refine met_ret (rets1 rfl rfl) (by repeat (first | exact tail_refl | refine tail_cons rfl ?_ | refine tail_forget _ ?_)) (fun _ _ h => h) ⟨false, rfl, by rw [hp]; simp, fun hh => by cases hh⟩
            · have hnk : nk = false := by revert ht; simp [c1n, c2n]
              rw [if_neg (by simp [hnk]), if_pos c1, if_pos c2] at hp
              refine k5 ?_; refine k4 ?_; refine k1 ?_
              refine c_region ?_; refine l_neu (n_add rfl rfl (by omega)) rfl ?_; refine l_neu (n_move rfl rfl) rfl ?_; refine l_nil ?_
              refine k1 ?_
              exact ⟨(k + 1, !ended x.Text, !ended x.Text), ⟨by dsimp only; omega, hp⟩, by dsimp only; omega, Sees.tailed ⟨le1 rfl, le1 rfl, le1 rfl, le1 rfl, le1 rfl, le1 rfl, trivial⟩ hH (by repeat (first | exact tail_refl | refine tail_cons rfl ?_ | refine tail_forget' _ ?_)) (ObIn.spec ⟨rfl, rfl, rfl, rfl, trivial⟩)⟩
          · have c2n : (x.Kind.toNat : Int) = 45 := Decidable.not_not.1 (fun hh => c2 ((decide_eq_decide.1 (kind_ne x.Kind 45)).1 hh))
            refine c_region ?_; refine l_neu (n_field_ref rfl) rfl ?_; refine l_neu (n_load_ref rfl rfl rfl) rfl ?_; refine l_neu (n_neq rfl rfl) rfl ?_; refine l_neu (n_move rfl rfl) rfl ?_; refine l_run rfl rfl rfl (by simp [c1n]) ?_; refine l_neu (n_move rfl rfl) rfl ?_; refine l_run rfl rfl rfl (by simp [c1n]) ?_; refine l_neu (n_field_ref rfl) rfl ?_; refine l_run rfl rfl rfl (by simp [c1n]) ?_; refine l_neu (n_load_ref rfl rfl rfl) rfl ?_; refine l_run rfl rfl rfl (by simp [c1n]) ?_; refine l_met (uline_met (k := 710) (e := i) (o := false) rfl (by omega)) rfl rfl rfl ?_; rintro _ _ ⟨rfl, rfl⟩; refine l_run rfl rfl rfl (by simp [c1n]) ?_; refine l_neu (n_not rfl) rfl ?_; refine l_neu (n_pick_bool rfl (fun h => by first | rfl | (rw [h]; rfl)) (fun h => by first | rfl | (rw [h]; rfl))) rfl ?_; refine l_neu (n_move rfl rfl) rfl ?_; refine l_run rfl rfl rfl (by simp [c1n]) ?_; refine l_neu (n_field_ref rfl) rfl ?_; refine l_run rfl rfl rfl (by simp [c1n]) ?_; refine l_neu (n_load_ref rfl rfl rfl) rfl ?_; refine l_run rfl rfl rfl (by simp [c1n]) ?_; refine l_neu (n_neq rfl rfl) rfl ?_; refine l_run rfl rfl rfl (by simp [c1n]) ?_; refine l_neu (n_move rfl rfl) rfl ?_; refine l_skip rfl rfl rfl (by simp [c1n, c2n]) rfl ?_; refine l_skip rfl rfl rfl (by simp [c1n, c2n]) rfl ?_; refine l_skip rfl rfl rfl (by simp [c1n, c2n]) rfl ?_; refine l_skip rfl rfl rfl (by simp [c1n, c2n]) rfl ?_; refine l_skip rfl rfl rfl (by simp [c1n, c2n]) rfl ?_; refine l_run rfl rfl rfl (by simp [c1n]) ?_; refine l_neu (n_pick_f rfl ((by simp [c1n, c2n])) rfl) rfl ?_; refine l_neu (n_pick_bool rfl (fun h => by first | rfl | (rw [h]; rfl)) (fun h => by first | rfl | (rw [h]; rfl))) rfl ?_; refine l_nil ?_
            refine k1 ?_
            refine c_cond rfl (fun ht => ?_) (fun ht => ?_)
            · exfalso; revert ht; simp [c1n, c2n]
            · rw [if_neg (by simp [c2]), if_pos c1, if_neg c2] at hp
              refine k5 ?_; refine k4 ?_; refine k1 ?_
              refine c_region ?_; refine l_neu (n_add rfl rfl (by omega)) rfl ?_; refine l_neu (n_move rfl rfl) rfl ?_; refine l_nil ?_
              refine k1 ?_
              exact ⟨(k + 1, !ended x.Text, nk), ⟨by dsimp only; omega, hp⟩, by dsimp only; omega, Sees.tailed ⟨le1 rfl, le1 rfl, le1 rfl, le1 rfl, le1 rfl, le1 rfl, trivial⟩ hH (by repeat (first | exact tail_refl | refine tail_cons rfl ?_ | refine tail_forget' _ ?_)) (ObIn.spec ⟨rfl, rfl, rfl, rfl, trivial⟩)⟩
      · have c2 : x.Kind ≠ 45 := by rw [Decidable.not_not.1 c1]; decide
        have c1n : (x.Kind.toNat : Int) = 43 := Decidable.not_not.1 (fun hh => c1 ((decide_eq_decide.1 (kind_ne x.Kind 43)).1 hh))
        have c2n : (x.Kind.toNat : Int) ≠ 45 := (decide_eq_decide.1 (kind_ne x.Kind 45)).2 c2
        rw [if_neg (by simp [c1])] at hp
        refine c_region ?_; refine l_neu (n_field_ref rfl) rfl ?_; refine l_neu (n_load_ref rfl rfl rfl) rfl ?_; refine l_neu (n_neq rfl rfl) rfl ?_; refine l_neu (n_move rfl rfl) rfl ?_; refine l_skip rfl rfl rfl (by simp [c1n]) rfl ?_; refine l_skip rfl rfl rfl (by simp [c1n]) rfl ?_; refine l_skip rfl rfl rfl (by simp [c1n]) rfl ?_; refine l_skip rfl rfl rfl (by simp [c1n]) rfl ?_; refine l_skip rfl rfl rfl (by simp [c1n]) rfl ?_; refine l_neu (n_pick_f rfl ((by simp [c1n])) rfl) rfl ?_; refine l_neu (n_move rfl rfl) rfl ?_; refine l_run rfl rfl rfl (by simp [c1n]) ?_; refine l_neu (n_field_ref rfl) rfl ?_; refine l_run rfl rfl rfl (by simp [c1n]) ?_; refine l_neu (n_load_ref rfl rfl rfl) rfl ?_; refine l_run rfl rfl rfl (by simp [c1n]) ?_; refine l_neu (n_neq rfl rfl) rfl ?_; refine l_run rfl rfl rfl (by simp [c1n]) ?_; refine l_neu (n_move rfl rfl) rfl ?_; refine l_run rfl rfl rfl (by simp [c1n, c2n]) ?_; refine l_neu (n_move rfl rfl) rfl ?_; refine l_run rfl rfl rfl (by simp [c1n, c2n]) ?_; refine l_neu (n_field_ref rfl) rfl ?_; refine l_run rfl rfl rfl (by simp [c1n, c2n]) ?_; refine l_neu (n_load_ref rfl rfl rfl) rfl ?_; refine l_run rfl rfl rfl (by simp [c1n, c2n]) ?_; refine l_met (uline_met (k := 711) (e := j) (o := nk) rfl (by omega)) rfl rfl rfl ?_; rintro _ _ ⟨rfl, rfl⟩; refine l_run rfl rfl rfl (by simp [c1n, c2n]) ?_; refine l_neu (n_not rfl) rfl ?_; refine l_run rfl rfl rfl (by simp [c1n]) ?_; refine l_neu (n_pick_bool rfl (fun h => by first | rfl | (rw [h]; rfl)) (fun h => by first | rfl | (rw [h]; rfl))) rfl ?_; refine l_neu (n_pick_bool rfl (fun h => by first | rfl | (rw [h]; rfl)) (fun h => by first | rfl | (rw [h]; rfl))) rfl ?_; refine l_nil ?_
        refine k1 ?_
        refine c_cond rfl (fun ht => ?_) (fun ht => ?_)
        · have hnk : nk = true := by revert ht; simp [c1n, c2n]
          rw [if_pos ⟨c2, hnk⟩] at hp
          refine k2 ?_
          refine c_region ?_; refine l_neu (n_assign rfl rfl) rfl ?_; refine l_nil ?_
          refine k1 ?_; refine k10 ?_; refine k12 ?_; refine k11 ?_; refine k11 ?_; refine k12 ?_; refine k11 ?_
          refine met_ret (rets1 rfl rfl) (by repeat (first | exact tail_refl | refine tail_cons rfl ?_ | refine tail_forget _ ?_)) (fun _ _ h => h) ⟨false, rfl, by rw [hp]; simp, fun hh => by cases hh⟩
        · have hnk : nk = false := by revert ht; simp [c1n, c2n]
          rw [if_neg (by simp [hnk]), if_neg c1, if_pos c2] at hp
          refine k5 ?_; refine k4 ?_; refine k1 ?_
          refine c_region ?_; refine l_neu (n_add rfl rfl (by omega)) rfl ?_; refine l_neu (n_move rfl rfl) rfl ?_; refine l_nil ?_
          refine k1 ?_
          exact ⟨(k + 1, ok, !ended x.Text), ⟨by dsimp only; omega, hp⟩, by dsimp only; omega, Sees.tailed ⟨le1 rfl, le1 rfl, le1 rfl, le1 rfl, le1 rfl, le1 rfl, trivial⟩ hH (by repeat (first | exact tail_refl | refine tail_cons rfl ?_ | refine tail_forget' _ ?_)) (ObIn.spec ⟨rfl, rfl, rfl, rfl, trivial⟩)⟩
    · have hk' : k = h.Lines.length := by have := of_decide_eq_false ht; omega
      subst hk'
      rw [List.drop_eq_nil_of_le (Nat.le_refl _), openGo] at hp
      have hbb : (0 ≤ h.Old ∧ h.Old ≤ 4096) ∧ (0 ≤ h.New ∧ h.New ≤ 4096) := by unfold badPlace at hb; simp only [not_or] at hb; omega
      have hon := linesNot_len h.Lines 43
      have hnn := linesNot_len h.Lines 45
      have hon2 : oldN h ≤ h.Lines.length ∧ 0 ≤ oldN h := by unfold oldN; omega
      have hnn2 : newN h ≤ h.Lines.length ∧ 0 ≤ newN h := by unfold newN; omega
      refine k6 ?_; refine k2 ?_
      refine c_region ?_; refine l_neu (n_loads_ref rfl rfl rfl) rfl ?_; refine l_call (usizes_ok h (by omega)) rfl rfl rfl ?_; rintro _ rfl; refine l_neu (n_move rfl rfl) rfl ?_; refine l_neu (n_extract rfl rfl) rfl ?_; refine l_neu (n_extract rfl rfl) rfl ?_; refine l_neu (n_assign rfl rfl) rfl ?_; refine l_neu (n_assign rfl rfl) rfl ?_; refine l_nil ?_
      refine k1 ?_; refine k2 ?_
      have hbx : decide (¬ badPlace i j h) = true := decide_eq_true hb
      refine c_region_store 12 [(101, .s (.one (.ref 710 0))), (95, sInt (h.Old + oldN h))] (by kernel_rfl) (by kernel_rfl) rfl (u_store_ref TySz.out rfl rfl rfl rfl rfl rfl) rfl rfl ?_; refine s_neu (n_move rfl rfl) rfl (n_move rfl rfl) ?_; refine s_neu (n_move rfl rfl) rfl (n_move rfl rfl) ?_; refine s_neu (n_field_ref rfl) rfl (n_field_ref rfl) ?_; refine s_neu (n_load_ref rfl rfl rfl) rfl (n_load_ref rfl rfl rfl) ?_; refine s_neu (n_move rfl rfl) rfl (n_move rfl rfl) ?_; refine s_neu (n_add rfl rfl (by omega)) rfl (n_add rfl rfl (by omega)) ?_; refine s_neu (n_field_ref rfl) rfl (n_field_ref rfl) ?_; refine s_neu (n_load_ref rfl rfl rfl) rfl (n_load_ref rfl rfl rfl) ?_; refine s_neu (n_move rfl rfl) rfl (n_move rfl rfl) ?_; refine s_neu (n_add rfl rfl (by omega)) rfl (n_add rfl rfl (by omega)) ?_; refine s_neu (n_nilCheck_ref rfl) rfl (n_nilCheck_ref rfl) ?_; refine s_neu (n_field_ref rfl) rfl (n_field_ref rfl) ?_; refine s_nil ⟨rfl, rfl, trivial⟩ ?_; refine d_neu (n_nilCheck_ref rfl) rfl rfl ?_; refine d_neu (n_field_ref rfl) rfl rfl ?_; refine d_eff (e_store_ref TySz.out rfl rfl rfl rfl rfl rfl) rfl ?_; refine d_nil ?_
      refine k1 ?_; refine k2 ?_
      refine c_region ?_; refine l_neu (n_move rfl rfl) rfl ?_; refine l_neu (n_nilCheck_ref rfl) rfl ?_; refine l_neu (n_field_ref rfl) rfl ?_; refine l_neu (n_load_ref rfl rfl rfl) rfl ?_; refine l_neu (n_leq rfl rfl) rfl ?_; refine l_neu (n_move rfl rfl) rfl ?_; refine l_guard rfl rfl rfl rfl (fun hg => by rw [hg]; exact n_move rfl rfl) ?_; refine l_guard rfl rfl rfl rfl (fun hg => by rw [hg]; exact n_nilCheck_ref rfl) ?_; refine l_guard rfl rfl rfl rfl (fun hg => by rw [hg]; exact n_field_ref rfl) ?_; refine l_guard rfl rfl rfl rfl (fun hg => by rw [hg]; exact n_load_ref rfl rfl rfl) ?_; refine l_guard rfl rfl rfl rfl (fun hg => by rw [hg]; exact n_leq rfl rfl) ?_; refine l_neu (n_pick_bool rfl (fun h => by first | rfl | (rw [h]; rfl)) (fun h => by first | rfl | (rw [h]; rfl))) rfl ?_; refine l_neu (n_assign rfl rfl) rfl ?_; refine l_nil ?_
      refine k1 ?_; refine k10 ?_
      refine met_ret (ob' := [(6, .box (pPhunk h').s1.cells), (710, sideBox (h.Old + oldN h) ok), (711, sideBox (h.New + newN h) nk)]) (rets1 rfl rfl) (by repeat (first | exact tail_refl | refine tail_cons rfl ?_ | refine tail_forget _ ?_)) (ObIn.spec ⟨rfl, rfl, rfl, trivial⟩) ⟨_, rfl, ?_, fun hh => ⟨ok, nk, hp, rfl⟩⟩
      rw [hp, hbx]
      simp only [and_pick, Bool.true_and]
end Go.Proofs.YtbiadkkamhpdnaaGreatDoor
namespace Go.Proofs.YtbiadkkamhpdnaaGreatDoor
open Go Go.AL
set_option maxRecDepth 100000
theorem uwell_ok (hs : List PatchHunk) (hsz : szP hs ≤ 268435456) : FnOk Tryz.prog 80 [pPhunks hs] (fun rs => rs = [pBool (goodOf hs)]) := by
  have hsl := szP_len hs
  rw [← well_good]
  refine FnOk.intro Tryz.func80 (by decide) rfl rfl rfl rfl ?_
  refine k2 ?_
  refine c_region ?_; refine l_neu (n_assign rfl rfl) rfl ?_; refine l_nil ?_
  refine k1 ?_; refine k2 ?_
  refine c_region ?_; refine l_effv (f_alloc 710 rfl) rfl ?_; refine l_effv (f_alloc 711 rfl) rfl ?_; refine l_nil ?_
  refine k1 ?_; refine k2 ?_; refine k2 ?_
  refine c_region ?_; refine l_neu (n_move rfl rfl) rfl ?_; refine l_neu (n_len rfl (.pure _ _ _ _)) rfl ?_; refine l_neu (n_move rfl rfl) rfl ?_; refine l_nil ?_
  refine k1 ?_; refine k3 ?_
  refine c_while (X := Nat × (Int × Int) × Bool × Bool) (fun z => ([(3, .s (.one (.ref 710 0))), (4, .s (.one (.ref 711 0))), (7, sList PatchHunk 3 phunkC hs), (8, sInt hs.length), (9, sInt z.1)], [(710, sideBox z.2.1.1 z.2.2.1), (711, sideBox z.2.1.2 z.2.2.2)])) (fun z => z.1 ≤ hs.length ∧ ((0 ≤ z.2.1.1 ∧ z.2.1.1 ≤ 8192) ∧ (0 ≤ z.2.1.2 ∧ z.2.1.2 ≤ 8192)) ∧ wellGo 0 0 false false hs = wellGo z.2.1.1 z.2.1.2 z.2.2.1 z.2.2.2 (hs.drop z.1)) (fun z => hs.length - z.1) (0, (0, 0), false, false) ⟨Nat.zero_le _, by decide, rfl⟩ (Sees.of ⟨le1 rfl, le1 rfl, le1 rfl, le1 rfl, le1 rfl, trivial⟩ ⟨rfl, rfl, trivial⟩) ?_
  rintro ⟨k, ⟨i, j⟩, o, n⟩ ⟨hk, ⟨hi, hj⟩, hp⟩
  dsimp only at hk hi hj hp ⊢
  refine k2 ?_
  refine c_region ?_; refine l_neu (n_lss rfl rfl) rfl ?_; refine l_nil ?_
  refine k1 ?_; refine k2 ?_
  refine c_cond rfl (fun ht => ?_) (fun ht => ?_)
  · have hlt : k < hs.length := by have := of_decide_eq_true ht; omega
    have hv : hs[k]? = some hs[k] := by simp [hlt]
    have hmem : hs[k] ∈ hs := List.getElem_mem hlt
    rw [List.drop_eq_getElem_cons hlt, wellGo] at hp
    obtain ⟨h, hx⟩ : ∃ x, x = hs[k] := ⟨_, rfl⟩
    rw [← hx] at hv hmem hp
    have h1 := szP_mem hmem
    have h3 := szL_len h.Lines
    unfold szH at h1
    refine k5 ?_; refine k1 ?_; refine k2 ?_; refine k3 ?_; refine k2 ?_
    refine c_region ?_; refine l_neu (n_indexAddr rfl (.pure _ _ _ _) rfl (by omega) hv) rfl ?_; refine l_neu (n_loads_eref rfl rfl) rfl ?_; refine l_effv (f_alloc 6 rfl) rfl ?_; refine l_eff (e_store_ref TySz.out rfl rfl rfl rfl rfl rfl) ?_; refine l_nil ?_
    refine k1 ?_; refine k2 ?_
    refine c_cut [(3, .s (.one (.ref 710 0))), (4, .s (.one (.ref 711 0))), (6, .s (.one (.ref 6 0))), (7, sList PatchHunk 3 phunkC hs), (8, sInt hs.length), (9, sInt k)] [(6, .box (pPhunk h).s1.cells), (710, sideBox i o), (711, sideBox j n)] (Sees.of ⟨le1 rfl, le1 rfl, le1 rfl, le1 rfl, le1 rfl, le1 rfl, trivial⟩ ⟨rfl, rfl, rfl, trivial⟩) ?_
    cases hpr : (h.Lines.all goodLn && someCh h.Lines) with
    | false =>
      rw [hpr] at hp
      refine c_region ?_; refine l_neu (n_loads_ref rfl rfl rfl) rfl ?_; refine l_call (uproper_ok h (by omega)) rfl rfl rfl ?_; rintro _ rfl; refine l_neu (n_not rfl) rfl ?_; refine l_neu (n_move rfl rfl) rfl ?_; refine l_skip rfl rfl rfl (by rw [hpr]; decide) rfl ?_; refine l_skip rfl rfl rfl (by rw [hpr]; decide) rfl ?_; refine l_skip rfl rfl rfl (by rw [hpr]; decide) rfl ?_; refine l_neu (n_pick_t rfl ((by rw [hpr]; rfl)) rfl) rfl ?_; refine l_nil ?_
      refine k1 ?_
      refine c_cond rfl (fun ht => ?_) (fun ht => ?_)
      · refine k2 ?_
        refine c_region ?_; refine l_neu (n_assign rfl rfl) rfl ?_; refine l_nil ?_
        refine k1 ?_; refine k10 ?_; refine k12 ?_; refine k11 ?_; refine k11 ?_; refine k12 ?_; refine k11 ?_
        exact ret_ret (ret1 rfl rfl rfl) (by rw [hp]; rfl)
      · cases ht
    | true =>
      rw [hpr] at hp
      refine c_region ?_; refine l_neu (n_loads_ref rfl rfl rfl) rfl ?_; refine l_call (uproper_ok h (by omega)) rfl rfl rfl ?_; rintro _ rfl; refine l_neu (n_not rfl) rfl ?_; refine l_neu (n_move rfl rfl) rfl ?_; refine l_run rfl rfl rfl (by rw [hpr]; rfl) ?_; refine l_neu (n_loads_ref rfl rfl rfl) rfl ?_; refine l_run rfl rfl rfl (by rw [hpr]; rfl) ?_; refine l_met (uplaced_met h h i j o n (by omega) hi hj rfl rfl) rfl rfl rfl ?_; rintro _ _ ⟨b, rfl, hb, hpost⟩; refine l_run rfl rfl rfl (by rw [hpr]; rfl) ?_; refine l_neu (n_not rfl) rfl ?_; refine l_neu (n_pick_f rfl ((by rw [hpr]; rfl)) rfl) rfl ?_; refine l_nil ?_
      refine k1 ?_
      refine c_cond rfl (fun ht => ?_) (fun ht => ?_)
      · have hbf : b = false := by simpa using ht
        refine k2 ?_
        refine c_region ?_; refine l_neu (n_assign rfl rfl) rfl ?_; refine l_nil ?_
        refine k1 ?_; refine k10 ?_; refine k12 ?_; refine k11 ?_; refine k11 ?_; refine k12 ?_; refine k11 ?_
        refine ret_ret (ret1 rfl rfl rfl) ?_
        subst hbf
        rw [hp]
        cases hbp : decide (¬ badPlace i j h) with
        | false => rfl
        | true =>
          rw [hbp] at hb
          cases hop : openGo o n h.Lines with
          | none => rfl
          | some q =>
            rw [hop] at hb
            obtain ⟨q1, q2⟩ := q
            have hb2 : decide (h.Old + oldN h ≤ 4096 ∧ h.New + newN h ≤ 4096) = false := hb.symm
            show [pBool false] = [pBool (decide (h.Old + oldN h ≤ 4096 ∧ h.New + newN h ≤ 4096) && wellGo (h.Old + oldN h) (h.New + newN h) q1 q2 (List.drop (k + 1) hs))]
            rw [hb2]; rfl
      · have hbt : b = true := by simpa using ht
        obtain ⟨o', n', e1, rfl⟩ := hpost hbt
        rw [hbt, e1] at hb
        have hb2 := (Bool.and_eq_true _ _ ▸ hb.symm : _ ∧ _)
        have hb1 := of_decide_eq_true hb2.1
        have hb3 := of_decide_eq_true hb2.2
        rw [e1, hb2.1] at hp
        simp only [Bool.true_and] at hp
        rw [decide_eq_true hb3, Bool.true_and] at hp
        have hbb : (0 ≤ h.Old ∧ h.Old ≤ 4096) ∧ (0 ≤ h.New ∧ h.New ≤ 4096) := by unfold badPlace at hb1; simp only [not_or] at hb1; omega
        have hon2 : 0 ≤ oldN h := by unfold oldN; omega
        have hnn2 : 0 ≤ newN h := by unfold newN; omega
        refine k5 ?_; refine k4 ?_; refine k1 ?_
        refine c_region ?_; refine l_neu (n_add rfl rfl (by omega)) rfl ?_; refine l_neu (n_move rfl rfl) rfl ?_; refine l_nil ?_
        refine k1 ?_
        exact ⟨(k + 1, (h.Old + oldN h, h.New + newN h), o', n'), ⟨by dsimp only; omega, by dsimp only; omega, hp⟩, by dsimp only; omega, Sees.of ⟨le1 rfl, le1 rfl, le1 rfl, le1 rfl, le1 rfl, trivial⟩ ⟨rfl, rfl, trivial⟩⟩
  · have hk' : k = hs.length := by have := of_decide_eq_false ht; omega
    subst hk'
    rw [List.drop_eq_nil_of_le (Nat.le_refl _), wellGo] at hp
    refine k6 ?_; refine k2 ?_
    refine c_region ?_; refine l_neu (n_assign rfl rfl) rfl ?_; refine l_nil ?_
    refine k1 ?_; refine k10 ?_
    exact ret_ret (ret1 rfl rfl rfl) (by rw [hp])
end Go.Proofs.YtbiadkkamhpdnaaGreatDoor
namespace Go.Proofs.YtbiadkkamhpdnaaGreatDoor
open Go Go.AL
set_option maxRecDepth 100000
theorem ucheck_ok (p : Patch) (hp : szP p.Hunks ≤ 268435456) : FnOk Tryz.prog 33 [pPatch p] (fun rs => rs = [pInt (check12 p)]) := by
  refine FnOk.intro Tryz.func33 (by decide) rfl rfl rfl rfl ?_
  refine k2 ?_
  refine c_region ?_; refine l_effv (f_box 1 rfl rfl rfl) rfl ?_; refine l_neu (n_assign rfl rfl) rfl ?_; refine l_nil ?_
  refine k1 ?_; refine k2 ?_; refine k3 ?_; refine k2 ?_
  refine c_region ?_; refine l_neu (n_field_ref rfl) rfl ?_; refine l_neu (n_load_ref rfl rfl rfl) rfl ?_; refine l_call (unamed_ok p.OldName) rfl rfl rfl ?_; rintro _ rfl; refine l_neu (n_not rfl) rfl ?_; refine l_neu (n_move rfl rfl) rfl ?_; refine l_guard rfl rfl rfl rfl (fun hg => by rw [hg]; exact n_field_ref rfl) ?_; refine l_guard rfl rfl rfl rfl (fun hg => by rw [hg]; exact n_load_ref rfl rfl rfl) ?_; refine l_guard rfl rfl rfl rfl (fun hg => by have hq := hg; (try simp at hq); rw [hg]; exact n_call1 (unamed_ok p.NewName) rfl rfl) ?_; refine l_guard rfl rfl rfl rfl (fun hg => by rw [hg]; exact n_not rfl) ?_; refine l_neu (n_pick_bool rfl (fun h => by first | rfl | (rw [h]; rfl)) (fun h => by first | rfl | (rw [h]; rfl))) rfl ?_; refine l_neu (n_assign rfl rfl) rfl ?_; refine l_nil ?_
  refine k1 ?_
  refine c_cond rfl (fun ht => ?_) (fun ht => ?_)
  · simp only [notB, or_pick] at ht
    have h := of_decide_eq_true ht
    refine k2 ?_
    refine c_region ?_; refine l_neu (n_assign rfl rfl) rfl ?_; refine l_nil ?_
    refine k1 ?_; refine k10 ?_; refine k12 ?_; refine k11 ?_
    exact ret_ret (ret1 rfl rfl rfl) (by rw [check12, if_pos h])
  · simp only [notB, or_pick] at ht
    have h := of_decide_eq_false ht
    refine k2 ?_
    refine c_region ?_; refine l_neu (n_field_ref rfl) rfl ?_; refine l_neu (n_load_ref rfl rfl rfl) rfl ?_; refine l_call (uwell_ok p.Hunks hp) rfl rfl rfl ?_; rintro _ rfl; refine l_neu (n_not rfl) rfl ?_; refine l_neu (n_assign rfl rfl) rfl ?_; refine l_nil ?_
    refine k1 ?_
    refine c_cond rfl (fun ht => ?_) (fun ht => ?_)
    · have h2 : goodOf p.Hunks = false := by simpa using ht
      refine k2 ?_
      refine c_region ?_; refine l_neu (n_assign rfl rfl) rfl ?_; refine l_nil ?_
      refine k1 ?_; refine k10 ?_; refine k12 ?_; refine k11 ?_
      exact ret_ret (ret1 rfl rfl rfl) (by rw [check12, if_neg h, if_pos h2])
    · have h2 : goodOf p.Hunks = true := by simpa using ht
      have hr := goodOf_range h2
      have hn1 : nameOk p.OldName = true := by by_cases hh : nameOk p.OldName = true; exact hh; exact absurd (.inl (by simpa using hh)) h
      have hn2 : nameOk p.NewName = true := by by_cases hh : nameOk p.NewName = true; exact hh; exact absurd (.inr (by simpa using hh)) h
      have hn3 := of_decide_eq_true hn1
      have hn4 := of_decide_eq_true hn2
      have hpf : PFit p := ⟨by omega, by omega, hp⟩
      refine k2 ?_
      refine c_region ?_; refine l_neu (n_loads_ref rfl rfl rfl) rfl ?_; refine l_call (usize_ok p hpf (fun x hx => by have := hr x hx; omega)) rfl rfl rfl ?_; rintro _ rfl; refine l_neu (n_gtr rfl rfl) rfl ?_; refine l_neu (n_assign rfl rfl) rfl ?_; refine l_nil ?_
      refine k1 ?_
      refine c_cond rfl (fun ht => ?_) (fun ht => ?_)
      · have h3 := of_decide_eq_true ht
        refine k2 ?_
        refine c_region ?_; refine l_neu (n_assign rfl rfl) rfl ?_; refine l_nil ?_
        refine k1 ?_; refine k10 ?_; refine k12 ?_; refine k11 ?_
        exact ret_ret (ret1 rfl rfl rfl) (by rw [check12, if_neg h, if_neg (by rw [h2]; decide), if_pos (by omega)])
      · have h3 := of_decide_eq_false ht
        refine k5 ?_; refine k2 ?_
        refine c_region ?_; refine l_neu (n_assign rfl rfl) rfl ?_; refine l_nil ?_
        refine k1 ?_; refine k10 ?_
        exact ret_ret (ret1 rfl rfl rfl) (by rw [check12, if_neg h, if_neg (by rw [h2]; decide), if_neg (by omega)])
theorem check12_good {p : Patch} (h1 : ¬ check12 p ≠ 0) : goodOf p.Hunks = true := by
  by_cases hg : goodOf p.Hunks = true
  · exact hg
  · exfalso; apply h1; unfold check12; split
    · decide
    · rw [if_pos (by simpa using hg)]; decide
def prep14 (p : Patch) (blob : Str) : List Str × Int := if check12 p ≠ 0 then ([], check12 p) else splitOf blob
theorem pprepare_ok (p : Patch) (blob : Str) (hp : szP p.Hunks ≤ 268435456) (hb : blob.length ≤ 536870912) : FnOk Tryz.prog 65 [pPatch p, pStr blob] (fun rs => rs = [pStrs (prep14 p blob).1, pInt (prep14 p blob).2]) := by
  refine FnOk.intro Tryz.func65 (by decide) rfl rfl rfl rfl ?_
  refine k2 ?_
  refine c_region ?_; refine l_effv (f_box 2 rfl rfl rfl) rfl ?_; refine l_neu (n_assign rfl rfl) rfl ?_; refine l_neu (n_assign rfl rfl) rfl ?_; refine l_nil ?_
  refine k1 ?_; refine k2 ?_; refine k2 ?_
  refine c_region ?_; refine l_neu (n_loads_ref rfl rfl rfl) rfl ?_; refine l_call (ucheck_ok p hp) rfl rfl rfl ?_; rintro _ rfl; refine l_neu (n_assign rfl rfl) rfl ?_; refine l_nil ?_
  refine k1 ?_; refine k2 ?_
  refine c_region ?_; refine l_neu (n_move rfl rfl) rfl ?_; refine l_neu (n_neq rfl rfl) rfl ?_; refine l_nil ?_
  refine k1 ?_
  refine c_cond rfl (fun ht => ?_) (fun ht => ?_)
  · have h1 : check12 p ≠ 0 := of_decide_eq_true ht
    refine k2 ?_
    refine c_region ?_; refine l_neu (n_move rfl rfl) rfl ?_; refine l_neu (n_assign_nil _ 1 strC) rfl ?_; refine l_neu (n_assign rfl rfl) rfl ?_; refine l_nil ?_
    refine k1 ?_; refine k10 ?_; refine k11 ?_
    exact ret_ret (ret2 rfl rfl rfl rfl rfl) (by rw [prep14, if_pos h1])
  have h1 : ¬ check12 p ≠ 0 := of_decide_eq_false ht
  refine k5 ?_; refine k1 ?_; refine k2 ?_
  refine c_region ?_; refine l_neu (n_move rfl rfl) rfl ?_; refine l_call (tsplit_ok blob hb) rfl rfl rfl ?_; rintro _ rfl; refine l_neu (n_extract rfl rfl) rfl ?_; refine l_neu (n_extract rfl rfl) rfl ?_; refine l_neu (n_assign rfl rfl) rfl ?_; refine l_neu (n_assign rfl rfl) rfl ?_; refine l_nil ?_
  refine k1 ?_; refine k10 ?_
  exact ret_ret (ret2 rfl rfl rfl rfl rfl) (by rw [prep14, if_neg h1])
end Go.Proofs.YtbiadkkamhpdnaaGreatDoor
namespace Go.Proofs.YtbiadkkamhpdnaaGreatDoor
open Go Go.AL
set_option maxRecDepth 100000
theorem fits14_prep (p : Patch) (blob : Str) : fits14 p blob = if (prep14 p blob).2 ≠ 0 then ((0 : Int), (prep14 p blob).2) else (((fitN p.Hunks (prep14 p blob).1 : Nat) : Int), (0 : Int)) := by
  unfold fits14 prep14
  by_cases h : check12 p ≠ 0
  · simp only [if_pos h]
  · simp only [if_neg h]
theorem prep14_good {p : Patch} {blob : Str} (h : ¬ (prep14 p blob).2 ≠ 0) : goodOf p.Hunks = true ∧ (prep14 p blob).1 = linesOf blob ∧ (prep14 p blob).1.length ≤ 4096 ∧ ¬ check12 p ≠ 0 := by
  unfold prep14 at h ⊢
  by_cases h1 : check12 p ≠ 0
  · rw [if_pos h1] at h; exact absurd h1 h
  rw [if_neg h1] at h ⊢
  refine ⟨check12_good h1, ?_, splitOf_len blob, h1⟩
  unfold splitOf at h ⊢
  split
  · rename_i c3; rw [if_pos c3] at h; exact absurd (by decide) h
  · rfl
end Go.Proofs.YtbiadkkamhpdnaaGreatDoor
namespace Go.Proofs.YtbiadkkamhpdnaaGreatDoor
open Go Go.AL
set_option maxRecDepth 100000
theorem apply14_prep (p : Patch) (blob : Str) : apply14 p blob = if (prep14 p blob).2 ≠ 0 then (([] : Str), (prep14 p blob).2) else if fitN p.Hunks (prep14 p blob).1 < p.Hunks.length then ([], 140) else applyOf p.Hunks (prep14 p blob).1 := by
  unfold apply14
  rw [fits14_prep]
  by_cases h : (prep14 p blob).2 ≠ 0
  · simp only [if_pos h]
  · obtain ⟨_, h2, _⟩ := prep14_good h
    simp only [if_neg h]
    rw [h2]
    simp
theorem join_err (out : List Str) : (if listOk out = false then ([], 140) else joinOf out) = if (joinOf out).2 = 2 then (([] : Str), (140 : Int)) else joinOf out := by
  unfold joinOf
  by_cases hlo : listOk out = false
  · rw [if_pos hlo, if_pos hlo, if_pos rfl]
  · rw [if_neg hlo, if_neg hlo]
    by_cases hc : out.flatten.length > 1048576 ∨ out.length > 4096
    · rw [if_pos hc, if_neg (by decide)]
    · rw [if_neg hc]; exact (if_neg (by show ¬ ((0 : Int) = 2); decide)).symm
theorem applyOf_join (hs : List PatchHunk) (x : List Str) : applyOf hs x = if (joinOf (outTo hs x hs.length ++ x.drop (atTo hs hs.length).toNat)).2 = 2 then (([] : Str), (140 : Int)) else joinOf (outTo hs x hs.length ++ x.drop (atTo hs hs.length).toNat) := join_err _
theorem papply14_ok (p : Patch) (blob : Str) (hp : szP p.Hunks ≤ 134217728) (hb : blob.length ≤ 134217728) : FnOk Tryz.prog 19 [pPatch p, pStr blob] (fun rs => rs = [pStr (apply14 p blob).1, pInt (apply14 p blob).2]) := by
  have hsl := szP_len p.Hunks
  have hf0 := apply14_prep p blob
  refine FnOk.intro Tryz.func19 (by decide) rfl rfl rfl rfl ?_
  refine k2 ?_
  refine c_region ?_; refine l_effv (f_box 2 rfl rfl rfl) rfl ?_; refine l_neu (n_assign rfl rfl) rfl ?_; refine l_neu (n_assign rfl rfl) rfl ?_; refine l_nil ?_
  refine k1 ?_; refine k2 ?_
  refine c_region ?_; refine l_neu (n_loads_ref rfl rfl rfl) rfl ?_; refine l_neu (n_move rfl rfl) rfl ?_; refine l_call (pprepare_ok p blob (by omega) (by omega)) rfl rfl rfl ?_; rintro _ rfl; refine l_neu (n_move rfl rfl) rfl ?_; refine l_neu (n_extract rfl rfl) rfl ?_; refine l_neu (n_extract rfl rfl) rfl ?_; refine l_neu (n_assign rfl rfl) rfl ?_; refine l_neu (n_assign rfl rfl) rfl ?_; refine l_nil ?_
  refine k1 ?_; refine k2 ?_; refine k2 ?_
  refine c_region ?_; refine l_neu (n_move rfl rfl) rfl ?_; refine l_neu (n_neq rfl rfl) rfl ?_; refine l_nil ?_
  refine k1 ?_
  refine c_cond rfl (fun ht => ?_) (fun ht => ?_)
  · have h1 : (prep14 p blob).2 ≠ 0 := of_decide_eq_true ht
    refine k2 ?_
    refine c_region ?_; refine l_neu (n_move rfl rfl) rfl ?_; refine l_neu (n_assign rfl rfl) rfl ?_; refine l_neu (n_assign rfl rfl) rfl ?_; refine l_nil ?_
    refine k1 ?_; refine k10 ?_; refine k11 ?_
    exact ret_ret (ret2 rfl rfl rfl rfl rfl) (by rw [hf0, if_pos h1])
  have h1 : ¬ (prep14 p blob).2 ≠ 0 := of_decide_eq_false ht
  rw [if_neg h1] at hf0
  obtain ⟨hg, hxs, hxl, _⟩ := prep14_good h1
  have hr := goodOf_range hg
  have hxf : (prep14 p blob).1.flatten.length = blob.length := by rw [hxs, linesOf_flatten]
  obtain ⟨x, hx⟩ : ∃ x, x = (prep14 p blob).1 := ⟨_, rfl⟩
  rw [← hx] at hxl hf0 hxf ⊢
  have hord0 : ∀ k, k < p.Hunks.length → 0 ≤ atTo p.Hunks k ∧ atTo p.Hunks k ≤ (hAt p.Hunks k).Old := by
    unfold goodOf at hg
    rw [Bool.and_eq_true] at hg
    have hord := goodGo_order p.Hunks 0 0 hg.1
    refine fun k hk => ⟨?_, hord k hk⟩
    unfold atTo
    split
    · omega
    · have := hr _ (hAt_mem (hs := p.Hunks) (k := k - 1) (by omega))
      have := oldN_nn (hAt p.Hunks (k - 1))
      omega
  refine k5 ?_; refine k1 ?_; refine k2 ?_
  refine c_region ?_; refine l_effv (f_adopt 8 _ strC rfl) rfl ?_; refine l_nil ?_
  refine k1 ?_; refine k2 ?_
  refine c_region ?_; refine l_neu (n_assign rfl rfl) rfl ?_; refine l_nil ?_
  refine k1 ?_; refine k2 ?_; refine k2 ?_
  refine c_region ?_; refine l_neu (n_field_ref rfl) rfl ?_; refine l_neu (n_load_ref rfl rfl rfl) rfl ?_; refine l_neu (n_len rfl (.pure _ _ _ _)) rfl ?_; refine l_neu (n_move rfl rfl) rfl ?_; refine l_nil ?_
  refine k1 ?_; refine k3 ?_
  refine c_while (X := Nat) (fun k => ([(2, .s (.one (.ref 2 0))), (6, sList Str 1 strC x), (8, .s (.one (.buf 8 Str 1 strC (outTo p.Hunks x k)))), (9, sInt (atTo p.Hunks k)), (25, sList PatchHunk 3 phunkC p.Hunks), (26, sInt p.Hunks.length), (27, sInt k)], [(2, .box (pPatch p).s1.cells), (8, .spare (outTo p.Hunks x k).length 1 9)])) (fun k => k ≤ p.Hunks.length ∧ fitN p.Hunks x = k + fitN (p.Hunks.drop k) x ∧ (∀ j, j < k → fitsOf (hAt p.Hunks j) x = true)) (fun k => p.Hunks.length - k) 0 ⟨Nat.zero_le _, by simp, fun j hj => absurd hj (by omega)⟩ (Sees.of ⟨le1 rfl, le1 rfl, le1 rfl, le1 rfl, le1 rfl, le1 rfl, le1 rfl, trivial⟩ ⟨rfl, rfl, trivial⟩) ?_
  rintro k ⟨hk, hf, hall⟩
  dsimp only at hk hf hall ⊢
  have hlk : (outTo p.Hunks x k).length ≤ (atTo p.Hunks k).toNat + szP (p.Hunks.take k) ∧ (outTo p.Hunks x k).flatten.length ≤ (x.take (atTo p.Hunks k).toNat).flatten.length + szP (p.Hunks.take k) := by
    refine outTo_lenK k hk (fun j hj => ?_)
    obtain ⟨q1, q2⟩ := hord0 j (by omega)
    exact ⟨q1, q2, fitsOf_le (hall j hj)⟩
  have hst := szP_take p.Hunks k
  refine k2 ?_
  refine c_region ?_; refine l_neu (n_lss rfl rfl) rfl ?_; refine l_nil ?_
  refine k1 ?_; refine k2 ?_
  refine c_cond rfl (fun ht => ?_) (fun ht => ?_)
  · have hlt : k < p.Hunks.length := by have := of_decide_eq_true ht; omega
    have hv : p.Hunks[k]? = some (hAt p.Hunks k) := hAt_get hlt
    have hmem := hAt_mem hlt
    have hdr : p.Hunks.drop k = hAt p.Hunks k :: p.Hunks.drop (k + 1) := by
      rw [List.drop_eq_getElem_cons hlt]
      rw [List.getElem?_eq_getElem hlt] at hv
      rw [Option.some.inj hv]
    rw [hdr, fitN] at hf
    obtain ⟨o1, o2⟩ := hord0 k hlt
    obtain ⟨h, hh⟩ : ∃ h, h = hAt p.Hunks k := ⟨_, rfl⟩
    rw [← hh] at hv hmem hf o2
    have h3 := szP_mem hmem
    have h4 := szL_len h.Lines
    have h5 := linesNot_len h.Lines 45
    have h6 := linesNot_len h.Lines 43
    have h7 := oldN_nn h
    have h8 := sub_len x (atTo p.Hunks k) h.Old
    unfold szH at h3
    have hr1 := hr h hmem
    refine k5 ?_; refine k1 ?_; refine k2 ?_; refine k3 ?_; refine k2 ?_
    refine c_region ?_; refine l_neu (n_indexAddr rfl (.pure _ _ _ _) rfl (by omega) hv) rfl ?_; refine l_neu (n_loads_eref rfl rfl) rfl ?_; refine l_effv (f_alloc 11 rfl) rfl ?_; refine l_eff (e_store_ref TySz.out rfl rfl rfl rfl rfl rfl) ?_; refine l_nil ?_
    refine k1 ?_; refine k2 ?_
    refine c_region ?_; refine l_neu (n_loads_ref rfl rfl rfl) rfl ?_; refine l_call (psides_ok h (by omega)) rfl rfl rfl ?_; rintro _ rfl; refine l_neu (n_move rfl rfl) rfl ?_; refine l_neu (n_extract rfl rfl) rfl ?_; refine l_neu (n_extract rfl rfl) rfl ?_; refine l_neu (n_assign rfl rfl) rfl ?_; refine l_neu (n_assign rfl rfl) rfl ?_; refine l_nil ?_
    refine k1 ?_; refine k2 ?_; refine k2 ?_
    refine c_region ?_; refine l_neu (n_move rfl rfl) rfl ?_; refine l_neu (n_field_ref rfl) rfl ?_; refine l_neu (n_load_ref rfl rfl rfl) rfl ?_; refine l_neu (n_move rfl rfl) rfl ?_; refine l_call (pfound_ok h x (by omega) hr1.1 (by omega)) rfl rfl rfl ?_; rintro _ rfl; refine l_neu (n_not rfl) rfl ?_; refine l_nil ?_
    refine k1 ?_
    refine c_cond rfl (fun ht => ?_) (fun ht => ?_)
    · have h5 : fitsOf h x = false := by simpa using ht
      rw [if_neg (by rw [h5]; decide)] at hf
      refine k2 ?_
      refine c_region ?_; refine l_neu (n_assign rfl rfl) rfl ?_; refine l_neu (n_assign rfl rfl) rfl ?_; refine l_nil ?_
      refine k1 ?_; refine k10 ?_; refine k11 ?_; refine k12 ?_; refine k11 ?_; refine k11 ?_; refine k12 ?_; refine k11 ?_
      exact ret_ret (ret2 rfl rfl rfl rfl rfl) (by rw [hf0, if_pos (by omega)])
    · have h9 : fitsOf h x = true := by simpa using ht
      rw [if_pos h9] at hf
      have h10 := fitsOf_le h9
      refine k5 ?_; refine k1 ?_; refine k2 ?_
      refine c_region ?_; refine l_neu (n_move rfl rfl) rfl ?_; refine l_neu (n_move rfl rfl) rfl ?_; refine l_neu (n_move rfl rfl) rfl ?_; refine l_neu (n_field_ref rfl) rfl ?_; refine l_neu (n_load_ref rfl rfl rfl) rfl ?_; refine l_neu (n_slice_lh rfl (.pure _ _ _ _) rfl rfl (by (first | omega | (unfold sub at h8; omega))) (by (first | omega | (unfold sub at h8; omega))) (by (first | omega | (unfold sub at h8; omega)))) rfl ?_; refine l_effv (e_append rfl rfl rfl (.pure _ _ _ _) (by (unfold sub at h8; omega)) rfl) rfl ?_; refine l_neu (n_move rfl rfl) rfl ?_; refine l_effv (e_append rfl rfl rfl (.pure _ _ _ _) (by (simp only [List.length_append]; unfold sub at h8; omega)) rfl) rfl ?_; refine l_neu (n_assign rfl rfl) rfl ?_; refine l_nil ?_
      refine k1 ?_
      refine c_region ?_; refine l_neu (n_field_ref rfl) rfl ?_; refine l_neu (n_load_ref rfl rfl rfl) rfl ?_; refine l_neu (n_move rfl rfl) rfl ?_; refine l_neu (n_len rfl (.pure _ _ _ _)) rfl ?_; refine l_neu (n_add rfl rfl (by omega)) rfl ?_; refine l_neu (n_assign rfl rfl) rfl ?_; refine l_nil ?_
      refine k4 ?_; refine k1 ?_
      refine c_region ?_; refine l_neu (n_add rfl rfl (by omega)) rfl ?_; refine l_neu (n_move rfl rfl) rfl ?_; refine l_nil ?_
      refine k1 ?_
      have e : outTo p.Hunks x (k + 1) = outTo p.Hunks x k ++ sub x (atTo p.Hunks k) h.Old ++ linesNot h.Lines 45 := by rw [hh]; rfl
      have e2 : atTo p.Hunks (k + 1) = h.Old + ((linesNot h.Lines 43).length : Int) := by rw [hh]; unfold atTo; rw [if_neg (by omega)]; rfl
      refine ⟨k + 1, ⟨by omega, by omega, fun j hj => ?_⟩, by omega, ?_⟩
      · rcases Nat.lt_or_ge j k with hjk | hjk
        · exact hall j hjk
        · rw [show j = k by omega, ← hh]; exact h9
      rw [e, e2]
      exact Sees.of ⟨le1 rfl, le1 rfl, le1 rfl, le1 rfl, le1 rfl, le1 rfl, le1 rfl, trivial⟩ ⟨rfl, rfl, trivial⟩
  · have hk' : k = p.Hunks.length := by have := of_decide_eq_false ht; omega
    subst hk'
    rw [List.drop_eq_nil_of_le (Nat.le_refl _), fitN] at hf
    rw [if_neg (by omega)] at hf0
    have hat : 0 ≤ atTo p.Hunks p.Hunks.length ∧ atTo p.Hunks p.Hunks.length ≤ x.length := by
      unfold atTo
      split
      · omega
      · obtain ⟨o1, o2⟩ := hord0 (p.Hunks.length - 1) (by omega)
        have o3 := fitsOf_le (hall (p.Hunks.length - 1) (by omega))
        have := oldN_nn (hAt p.Hunks (p.Hunks.length - 1))
        omega
    obtain ⟨out, hout⟩ : ∃ out, out = outTo p.Hunks x p.Hunks.length ++ x.drop (atTo p.Hunks p.Hunks.length).toNat := ⟨_, rfl⟩
    have hfl : out.flatten.length ≤ 268435456 := by
      have h9 : (x.take (atTo p.Hunks p.Hunks.length).toNat).flatten.length + (x.drop (atTo p.Hunks p.Hunks.length).toNat).flatten.length = x.flatten.length := by
        rw [← List.length_append, ← List.flatten_append, List.take_append_drop]
      rw [hout, List.flatten_append, List.length_append]; omega
    have hol : out.length ≤ 536870911 := by rw [hout, List.length_append, List.length_drop]; omega
    have hap := applyOf_join p.Hunks x
    rw [← hout] at hap
    have hfl2 := hfl
    have hol2 := hol
    rw [hout] at hfl2 hol2
    refine k6 ?_; refine k2 ?_
    refine c_region ?_; refine l_neu (n_move rfl rfl) rfl ?_; refine l_neu (n_move rfl rfl) rfl ?_; refine l_neu (n_move rfl rfl) rfl ?_; refine l_neu (n_slice_l rfl (.pure _ _ _ _) rfl (by (first | omega | (unfold sub at *; omega))) (by (first | omega | (unfold sub at *; omega)))) rfl ?_; refine l_effv (e_append rfl rfl rfl (.pure _ _ _ _) (by (simp only [List.length_drop]; omega)) rfl) rfl ?_; refine l_call (tjoin_ok _ (Nat.le_trans hfl2 (by decide)) hol2) rfl rfl rfl ?_; rintro _ rfl; refine l_neu (n_move rfl rfl) rfl ?_; refine l_neu (n_extract rfl rfl) rfl ?_; refine l_neu (n_extract rfl rfl) rfl ?_; refine l_neu (n_assign rfl rfl) rfl ?_; refine l_neu (n_assign rfl rfl) rfl ?_; refine l_nil ?_
    rw [← hout]
    refine k1 ?_; refine k2 ?_; refine k2 ?_
    refine c_region ?_; refine l_neu (n_move rfl rfl) rfl ?_; refine l_neu (n_eql rfl rfl) rfl ?_; refine l_nil ?_
    refine k1 ?_
    refine c_cond rfl (fun ht => ?_) (fun ht => ?_)
    · have h8 : (joinOf out).2 = 2 := of_decide_eq_true ht
      refine k2 ?_
      refine c_region ?_; refine l_neu (n_assign rfl rfl) rfl ?_; refine l_neu (n_assign rfl rfl) rfl ?_; refine l_nil ?_
      refine k1 ?_; refine k10 ?_; refine k11 ?_
      exact ret_ret (ret2 rfl rfl rfl rfl rfl) (by rw [hf0, hap, if_pos h8])
    · have h8 : ¬ (joinOf out).2 = 2 := of_decide_eq_false ht
      refine k5 ?_; refine k1 ?_; refine k2 ?_
      refine c_region ?_; refine l_neu (n_move rfl rfl) rfl ?_; refine l_neu (n_move rfl rfl) rfl ?_; refine l_neu (n_assign rfl rfl) rfl ?_; refine l_neu (n_assign rfl rfl) rfl ?_; refine l_nil ?_
      refine k1 ?_; refine k10 ?_
      exact ret_ret (ret2 rfl rfl rfl rfl rfl) (by rw [hf0, hap, if_neg h8])
end Go.Proofs.YtbiadkkamhpdnaaGreatDoor
namespace Go.Proofs.YtbiadkkamhpdnaaGreatDoor
open Go Go.AL
set_option maxRecDepth 100000
theorem awake14_ok : FnOk Tryz.prog 16 [] (fun rs => rs = [pBool true]) := by
  have hsz := madeHunks_small [97, 10, 98] [97, 10, 99, 10] 1 (by decide) (by decide)
  have hmk := rmake12_ok [120] [120] [97, 10, 98] [97, 10, 99, 10] 1 (by decide) (by decide) (Nat.le_trans hsz (by decide))
  rw [awake_make] at hmk
  have h1 := papply14_ok awakeP [97, 10, 98] (by decide) (by decide)
  have h2 := papply14_ok awakeP [97, 10, 98, 10] (by decide) (by decide)
  rw [awake_apply.1] at h1
  rw [awake_apply.2] at h2
  refine FnOk.intro Tryz.func16 (by decide) rfl rfl rfl rfl ?_
  refine k2 ?_
  refine c_region ?_; refine l_neu (n_assign rfl rfl) rfl ?_; refine l_nil ?_
  refine k1 ?_; refine k2 ?_
  refine c_region ?_; refine l_call (hmk) rfl rfl rfl ?_; rintro _ rfl; refine l_neu (n_move rfl rfl) rfl ?_; refine l_neu (n_extract rfl rfl) rfl ?_; refine l_neu (n_extract rfl rfl) rfl ?_; refine l_effv (f_alloc 1 rfl) rfl ?_; refine l_eff (e_store_ref TySz.out rfl rfl rfl rfl rfl rfl) ?_; refine l_neu (n_assign rfl rfl) rfl ?_; refine l_nil ?_
  refine k1 ?_; refine k2 ?_
  refine c_region ?_; refine l_neu (n_loads_ref rfl rfl rfl) rfl ?_; refine l_call (h1) rfl rfl rfl ?_; rintro _ rfl; refine l_neu (n_move rfl rfl) rfl ?_; refine l_neu (n_extract rfl rfl) rfl ?_; refine l_neu (n_extract rfl rfl) rfl ?_; refine l_neu (n_assign rfl rfl) rfl ?_; refine l_neu (n_assign rfl rfl) rfl ?_; refine l_nil ?_
  refine k1 ?_; refine k2 ?_
  refine c_region ?_; refine l_neu (n_loads_ref rfl rfl rfl) rfl ?_; refine l_call (h2) rfl rfl rfl ?_; rintro _ rfl; refine l_neu (n_move rfl rfl) rfl ?_; refine l_neu (n_extract rfl rfl) rfl ?_; refine l_neu (n_extract rfl rfl) rfl ?_; refine l_neu (n_assign rfl rfl) rfl ?_; refine l_neu (n_assign rfl rfl) rfl ?_; refine l_nil ?_
  refine k1 ?_; refine k2 ?_
  refine c_region ?_; refine l_neu (n_move rfl rfl) rfl ?_; refine l_neu (n_eql rfl rfl) rfl ?_; refine l_neu (n_move rfl rfl) rfl ?_; refine l_guard rfl rfl rfl rfl (fun hg => by rw [hg]; exact n_move rfl rfl) ?_; refine l_guard rfl rfl rfl rfl (fun hg => by rw [hg]; exact n_eql_s rfl rfl) ?_; refine l_neu (n_pick_bool rfl (fun h => by first | rfl | (rw [h]; rfl)) (fun h => by first | rfl | (rw [h]; rfl))) rfl ?_; refine l_neu (n_move rfl rfl) rfl ?_; refine l_guard rfl rfl rfl rfl (fun hg => by rw [hg]; exact n_move rfl rfl) ?_; refine l_guard rfl rfl rfl rfl (fun hg => by rw [hg]; exact n_eql rfl rfl) ?_; refine l_neu (n_pick_bool rfl (fun h => by first | rfl | (rw [h]; rfl)) (fun h => by first | rfl | (rw [h]; rfl))) rfl ?_; refine l_neu (n_assign rfl rfl) rfl ?_; refine l_nil ?_
  refine k1 ?_; refine k10 ?_
  exact ret_ret (ret1 rfl rfl rfl) (by simp)
end Go.Proofs.YtbiadkkamhpdnaaGreatDoor
namespace Go.Proofs.YtbiadkkamhpdnaaGreatDoor
open Go Go.AL
set_option maxRecDepth 100000
def pickA (raw : List Int) : Str := blobOf raw 0 9 5
def pickB (raw : List Int) : Str := nearOf (pickA raw) raw 100
def pickM (raw : List Int) (ctx : Int) : Patch × Int := make12 [111] [110] (pickA raw) (pickB raw) (modOf ctx 4)
theorem pickA_len (raw : List Int) : (pickA raw).length ≤ 36 := by
  have := blobOf_len raw 0 9 5 (by omega)
  unfold pickA; omega
theorem near_len (b : Str) (raw : List Int) (f : Int) : (nearOf b raw f).length ≤ 5 * b.length := by
  unfold nearOf
  have h1 := nearGo_len raw f (linesOf b) 0 []
  have h2 := linesOf_length b
  rw [linesOf_flatten] at h1
  simp at h1; omega
theorem pickB_len (raw : List Int) : (pickB raw).length ≤ 180 := by
  have := near_len (pickA raw) raw 100
  have := pickA_len raw
  unfold pickB; omega
end Go.Proofs.YtbiadkkamhpdnaaGreatDoor
namespace Go.Proofs.YtbiadkkamhpdnaaGreatDoor
open Go Go.AL
set_option maxRecDepth 100000
theorem pickA_def (raw : List Int) : pickA raw = blobOf raw 0 9 5 := rfl
theorem pickB_def (raw : List Int) : pickB raw = nearOf (pickA raw) raw 100 := rfl
theorem pick14_ok (raw : List Int) (ctx : Int) : FnOk Tryz.prog 17 [pInts raw, pInt ctx] (fun rs => rs = [pPatch (pickM raw ctx).1, pStr (pickA raw), pStr (pickB raw)]) := by
  have ha := pickA_len raw
  have hb := pickB_len raw
  have hsz := madeHunks_small (pickA raw) (pickB raw) (modOf ctx 4) ha (by omega)
  have hmk := rmake12_ok [111] [110] (pickA raw) (pickB raw) (modOf ctx 4) (by omega) (by omega) (by omega)
  obtain ⟨q, hq⟩ : ∃ q, q = make12 [111] [110] (pickA raw) (pickB raw) (modOf ctx 4) := ⟨_, rfl⟩
  have hP : pickM raw ctx = q := by unfold pickM; rw [hq]
  rw [← hq] at hmk
  rw [hP]
  refine FnOk.intro Tryz.func17 (by decide) rfl rfl rfl rfl ?_
  refine k2 ?_
  refine c_region ?_; refine l_effv (f_alloc 4 rfl) rfl ?_; refine l_neu (n_assign rfl rfl) rfl ?_; refine l_neu (n_assign rfl rfl) rfl ?_; refine l_nil ?_
  refine k1 ?_; refine k2 ?_
  refine c_region ?_; refine l_neu (n_move rfl rfl) rfl ?_; refine l_call (blob_ok raw 0 9 5 (by omega) (by omega) (by omega)) rfl rfl rfl ?_; rintro _ rfl; refine l_neu (n_assign rfl rfl) rfl ?_; refine l_nil ?_
  rw [← pickA_def]
  refine k1 ?_; refine k2 ?_
  refine c_region ?_; refine l_neu (n_move rfl rfl) rfl ?_; refine l_neu (n_move rfl rfl) rfl ?_; refine l_call (near_ok (pickA raw) raw 100 (by omega) (by omega)) rfl rfl rfl ?_; rintro _ rfl; refine l_neu (n_assign rfl rfl) rfl ?_; refine l_nil ?_
  rw [← pickB_def]
  refine k1 ?_; refine k2 ?_
  refine c_region ?_; refine l_neu (n_move rfl rfl) rfl ?_; refine l_neu (n_move rfl rfl) rfl ?_; refine l_neu (n_move rfl rfl) rfl ?_; refine l_call (mod_ok ctx 4 (by omega) (by omega)) rfl rfl rfl ?_; rintro _ rfl; refine l_call (hmk) rfl rfl rfl ?_; rintro _ rfl; refine l_neu (n_move rfl rfl) rfl ?_; refine l_neu (n_extract rfl rfl) rfl ?_; refine l_neu (n_extract rfl rfl) rfl ?_; refine l_effv (f_alloc 9 rfl) rfl ?_; refine l_eff (e_store_ref TySz.out rfl rfl rfl rfl rfl rfl) ?_; refine l_neu (n_assign rfl rfl) rfl ?_; refine l_nil ?_
  refine k1 ?_; refine k2 ?_
  refine c_region ?_; refine l_neu (n_loads_ref rfl rfl rfl) rfl ?_; refine l_neu (n_move rfl rfl) rfl ?_; refine l_neu (n_move rfl rfl) rfl ?_; refine l_eff (e_store_ref TySz.out rfl rfl rfl rfl rfl rfl) ?_; refine l_neu (n_assign rfl rfl) rfl ?_; refine l_neu (n_assign rfl rfl) rfl ?_; refine l_nil ?_
  refine k1 ?_; refine k10 ?_
  exact ret_ret (rs := [pPatch q.1, pStr (pickA raw), pStr (pickB raw)]) (retc3 rfl rfl rfl rfl rfl rfl rfl rfl rfl) rfl
end Go.Proofs.YtbiadkkamhpdnaaGreatDoor
namespace Go.Proofs.YtbiadkkamhpdnaaGreatDoor
open Go Go.AL
set_option maxRecDepth 100000
theorem ke_of (c k : UInt8) : decide ((c.toNat : Int) = (k.toNat : Int)) = decide (c = k) := by
  rw [decide_eq_decide]
  constructor
  · intro h; exact UInt8.toNat_inj.1 (by omega)
  · rintro rfl; rfl
theorem ke45 (c : UInt8) : decide ((c.toNat : Int) = 45) = decide (c = 45) := ke_of c 45
theorem ke43 (c : UInt8) : decide ((c.toNat : Int) = 43) = decide (c = 43) := ke_of c 43
theorem swapped_ok (c : UInt8) : FnOk Tryz.prog 74 [.one (.v (.int .u8 c.toNat))] (fun rs => rs = [.one (.v (.int .u8 (swapK c).toNat))]) := by
  refine FnOk.intro Tryz.func74 (by decide) rfl rfl rfl rfl ?_
  refine k2 ?_
  refine c_region ?_; refine l_neu (n_assign rfl rfl) rfl ?_; refine l_nil ?_
  refine k1 ?_; refine k2 ?_; refine k2 ?_
  refine c_region ?_; refine l_neu (n_move rfl rfl) rfl ?_; refine l_nil ?_
  refine k1 ?_; refine k3 ?_; refine k2 ?_
  refine c_region ?_; refine l_neu (n_eql rfl rfl) rfl ?_; refine l_neu (n_assign rfl rfl) rfl ?_; refine l_nil ?_
  refine k1 ?_
  refine c_cond rfl (fun ht => ?_) (fun ht => ?_)
  · simp only [ke45] at ht
    have h := of_decide_eq_true ht
    refine k2 ?_
    refine c_region ?_; refine l_neu (n_assign rfl rfl) rfl ?_; refine l_nil ?_
    refine k1 ?_; refine k10 ?_; refine k12 ?_; refine k11 ?_
    exact ret_ret (ret1 rfl rfl rfl) (by unfold swapK; rw [if_pos h]; rfl)
  simp only [ke45] at ht
  have h := of_decide_eq_false ht
  refine k2 ?_
  refine c_region ?_; refine l_neu (n_eql rfl rfl) rfl ?_; refine l_neu (n_assign rfl rfl) rfl ?_; refine l_nil ?_
  refine k1 ?_
  refine c_cond rfl (fun ht => ?_) (fun ht => ?_)
  · simp only [ke43] at ht
    have h2 := of_decide_eq_true ht
    refine k2 ?_
    refine c_region ?_; refine l_neu (n_assign rfl rfl) rfl ?_; refine l_nil ?_
    refine k1 ?_; refine k10 ?_; refine k12 ?_; refine k11 ?_
    exact ret_ret (ret1 rfl rfl rfl) (by unfold swapK; rw [if_neg h, if_pos h2]; rfl)
  simp only [ke43] at ht
  have h2 := of_decide_eq_false ht
  refine k5 ?_; refine k2 ?_
  refine c_region ?_; refine l_neu (n_move rfl rfl) rfl ?_; refine l_neu (n_assign rfl rfl) rfl ?_; refine l_nil ?_
  refine k1 ?_; refine k10 ?_
  exact ret_ret (ret1 rfl rfl rfl) (by unfold swapK; rw [if_neg h, if_neg h2])
theorem preverse_ok (p : Patch) (hp : szP p.Hunks ≤ 268435456) : FnOk Tryz.prog 21 [pPatch p] (fun rs => rs = [pPatch (reverse14 p).1, pInt (reverse14 p).2]) := by
  have hsl := szP_len p.Hunks
  have hf0 : reverse14 p = if check12 p ≠ 0 then (patch0, check12 p) else (revP p, 0) := rfl
  refine FnOk.intro Tryz.func21 (by decide) rfl rfl rfl rfl ?_
  refine k2 ?_
  refine c_region ?_; refine l_effv (f_box 1 rfl rfl rfl) rfl ?_; refine l_effv (f_alloc 2 rfl) rfl ?_; refine l_neu (n_assign rfl rfl) rfl ?_; refine l_nil ?_
  refine k1 ?_; refine k2 ?_; refine k2 ?_
  refine c_region ?_; refine l_neu (n_loads_ref rfl rfl rfl) rfl ?_; refine l_call (ucheck_ok p (by omega)) rfl rfl rfl ?_; rintro _ rfl; refine l_neu (n_assign rfl rfl) rfl ?_; refine l_nil ?_
  refine k1 ?_; refine k2 ?_
  refine c_region ?_; refine l_neu (n_move rfl rfl) rfl ?_; refine l_neu (n_neq rfl rfl) rfl ?_; refine l_nil ?_
  refine k1 ?_
  refine c_cond rfl (fun ht => ?_) (fun ht => ?_)
  · have h1 : check12 p ≠ 0 := of_decide_eq_true ht
    refine k2 ?_
    refine c_region ?_; refine l_neu (n_build rfl) rfl ?_; refine l_neu (n_move rfl rfl) rfl ?_; refine l_eff (e_store_ref TySz.out rfl rfl rfl rfl rfl rfl) ?_; refine l_neu (n_assign rfl rfl) rfl ?_; refine l_nil ?_
    refine k1 ?_
    refine c_sees (Sees.listB PatchHunk 3 phunkC 2 2 rfl rfl) ?_
    refine k10 ?_; refine k11 ?_
    exact ret_ret (rs := [pPatch patch0, pInt (check12 p)]) (retc2 rfl rfl rfl rfl rfl rfl rfl) (by rw [hf0, if_pos h1])
  have h1 : ¬ check12 p ≠ 0 := of_decide_eq_false ht
  rw [if_neg h1] at hf0
  refine k5 ?_; refine k1 ?_; refine k2 ?_
  refine c_region ?_; refine l_neu (n_field_ref rfl) rfl ?_; refine l_neu (n_load_ref rfl rfl rfl) rfl ?_; refine l_neu (n_field_ref rfl) rfl ?_; refine l_neu (n_load_ref rfl rfl rfl) rfl ?_; refine l_neu (n_build rfl) rfl ?_; refine l_effv (f_alloc 5 rfl) rfl ?_; refine l_eff (e_store_ref TySz.out rfl rfl rfl rfl rfl rfl) ?_; refine l_nil ?_
  refine k1 ?_; refine k2 ?_; refine k2 ?_
  refine c_sees (Sees.adoptB 702 PatchHunk 3 phunkC 29 (kb := 5) (o := 2) rfl rfl rfl) ?_
  skip
  refine c_region ?_; refine l_neu (n_field_ref rfl) rfl ?_; refine l_neu (n_load_ref rfl rfl rfl) rfl ?_; refine l_neu (n_len rfl (.pure _ _ _ _)) rfl ?_; refine l_neu (n_move rfl rfl) rfl ?_; refine l_nil ?_
  refine k1 ?_; refine k3 ?_
  refine c_while (X := Nat) (fun k => ([(2, .s (.one (.ref 2 0))), (5, .s (.one (.ref 5 0))), (23, sList PatchHunk 3 phunkC p.Hunks), (24, sInt p.Hunks.length), (25, sInt k)], [(2, .box [.p (.v (.string ⟨#[]⟩)), .p (.v (.string ⟨#[]⟩)), .p (.v (.slice none 0 0))]), (5, .box [.p (.v (.string ⟨p.NewName.toArray⟩)), .p (.v (.string ⟨p.OldName.toArray⟩)), .buf 702 PatchHunk 3 phunkC ((p.Hunks.take k).map revH)]), (702, .spare ((p.Hunks.take k).map revH).length 3 29)])) (fun k => k ≤ p.Hunks.length) (fun k => p.Hunks.length - k) 0 (Nat.zero_le _) (Sees.of ⟨le1 rfl, le1 rfl, le1 rfl, le1 rfl, le1 rfl, trivial⟩ ⟨rfl, rfl, rfl, trivial⟩) ?_
  intro k hk
  dsimp only at hk ⊢
  refine k2 ?_
  refine c_region ?_; refine l_neu (n_lss rfl rfl) rfl ?_; refine l_nil ?_
  refine k1 ?_; refine k2 ?_
  refine c_cond rfl (fun ht => ?_) (fun ht => ?_)
  · have hlt : k < p.Hunks.length := by have := of_decide_eq_true ht; omega
    have hv : p.Hunks[k]? = some p.Hunks[k] := by simp [hlt]
    have hmem := List.getElem_mem hlt
    have htk : (p.Hunks.take (k + 1)).map revH = (p.Hunks.take k).map revH ++ [revH p.Hunks[k]] := by rw [List.take_succ_eq_append_getElem hlt, List.map_append]; rfl
    obtain ⟨h, hh⟩ : ∃ h, h = p.Hunks[k] := ⟨_, rfl⟩
    rw [← hh] at hv hmem htk
    have h3 := szP_mem hmem
    have h4 := szL_len h.Lines
    unfold szH at h3
    obtain ⟨hs, hhs⟩ : ∃ hs, hs = (p.Hunks.take k).map revH := ⟨_, rfl⟩
    have hhl : hs.length = k := by rw [hhs, List.length_map, List.length_take]; omega
    rw [← hhs] at htk ⊢
    refine k5 ?_; refine k1 ?_; refine k2 ?_; refine k3 ?_; refine k2 ?_
    refine c_region ?_; refine l_neu (n_indexAddr rfl (.pure _ _ _ _) rfl (by omega) hv) rfl ?_; refine l_neu (n_loads_eref rfl rfl) rfl ?_; refine l_effv (f_alloc 7 rfl) rfl ?_; refine l_eff (e_store_ref TySz.out rfl rfl rfl rfl rfl rfl) ?_; refine l_nil ?_
    refine k1 ?_; refine k2 ?_
    refine c_region ?_; refine l_neu (n_field_ref rfl) rfl ?_; refine l_neu (n_load_ref rfl rfl rfl) rfl ?_; refine l_neu (n_field_ref rfl) rfl ?_; refine l_neu (n_load_ref rfl rfl rfl) rfl ?_; refine l_neu (n_build rfl) rfl ?_; refine l_effv (f_alloc 8 rfl) rfl ?_; refine l_eff (e_store_ref TySz.out rfl rfl rfl rfl rfl rfl) ?_; refine l_nil ?_
    refine k1 ?_; refine k2 ?_; refine k2 ?_
    refine c_sees (Sees.adoptB 701 PatchLine 2 plineC 36 (kb := 8) (o := 2) rfl rfl rfl) ?_
    skip
    refine c_region ?_; refine l_neu (n_field_ref rfl) rfl ?_; refine l_neu (n_load_ref rfl rfl rfl) rfl ?_; refine l_neu (n_len rfl (.pure _ _ _ _)) rfl ?_; refine l_neu (n_move rfl rfl) rfl ?_; refine l_nil ?_
    refine k1 ?_; refine k3 ?_
    refine c_while (X := Nat) (fun i => ([(2, .s (.one (.ref 2 0))), (5, .s (.one (.ref 5 0))), (23, sList PatchHunk 3 phunkC p.Hunks), (24, sInt p.Hunks.length), (25, sInt k), (8, .s (.one (.ref 8 0))), (35, sList PatchLine 2 plineC h.Lines), (36, sInt h.Lines.length), (37, sInt i)], [(2, .box [.p (.v (.string ⟨#[]⟩)), .p (.v (.string ⟨#[]⟩)), .p (.v (.slice none 0 0))]), (5, .box [.p (.v (.string ⟨p.NewName.toArray⟩)), .p (.v (.string ⟨p.OldName.toArray⟩)), .buf 702 PatchHunk 3 phunkC hs]), (702, .spare hs.length 3 29), (8, .box [.p (.v (.int .i64 h.New)), .p (.v (.int .i64 h.Old)), .buf 701 PatchLine 2 plineC ((h.Lines.take i).map revL)]), (701, .spare ((h.Lines.take i).map revL).length 2 36)])) (fun i => i ≤ h.Lines.length) (fun i => h.Lines.length - i) 0 (Nat.zero_le _) (Sees.of ⟨le1 rfl, le1 rfl, le1 rfl, le1 rfl, le1 rfl, le1 rfl, le1 rfl, le1 rfl, le1 rfl, trivial⟩ ⟨rfl, rfl, rfl, rfl, rfl, trivial⟩) ?_
    intro i hi
    dsimp only at hi ⊢
    refine k2 ?_
    refine c_region ?_; refine l_neu (n_lss rfl rfl) rfl ?_; refine l_nil ?_
    refine k1 ?_; refine k2 ?_
    refine c_cond rfl (fun ht => ?_) (fun ht => ?_)
    · have hlt2 : i < h.Lines.length := by have := of_decide_eq_true ht; omega
      have hv2 : h.Lines[i]? = some h.Lines[i] := by simp [hlt2]
      have htk2 : (h.Lines.take (i + 1)).map revL = (h.Lines.take i).map revL ++ [revL h.Lines[i]] := by rw [List.take_succ_eq_append_getElem hlt2, List.map_append]; rfl
      obtain ⟨q, hq⟩ : ∃ q, q = h.Lines[i] := ⟨_, rfl⟩
      rw [← hq] at hv2 htk2
      obtain ⟨ls, hls⟩ : ∃ ls, ls = (h.Lines.take i).map revL := ⟨_, rfl⟩
      have hll : ls.length = i := by rw [hls, List.length_map, List.length_take]; omega
      rw [← hls] at htk2 ⊢
      refine k5 ?_; refine k1 ?_; refine k2 ?_; refine k3 ?_; refine k2 ?_
      refine c_region ?_; refine l_neu (n_indexAddr rfl (.pure _ _ _ _) rfl (by omega) hv2) rfl ?_; refine l_neu (n_loads_eref rfl rfl) rfl ?_; refine l_effv (f_alloc 10 rfl) rfl ?_; refine l_eff (e_store_ref TySz.out rfl rfl rfl rfl rfl rfl) ?_; refine l_nil ?_
      refine k1 ?_
      refine c_region_draw (by kernel_rfl) (by kernel_rfl) ?_; refine d_neu (n_field_ref rfl) rfl rfl ?_; refine d_neu (n_load_ref rfl rfl rfl) rfl rfl ?_; refine d_neu (n_field_ref rfl) rfl rfl ?_; refine d_neu (n_load_ref rfl rfl rfl) rfl rfl ?_; refine d_neu (n_call1 (swapped_ok q.Kind) rfl rfl) rfl rfl ?_; refine d_neu (n_field_ref rfl) rfl rfl ?_; refine d_neu (n_load_ref rfl rfl rfl) rfl rfl ?_; refine d_neu (n_build rfl) rfl rfl ?_; refine d_neu (n_buildSlice (c := plineC) (ys := [revL q]) (asm_cons rfl rfl rfl rfl asm_nil) rfl rfl rfl) rfl rfl ?_; refine d_effv (e_append rfl rfl rfl (.pure _ _ _ _) (by (simp only [List.length_cons, List.length_nil]; omega)) rfl) rfl rfl ?_; refine d_neu (n_field_ref rfl) rfl rfl ?_; refine d_eff (e_store_ref TySz.out rfl rfl rfl rfl rfl rfl) rfl ?_; refine d_nil ?_
      refine k4 ?_; refine k1 ?_
      refine c_region ?_; refine l_neu (n_add rfl rfl (by omega)) rfl ?_; refine l_neu (n_move rfl rfl) rfl ?_; refine l_nil ?_
      refine k1 ?_
      refine ⟨i + 1, by omega, by omega, ?_⟩
      rw [htk2]
      exact Sees.of ⟨le1 rfl, le1 rfl, le1 rfl, le1 rfl, le1 rfl, le1 rfl, le1 rfl, le1 rfl, le1 rfl, trivial⟩ ⟨rfl, rfl, rfl, rfl, rfl, trivial⟩
    · have hi' : i = h.Lines.length := by have := of_decide_eq_false ht; omega
      rw [show (h.Lines.take i).map revL = h.Lines.map revL by rw [hi', List.take_length]]
      refine k6 ?_; refine k7 ?_; refine k7 ?_; refine k8 rfl ?_; refine k1 ?_
      refine c_region ?_; refine l_neu (n_field_ref rfl) rfl ?_; refine l_neu (n_load_ref rfl rfl rfl) rfl ?_; refine l_neu (n_loads_ref rfl rfl rfl) rfl ?_; refine l_neu (n_buildSlice (c := phunkC) (ys := [revH h]) (asm_cons rfl rfl rfl rfl asm_nil) rfl rfl rfl) rfl ?_; refine l_effv (e_append rfl rfl rfl (.pure _ _ _ _) (by (simp only [List.length_cons, List.length_nil]; omega)) rfl) rfl ?_; refine l_neu (n_field_ref rfl) rfl ?_; refine l_eff (e_store_ref TySz.out rfl rfl rfl rfl rfl rfl) ?_; refine l_nil ?_
      refine k4 ?_; refine k1 ?_
      refine c_region ?_; refine l_neu (n_add rfl rfl (by omega)) rfl ?_; refine l_neu (n_move rfl rfl) rfl ?_; refine l_nil ?_
      refine k1 ?_
      refine ⟨k + 1, by omega, by omega, ?_⟩
      rw [htk]
      exact Sees.of ⟨le1 rfl, le1 rfl, le1 rfl, le1 rfl, le1 rfl, trivial⟩ ⟨rfl, rfl, rfl, trivial⟩
  · have hk' : k = p.Hunks.length := by have := of_decide_eq_false ht; omega
    rw [show (p.Hunks.take k).map revH = p.Hunks.map revH by rw [hk', List.take_length]]
    refine k6 ?_; refine k2 ?_
    refine c_region ?_; refine l_neu (n_loads_ref rfl rfl rfl) rfl ?_; refine l_eff (e_store_ref TySz.out rfl rfl rfl rfl rfl rfl) ?_; refine l_neu (n_assign rfl rfl) rfl ?_; refine l_nil ?_
    refine k1 ?_; refine k10 ?_
    exact ret_ret (rs := [pPatch (revP p), pInt 0]) (retc2 rfl rfl rfl rfl rfl rfl rfl) (by rw [hf0])
end Go.Proofs.YtbiadkkamhpdnaaGreatDoor
namespace Go.Proofs.YtbiadkkamhpdnaaGreatDoor
open Go Go.AL
set_option maxRecDepth 100000
end Go.Proofs.YtbiadkkamhpdnaaGreatDoor
namespace Go.Proofs.YtbiadkkamhpdnaaGreatDoor
open Go Go.AL
set_option maxRecDepth 100000
end Go.Proofs.YtbiadkkamhpdnaaGreatDoor
namespace Go.Proofs.YtbiadkkamhpdnaaGreatDoor
open Go Go.AL
set_option maxRecDepth 100000
end Go.Proofs.YtbiadkkamhpdnaaGreatDoor
namespace Go.Proofs.YtbiadkkamhpdnaaGreatDoor
open Go Go.AL
set_option maxRecDepth 100000
end Go.Proofs.YtbiadkkamhpdnaaGreatDoor
namespace Go.Proofs.YtbiadkkamhpdnaaGreatDoor
open Go Go.AL
set_option maxRecDepth 100000
end Go.Proofs.YtbiadkkamhpdnaaGreatDoor
namespace Go.Proofs.YtbiadkkamhpdnaaGreatDoor
open Go Go.AL
set_option maxRecDepth 100000
end Go.Proofs.YtbiadkkamhpdnaaGreatDoor
namespace Go.Proofs.YtbiadkkamhpdnaaGreatDoor
open Go Go.AL
set_option maxRecDepth 100000
end Go.Proofs.YtbiadkkamhpdnaaGreatDoor
