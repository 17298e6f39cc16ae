/- Walks of the program's functions. -/
import Derived.Test.YtbiadkkamhpdnaaGreatDoorFe
import Derived.Test.YtbiadkkamhpdnaaGreatDoorFs
import Derived.Test.YtbiadkkamhpdnaaGreatDoorFa
import Derived.Test.YtbiadkkamhpdnaaGreatDoorFb
import Derived.Test.YtbiadkkamhpdnaaGreatDoorFd
import Derived.Test.YtbiadkkamhpdnaaGreatDoorFc
set_option linter.unusedSimpArgs false
namespace Go.Proofs.YtbiadkkamhpdnaaGreatDoor
open Go Go.AL
set_option maxRecDepth 100000
theorem repeatL_one (c : UInt8) : ∀ n : Nat, Lib.repeatL [c] n = List.replicate n c
  | 0 => rfl
  | n + 1 => by rw [Lib.repeatL, repeatL_one c n]; rfl
theorem repeat_ok (c : UInt8) (n : Nat) (hn : n ≤ 1048576) : FnOk Tryz.prog 150 [pStr [c], pInt n] (fun rs => rs = [pStr (List.replicate n c)]) :=
  FnOk.ofPlainG (xs := [.string ⟨#[c]⟩, .int .i64 n]) (r := .string ⟨(List.replicate n c).toArray⟩) ⟨_, rfl, rfl, rfl⟩ rfl fun w _ => by
    have := Tryz.strings_Repeat ⟨#[c]⟩ n w (by omega) (by show 1 * n ≤ _; omega)
    have e : Lib.repeatL (⟨#[c]⟩ : ByteArray).data.toList n = List.replicate n c := repeatL_one c n
    rw [e] at this
    exact this
end Go.Proofs.YtbiadkkamhpdnaaGreatDoor
namespace Go.Proofs.YtbiadkkamhpdnaaGreatDoor
open Go Go.AL
set_option maxRecDepth 100000
abbrev cBox (c : Comb) : Ob := .box (pComb c).s1.cells
theorem ccounts_new (rows : List Row) (n : Nat) (hn : n ≤ 32) (hr : rowsIn rows) (hl : rows.length ≤ 268435456) :
    AL.Met Tryz.prog 149 [(pRows rows).s1, (pInt n).s1] [] [] [] (fun rs ob' => rs = [.one (.mut 720)] ∧ ob' = [(720, .arr Int 1 intC (countsC rows n))]) := by
  have e0 : ((n : Int) + 1).toNat = n + 1 := by omega
  refine AL.Met.intro Tryz.func149 (by decide) rfl rfl rfl ?_
  refine k2 ?_
  refine c_region ?_; refine l_neu (n_assign rfl rfl) rfl ?_; refine l_nil ?_
  refine k1 ?_; refine k2 ?_
  refine c_region ?_; refine l_neu (n_move rfl rfl) rfl ?_; refine l_neu (n_add rfl rfl (by omega)) rfl ?_; refine l_effv (f_makeZ 720 Int intC 0 rfl rfl (by omega) (by omega) (fun _ => by first | exact ⟨⟨rfl, rfl⟩, trivial⟩ | exact ⟨rep_nil _ _ _, trivial⟩) (by first | rfl | (simp [frFree, obFree, Ob.free, SV.free, S1.free, TC.free] <;> rfl))) rfl ?_; refine l_neu (n_assign rfl rfl) rfl ?_; refine l_nil ?_
  rw [e0, ← cntAt_zero rows n]
  refine k1 ?_; refine k2 ?_; refine k2 ?_
  refine c_region ?_; refine l_neu (n_move rfl rfl) rfl ?_; refine l_neu (n_len rfl (.pure _ _ _ _)) rfl ?_; refine l_neu (n_move rfl rfl) rfl ?_; refine l_nil ?_
  refine k1 ?_; refine k3 ?_
  refine c_while (X := Nat) (fun i => ([(1, sInt n), (5, .s (.one (.mut 720))), (12, sList Row 3 rowC rows), (13, sInt rows.length), (14, sInt i)], [(720, .arr Int 1 intC (cntAt rows n i 0))])) (fun i => i ≤ rows.length) (fun i => rows.length - i) 0 (Nat.zero_le _) (Sees.of ⟨le1 rfl, le1 rfl, le1 rfl, le1 rfl, le1 rfl, trivial⟩ ⟨rfl, trivial⟩) ?_
  intro i hi
  dsimp only at hi ⊢
  refine k2 ?_
  refine c_region ?_; refine l_neu (n_lss rfl rfl) rfl ?_; refine l_nil ?_
  refine k1 ?_; refine k2 ?_
  refine c_cond rfl (fun ht => ?_) (fun ht => ?_)
  · have hlt : i < rows.length := by have := of_decide_eq_true ht; omega
    have hv : rows[i]? = some rows[i] := by simp [hlt]
    have hrow := hr _ (List.getElem_mem hlt)
    have hstep := fun p => cntAt_step rows n i p hlt
    obtain ⟨r, hrr⟩ : ∃ r, r = rows[i] := ⟨_, rfl⟩
    rw [← hrr] at hv hrow hstep
    have hcl := fun k => cnt_le (rows.take i) n k
    have htl : (rows.take i).length = i := by rw [List.length_take]; omega
    rw [htl] at hcl
    refine k5 ?_; refine k1 ?_; refine k2 ?_; refine k3 ?_; refine k2 ?_
    refine c_region ?_; refine l_neu (n_indexAddr rfl (.pure _ _ _ _) rfl (by omega) hv) rfl ?_; refine l_neu (n_loads_eref rfl rfl) rfl ?_; refine l_effv (f_alloc 7 rfl) rfl ?_; refine l_eff (e_store_ref TySz.out rfl rfl rfl rfl rfl rfl) ?_; refine l_nil ?_
    refine k1 ?_; refine k2 ?_; refine k2 ?_
    refine c_region ?_; refine l_neu (n_move rfl rfl) rfl ?_; refine l_neu (n_move rfl rfl) rfl ?_; refine l_nil ?_
    refine k1 ?_; refine k3 ?_
    refine c_while (X := Nat) (fun p => ([(1, sInt n), (5, .s (.one (.mut 720))), (7, .s (.one (.ref 7 0))), (12, sList Row 3 rowC rows), (13, sInt rows.length), (14, sInt i), (18, sInt n), (19, sInt p)], [(7, .box (pRow r).s1.cells), (720, .arr Int 1 intC (cntAt rows n i p))])) (fun p => p ≤ n) (fun p => n - p) 0 (Nat.zero_le _) (Sees.of ⟨le1 rfl, le1 rfl, le1 rfl, le1 rfl, le1 rfl, le1 rfl, le1 rfl, le1 rfl, trivial⟩ ⟨rfl, rfl, trivial⟩) ?_
    intro p hp
    dsimp only at hp ⊢
    have hlen := cntAt_len rows n i p
    have hget := cntAt_get rows n i p (by omega)
    have hcp := hcl p
    refine k2 ?_
    refine c_region ?_; refine l_neu (n_lss rfl rfl) rfl ?_; refine l_nil ?_
    refine k1 ?_; refine k2 ?_
    refine c_cond rfl (fun ht => ?_) (fun ht => ?_)
    · have hlt2 : p < n := by have := of_decide_eq_true ht; omega
      have hst := hstep p (by omega)
      rw [show colNum n p = (p : Int) by unfold colNum; rw [if_neg (by omega)]] at hst
      refine k5 ?_; refine k1 ?_; refine k2 ?_; refine k3 ?_; refine k2 ?_
      refine c_region ?_; refine l_neu (n_move rfl rfl) rfl ?_; refine l_neu (n_assign rfl rfl) rfl ?_; refine l_nil ?_
      refine k1 ?_; refine k2 ?_
      refine c_region ?_; refine l_neu (n_loads_ref rfl rfl rfl) rfl ?_; refine l_neu (n_move rfl rfl) rfl ?_; refine l_call (wvisible_ok r p hrow) rfl rfl rfl ?_; rintro _ rfl; refine l_nil ?_
      refine k1 ?_
      refine c_cond rfl (fun ht => ?_) (fun ht => ?_)
      · rw [if_pos ht] at hst
        skip
        refine c_region ?_; refine l_neu (n_move rfl rfl) rfl ?_; refine l_neu (n_move rfl rfl) rfl ?_; refine l_neu (n_indexAddr_mut rfl rfl rfl (by omega) (by (rw [hlen]; omega))) rfl ?_; refine l_neu (n_load_mref rfl rfl hget rfl) rfl ?_; refine l_neu (n_add rfl rfl (by omega)) rfl ?_; refine l_neu (n_indexAddr_mut rfl rfl rfl (by omega) (by (rw [hlen]; omega))) rfl ?_; refine l_eff (e_store_mref1 TySz.out rfl rfl (by (rw [hlen]; omega)) rfl rfl) ?_; refine l_nil ?_
        refine k4 ?_; refine k1 ?_
        refine c_region ?_; refine l_neu (n_add rfl rfl (by omega)) rfl ?_; refine l_neu (n_move rfl rfl) rfl ?_; refine l_nil ?_
        refine k1 ?_
        refine ⟨p + 1, by omega, by omega, ?_⟩
        rw [hst]
        exact Sees.of ⟨le1 rfl, le1 rfl, le1 rfl, le1 rfl, le1 rfl, le1 rfl, le1 rfl, le1 rfl, trivial⟩ ⟨rfl, rfl, trivial⟩
      · rw [if_neg (by rw [ht]; decide)] at hst
        refine k5 ?_; refine k4 ?_; refine k1 ?_
        refine c_region ?_; refine l_neu (n_add rfl rfl (by omega)) rfl ?_; refine l_neu (n_move rfl rfl) rfl ?_; refine l_nil ?_
        refine k1 ?_
        refine ⟨p + 1, by omega, by omega, ?_⟩
        rw [hst]
        exact Sees.of ⟨le1 rfl, le1 rfl, le1 rfl, le1 rfl, le1 rfl, le1 rfl, le1 rfl, le1 rfl, trivial⟩ ⟨rfl, rfl, trivial⟩
    · have hpn : p = n := by have := of_decide_eq_false ht; omega
      subst hpn
      have hst := hstep p (by omega)
      have hvis : visB r (colNum p p) = !r.Lost := by unfold colNum visB; rw [if_pos rfl, if_pos rfl]
      rw [hvis, cntAt_next] at hst
      refine k6 ?_; refine k2 ?_
      refine c_region ?_; refine l_neu (n_field_ref rfl) rfl ?_; refine l_neu (n_load_ref rfl rfl rfl) rfl ?_; refine l_neu (n_not rfl) rfl ?_; refine l_nil ?_
      refine k1 ?_
      refine c_cond rfl (fun ht => ?_) (fun ht => ?_)
      · rw [if_pos ht] at hst
        skip
        refine c_region ?_; refine l_neu (n_move rfl rfl) rfl ?_; refine l_neu (n_move rfl rfl) rfl ?_; refine l_neu (n_indexAddr_mut rfl rfl rfl (by omega) (by (rw [hlen]; omega))) rfl ?_; refine l_neu (n_load_mref rfl rfl hget rfl) rfl ?_; refine l_neu (n_add rfl rfl (by omega)) rfl ?_; refine l_neu (n_indexAddr_mut rfl rfl rfl (by omega) (by (rw [hlen]; omega))) rfl ?_; refine l_eff (e_store_mref1 TySz.out rfl rfl (by (rw [hlen]; omega)) rfl rfl) ?_; refine l_nil ?_
        refine k4 ?_; refine k1 ?_
        refine c_region ?_; refine l_neu (n_add rfl rfl (by omega)) rfl ?_; refine l_neu (n_move rfl rfl) rfl ?_; refine l_nil ?_
        refine k1 ?_
        refine ⟨i + 1, by omega, by omega, ?_⟩
        rw [hst]
        exact Sees.of ⟨le1 rfl, le1 rfl, le1 rfl, le1 rfl, le1 rfl, trivial⟩ ⟨rfl, trivial⟩
      · rw [if_neg (by rw [ht]; decide)] at hst
        refine k5 ?_; refine k4 ?_; refine k1 ?_
        refine c_region ?_; refine l_neu (n_add rfl rfl (by omega)) rfl ?_; refine l_neu (n_move rfl rfl) rfl ?_; refine l_nil ?_
        refine k1 ?_
        refine ⟨i + 1, by omega, by omega, ?_⟩
        rw [hst]
        exact Sees.of ⟨le1 rfl, le1 rfl, le1 rfl, le1 rfl, le1 rfl, trivial⟩ ⟨rfl, trivial⟩
  · have hil : i = rows.length := by have := of_decide_eq_false ht; omega
    subst hil
    rw [cntAt_full]
    refine k6 ?_; refine k2 ?_
    refine c_region ?_; refine l_neu (n_move rfl rfl) rfl ?_; refine l_neu (n_assign rfl rfl) rfl ?_; refine l_nil ?_
    refine k1 ?_; refine k10 ?_
    exact met_ret (rets1 rfl rfl) (by repeat (first | exact tail_refl | refine tail_cons rfl ?_ | refine tail_forget _ ?_)) (ObIn.spec (ob' := [(720, _)]) ⟨rfl, trivial⟩) ⟨rfl, rfl⟩
theorem cmarked_ok (c : Comb) (hn : 1 ≤ c.Parents ∧ c.Parents ≤ 32) (hr : ∀ h ∈ c.Hunks, rowsIn h.Rows) (hz : szC c.Hunks ≤ 268435456) : FnOk Tryz.prog 92 [pComb c] (fun rs => rs = [pBool (marksC c.Parents.toNat c.Hunks)]) := by
  obtain ⟨n, hN⟩ : ∃ n, n = c.Parents.toNat := ⟨_, rfl⟩
  rw [← hN]
  have hzl := szC_len c.Hunks
  refine FnOk.intro Tryz.func92 (by decide) rfl rfl rfl rfl ?_
  refine k2 ?_
  refine c_region ?_; refine l_effv (f_box 1 rfl rfl rfl) rfl ?_; refine l_neu (n_assign rfl rfl) rfl ?_; refine l_nil ?_
  refine k1 ?_; refine k2 ?_; refine k2 ?_
  refine c_region ?_; refine l_neu (n_field_ref rfl) rfl ?_; refine l_neu (n_load_ref rfl rfl rfl) rfl ?_; refine l_neu (n_len rfl (.pure _ _ _ _)) rfl ?_; refine l_neu (n_move rfl rfl) rfl ?_; refine l_nil ?_
  refine k1 ?_; refine k3 ?_
  refine c_while (X := Nat) (fun k => ([(1, .s (.one (.ref 1 0))), (8, sList CHunk 2 chunkC c.Hunks), (9, sInt c.Hunks.length), (10, sInt k)], [(1, cBox c)])) (fun k => k ≤ c.Hunks.length ∧ marksC n c.Hunks = marksC n (c.Hunks.drop k)) (fun k => c.Hunks.length - k) 0 ⟨Nat.zero_le _, rfl⟩ (Sees.of ⟨le1 rfl, le1 rfl, le1 rfl, le1 rfl, trivial⟩ ⟨rfl, trivial⟩) ?_
  rintro k ⟨hk, hp⟩
  dsimp only at hk hp ⊢
  refine k2 ?_
  refine c_region ?_; refine l_neu (n_lss rfl rfl) rfl ?_; refine l_nil ?_
  refine k1 ?_; refine k2 ?_
  refine c_cond rfl (fun ht => ?_) (fun ht => ?_)
  · have hlt : k < c.Hunks.length := by have := of_decide_eq_true ht; omega
    have hv : c.Hunks[k]? = some c.Hunks[k] := by simp [hlt]
    have hrw := hr _ (List.getElem_mem hlt)
    have hzm := szC_mem (List.getElem_mem hlt)
    rw [List.drop_eq_getElem_cons hlt] at hp
    obtain ⟨h, hx⟩ : ∃ x, x = c.Hunks[k] := ⟨_, rfl⟩
    rw [← hx] at hv hrw hp hzm
    have hz1 := szRow_len h.Rows
    unfold szCh at hzm
    have hp : marksC n c.Hunks = (marksOk h.Rows n && marksC n (c.Hunks.drop (k + 1))) := hp
    refine k5 ?_; refine k1 ?_; refine k2 ?_; refine k3 ?_; refine k2 ?_
    refine c_region ?_; refine l_neu (n_indexAddr rfl (.pure _ _ _ _) rfl (by omega) hv) rfl ?_; refine l_neu (n_loads_eref rfl rfl) rfl ?_; refine l_effv (f_alloc 4 rfl) rfl ?_; refine l_eff (e_store_ref TySz.out rfl rfl rfl rfl rfl rfl) ?_; refine l_nil ?_
    refine k1 ?_; refine k2 ?_
    refine c_region ?_; refine l_neu (n_field_ref rfl) rfl ?_; refine l_neu (n_load_ref rfl rfl rfl) rfl ?_; refine l_neu (n_len rfl (.pure _ _ _ _)) rfl ?_; refine l_neu (n_move rfl rfl) rfl ?_; refine l_nil ?_
    refine k1 ?_; refine k3 ?_
    refine c_while (X := Nat) (fun j => ([(1, .s (.one (.ref 1 0))), (8, sList CHunk 2 chunkC c.Hunks), (9, sInt c.Hunks.length), (10, sInt k), (15, sList Row 3 rowC h.Rows), (16, sInt h.Rows.length), (17, sInt j)], [(1, cBox c)])) (fun j => j ≤ h.Rows.length ∧ marksOk h.Rows n = marksOk (h.Rows.drop j) n) (fun j => h.Rows.length - j) 0 ⟨Nat.zero_le _, rfl⟩ (Sees.of ⟨le1 rfl, le1 rfl, le1 rfl, le1 rfl, le1 rfl, le1 rfl, le1 rfl, trivial⟩ ⟨rfl, trivial⟩) ?_
    rintro j ⟨hj, hq⟩
    dsimp only at hj hq ⊢
    refine k2 ?_
    refine c_region ?_; refine l_neu (n_lss rfl rfl) rfl ?_; refine l_nil ?_
    refine k1 ?_; refine k2 ?_
    refine c_cond rfl (fun ht => ?_) (fun ht => ?_)
    · have hlt2 : j < h.Rows.length := by have := of_decide_eq_true ht; omega
      have hv2 : h.Rows[j]? = some h.Rows[j] := by simp [hlt2]
      have hm := hrw _ (List.getElem_mem hlt2)
      rw [List.drop_eq_getElem_cons hlt2, marksOk_cons] at hq
      obtain ⟨r, hy⟩ : ∃ x, x = h.Rows[j] := ⟨_, rfl⟩
      rw [← hy] at hv2 hm hq
      have hw := wmarked_ok r c.Parents hn hm
      rw [← hN] at hw
      refine k5 ?_; refine k1 ?_; refine k2 ?_; refine k3 ?_; refine k2 ?_
      refine c_region ?_; refine l_neu (n_indexAddr rfl (.pure _ _ _ _) rfl (by omega) hv2) rfl ?_; refine l_neu (n_loads_eref rfl rfl) rfl ?_; refine l_effv (f_alloc 6 rfl) rfl ?_; refine l_eff (e_store_ref TySz.out rfl rfl rfl rfl rfl rfl) ?_; refine l_nil ?_
      refine k1 ?_; refine k2 ?_
      refine c_region ?_; refine l_neu (n_loads_ref rfl rfl rfl) rfl ?_; refine l_neu (n_field_ref rfl) rfl ?_; refine l_neu (n_load_ref rfl rfl rfl) rfl ?_; refine l_call (hw) rfl rfl rfl ?_; rintro _ rfl; refine l_neu (n_not rfl) rfl ?_; refine l_nil ?_
      refine k1 ?_
      refine c_cond rfl (fun ht => ?_) (fun ht => ?_)
      · have h2 : markOk n r = false := by simpa using ht
        rw [h2, Bool.false_and] at hq
        rw [hq, Bool.false_and] at hp
        refine k2 ?_
        refine c_region ?_; refine l_neu (n_assign rfl rfl) rfl ?_; refine l_nil ?_
        refine k1 ?_; refine k10 ?_; refine k12 ?_; refine k11 ?_; refine k11 ?_; refine k12 ?_; refine k12 ?_; refine k11 ?_; refine k11 ?_; refine k12 ?_; refine k11 ?_
        exact ret_ret (ret1 rfl rfl rfl) (by rw [hp])
      · have h2 : markOk n r = true := by simpa using ht
        rw [h2, Bool.true_and] at hq
        refine k5 ?_; refine k4 ?_; refine k1 ?_
        refine c_region ?_; refine l_neu (n_add rfl rfl (by omega)) rfl ?_; refine l_neu (n_move rfl rfl) rfl ?_; refine l_nil ?_
        refine k1 ?_
        exact ⟨j + 1, ⟨by omega, hq⟩, by omega, Sees.of ⟨le1 rfl, le1 rfl, le1 rfl, le1 rfl, le1 rfl, le1 rfl, le1 rfl, trivial⟩ ⟨rfl, trivial⟩⟩
    · have hjl : j = h.Rows.length := by have := of_decide_eq_false ht; omega
      rw [hjl, List.drop_eq_nil_of_le (Nat.le_refl _)] at hq
      have hq : marksOk h.Rows n = true := hq
      rw [hq, Bool.true_and] at hp
      refine k6 ?_; refine k7 ?_; refine k7 ?_; refine k8 rfl ?_; refine k4 ?_; refine k1 ?_
      refine c_region ?_; refine l_neu (n_add rfl rfl (by omega)) rfl ?_; refine l_neu (n_move rfl rfl) rfl ?_; refine l_nil ?_
      refine k1 ?_
      exact ⟨k + 1, ⟨by omega, hp⟩, by omega, Sees.of ⟨le1 rfl, le1 rfl, le1 rfl, le1 rfl, trivial⟩ ⟨rfl, trivial⟩⟩
  · have hkl : k = c.Hunks.length := by have := of_decide_eq_false ht; omega
    rw [hkl, List.drop_eq_nil_of_le (Nat.le_refl _)] at hp
    refine k6 ?_; refine k2 ?_
    refine c_region ?_; refine l_neu (n_assign rfl rfl) rfl ?_; refine l_nil ?_
    refine k1 ?_; refine k10 ?_
    exact ret_ret (ret1 rfl rfl rfl) (by rw [hp]; rfl)
theorem cfollows_ok (h : CHunk) (n : Nat) (ends : List Int) (hn : n ≤ 32) (hr : rowsIn h.Rows) (hl : h.Rows.length ≤ 268435456) (he : ends.length = n + 1) (he0 : ∀ e ∈ ends, 0 ≤ e) :
    FnOk Tryz.prog 156 [pChunk h, pInt n, pInts ends] (fun rs => rs = if followsB n ends h = true then [pInts (endsTo n h), pBool true] else [pInts [], pBool false]) := by
  have hnot : ∀ {Q : Prop}, (followsB n ends h = true → False) → (if followsB n ends h = true then [pInts (endsTo n h), pBool true] else [pInts [], pBool false]) = [pInts [], pBool false] := fun hq => if_neg hq
  have hF := follows_iff n ends h
  refine FnOk.intro Tryz.func156 (by decide) rfl rfl rfl rfl ?_
  refine k2 ?_
  refine c_region ?_; refine l_effv (f_box 3 rfl rfl rfl) rfl ?_; refine l_neu (n_assign rfl rfl) rfl ?_; refine l_neu (n_assign rfl rfl) rfl ?_; refine l_nil ?_
  refine k1 ?_; refine k2 ?_; refine k2 ?_
  refine c_region ?_; refine l_neu (n_field_ref rfl) rfl ?_; refine l_neu (n_load_ref rfl rfl rfl) rfl ?_; refine l_neu (n_len rfl (.pure _ _ _ _)) rfl ?_; refine l_neu (n_move rfl rfl) rfl ?_; refine l_neu (n_add rfl rfl (by omega)) rfl ?_; refine l_neu (n_neq rfl rfl) rfl ?_; refine l_neu (n_move rfl rfl) rfl ?_; refine l_guard rfl rfl rfl rfl (fun hg => by rw [hg]; exact n_field_ref rfl) ?_; refine l_guard rfl rfl rfl rfl (fun hg => by rw [hg]; exact n_load_ref rfl rfl rfl) ?_; refine l_guard rfl rfl rfl rfl (fun hg => by rw [hg]; exact n_len rfl (.pure _ _ _ _)) ?_; refine l_guard rfl rfl rfl rfl (fun hg => by rw [hg]; exact n_eql rfl rfl) ?_; refine l_neu (n_pick_bool rfl (fun h => by first | rfl | (rw [h]; rfl)) (fun h => by first | rfl | (rw [h]; rfl))) rfl ?_; refine l_nil ?_
  refine k1 ?_
  refine c_cond rfl (fun ht => ?_) (fun ht => ?_)
  · have h1 := of_decide_eq_true (or_pick.symm.trans ht)
    refine k2 ?_
    refine c_region ?_; refine l_neu (n_assign_nil _ 1 intC) rfl ?_; refine l_neu (n_assign rfl rfl) rfl ?_; refine l_nil ?_
    refine k1 ?_; refine k10 ?_; refine k11 ?_
    refine ret_ret (rs := [pInts [], pBool false]) (ret2 rfl rfl rfl rfl rfl) ?_
    rw [if_neg]
    intro hq
    have h2 := (hF.1 hq).1
    rcases h1 with h1 | h1
    · omega
    · exact h2.2 (List.length_eq_zero_iff.1 (by omega))
  · have h1 := of_decide_eq_false (or_pick.symm.trans ht)
    simp only [not_or, Decidable.not_not] at h1
    have hal : h.At.length = n + 1 := by omega
    have hne : h.Rows ≠ [] := fun e => h1.2 (by rw [e]; rfl)
    refine c_cut [(1, sInt n), (2, sList Int 1 intC ends), (3, .s (.one (.ref 3 0)))] [(3, .box (pChunk h).s1.cells)] (Sees.of ⟨le1 rfl, le1 rfl, le1 rfl, trivial⟩ ⟨rfl, trivial⟩) ?_
    refine k5 ?_; refine k1 ?_; refine k2 ?_
    refine c_region ?_; refine l_neu (n_field_ref rfl) rfl ?_; refine l_neu (n_load_ref rfl rfl rfl) rfl ?_; refine l_neu (n_move rfl rfl) rfl ?_; refine l_new (ccounts_new h.Rows n hn hr hl) rfl rfl rfl rfl ?_; rintro _ _ ⟨rfl, rfl⟩; refine ⟨rfl, ?_⟩; refine l_neu (n_assign rfl rfl) rfl ?_; refine l_nil ?_
    refine k1 ?_; refine k2 ?_; refine k2 ?_
    refine c_region ?_; refine l_neu (n_field_ref rfl) rfl ?_; refine l_neu (n_load_ref rfl rfl rfl) rfl ?_; refine l_neu (n_len rfl (.pure _ _ _ _)) rfl ?_; refine l_neu (n_move rfl rfl) rfl ?_; refine l_nil ?_
    refine k1 ?_; refine k3 ?_
    refine c_while (X := Nat) (fun k => ([(2, sList Int 1 intC ends), (8, .s (.one (.mut 720))), (28, sList Int 1 intC h.At), (29, sInt h.At.length), (30, sInt k)], [(720, .arr Int 1 intC (nextAt n h k))])) (fun k => k ≤ h.At.length ∧ ∀ j, j < k → ends.getD j 0 ≤ h.At.getD j 0 ∧ h.At.getD j 0 ≤ 4096) (fun k => h.At.length - k) 0 ⟨Nat.zero_le _, fun j hj => by omega⟩ (by rw [nextAt_zero]; exact Sees.of ⟨le1 rfl, le1 rfl, le1 rfl, le1 rfl, le1 rfl, trivial⟩ ⟨rfl, trivial⟩) ?_
    rintro k ⟨hk, hp⟩
    dsimp only at hk hp ⊢
    have hlen := nextAt_len n h k
    refine k2 ?_
    refine c_region ?_; refine l_neu (n_lss rfl rfl) rfl ?_; refine l_nil ?_
    refine k1 ?_; refine k2 ?_
    refine c_cond rfl (fun ht => ?_) (fun ht => ?_)
    · have hlt : k < h.At.length := by have := of_decide_eq_true ht; omega
      have hv := getI hlt
      have hve := getI (l := ends) (i := k) (by omega)
      have hget := nextAt_get n h k (by omega)
      have hset := nextAt_set n h k
      have hek : 0 ≤ ends.getD k 0 := he0 _ (List.mem_of_getElem? hve)
      have hcl := cnt_le h.Rows n k
      obtain ⟨a, ha⟩ : ∃ a, a = h.At.getD k 0 := ⟨_, rfl⟩
      obtain ⟨e, hee⟩ : ∃ e, e = ends.getD k 0 := ⟨_, rfl⟩
      obtain ⟨q, hqq⟩ : ∃ q, q = cntC h.Rows n k := ⟨_, rfl⟩
      rw [← ha] at hv hset
      rw [← hee] at hve hek
      rw [← hqq] at hget hset hcl
      refine k5 ?_; refine k1 ?_; refine k2 ?_; refine k3 ?_; refine k2 ?_
      refine c_region ?_; refine l_neu (n_move rfl rfl) rfl ?_; refine l_neu (n_indexAddr rfl (.pure _ _ _ _) rfl (by omega) hv) rfl ?_; refine l_neu (n_load_eref rfl rfl) rfl ?_; refine l_neu (n_assign rfl rfl) rfl ?_; refine l_neu (n_assign rfl rfl) rfl ?_; refine l_nil ?_
      refine k1 ?_; refine k2 ?_; refine k2 ?_
      refine c_region ?_; refine l_neu (n_move rfl rfl) rfl ?_; refine l_neu (n_move rfl rfl) rfl ?_; refine l_neu (n_move rfl rfl) rfl ?_; refine l_neu (n_indexAddr rfl (.pure _ _ _ _) rfl (by omega) hve) rfl ?_; refine l_neu (n_load_eref rfl rfl) rfl ?_; refine l_neu (n_lss rfl rfl) rfl ?_; refine l_neu (n_move rfl rfl) rfl ?_; refine l_guard rfl rfl rfl rfl (fun hg => by rw [hg]; exact n_move rfl rfl) ?_; refine l_guard rfl rfl rfl rfl (fun hg => by rw [hg]; exact n_gtr rfl rfl) ?_; refine l_neu (n_pick_bool rfl (fun h => by first | rfl | (rw [h]; rfl)) (fun h => by first | rfl | (rw [h]; rfl))) rfl ?_; refine l_nil ?_
      refine k1 ?_
      refine c_cond rfl (fun ht => ?_) (fun ht => ?_)
      · have h2 := of_decide_eq_true (or_pick.symm.trans ht)
        refine k2 ?_
        refine c_region ?_; refine l_neu (n_assign_nil _ 1 intC) rfl ?_; refine l_neu (n_assign rfl rfl) rfl ?_; refine l_nil ?_
        refine k1 ?_; refine k10 ?_; refine k11 ?_; refine k12 ?_; refine k11 ?_; refine k11 ?_; refine k12 ?_; refine k11 ?_
        refine ret_ret (rs := [pInts [], pBool false]) (ret2 rfl rfl rfl rfl rfl) ?_
        rw [if_neg]
        intro hq
        have h3 := (hF.1 hq).2 k (by omega)
        rw [← ha, ← hee] at h3
        omega
      · have h2 := of_decide_eq_false (or_pick.symm.trans ht)
        have h3 : e ≤ a ∧ a ≤ 4096 := by omega
        refine k5 ?_; refine k1 ?_
        refine c_region ?_; refine l_neu (n_move rfl rfl) rfl ?_; refine l_neu (n_move rfl rfl) rfl ?_; refine l_neu (n_indexAddr_mut rfl rfl rfl (by omega) (by (rw [hlen]; omega))) rfl ?_; refine l_neu (n_load_mref rfl rfl hget rfl) rfl ?_; refine l_neu (n_move rfl rfl) rfl ?_; refine l_neu (n_add rfl rfl (by omega)) rfl ?_; refine l_neu (n_indexAddr_mut rfl rfl rfl (by omega) (by (rw [hlen]; omega))) rfl ?_; refine l_eff (e_store_mref1 TySz.out rfl rfl (by (rw [hlen]; omega)) rfl rfl) ?_; refine l_nil ?_
        refine k4 ?_; refine k1 ?_
        refine c_region ?_; refine l_neu (n_add rfl rfl (by omega)) rfl ?_; refine l_neu (n_move rfl rfl) rfl ?_; refine l_nil ?_
        refine k1 ?_
        refine ⟨k + 1, ⟨by omega, fun j hj => ?_⟩, by omega, ?_⟩
        · by_cases e1 : j = k
          · subst e1; rw [← ha, ← hee]; exact h3
          · exact hp j (by omega)
        · rw [← hset]
          exact Sees.of ⟨le1 rfl, le1 rfl, le1 rfl, le1 rfl, le1 rfl, trivial⟩ ⟨rfl, trivial⟩
    · have hkl : k = n + 1 := by have := of_decide_eq_false ht; omega
      subst hkl
      rw [nextAt_full]
      have hq : followsB n ends h = true := hF.2 ⟨⟨hal, hne⟩, hp⟩
      refine c_sees (Sees.freeze (k := 720) rfl) ?_
      refine k6 ?_; refine k2 ?_
      refine c_region ?_; refine l_neu (n_move rfl rfl) rfl ?_; refine l_neu (n_assign rfl rfl) rfl ?_; refine l_neu (n_assign rfl rfl) rfl ?_; refine l_nil ?_
      refine k1 ?_; refine k10 ?_
      exact ret_ret (rs := [pInts (endsTo n h), pBool true]) (ret2 rfl rfl rfl rfl rfl) (by rw [if_pos hq])
theorem smax_ok (l : List Int) (hl : 0 < l.length) : FnOk Tryz.prog 112 [pInts l] (fun rs => ∃ m, rs = [pInt m] ∧ ∀ b, m ≤ b ↔ ∀ e ∈ l, e ≤ b) := by
  refine FnOk.intro Tryz.func112 (by decide) rfl rfl rfl rfl ?_
  refine c_bound (t := 0) rfl (.pure _ _ _ _) fun hb => ?_
  refine k2 ?_
  refine c_region ?_; refine l_neu (n_assign rfl rfl) rfl ?_; refine l_nil ?_
  refine k1 ?_; refine k2 ?_; refine k2 ?_
  refine c_region ?_; refine l_neu (n_move rfl rfl) rfl ?_; refine l_neu (n_len rfl (.pure _ _ _ _)) rfl ?_; refine l_neu (n_lss rfl rfl) rfl ?_; refine l_nil ?_
  refine k1 ?_
  refine c_cond rfl (fun ht => ?_) (fun ht => ?_)
  · exact absurd (of_decide_eq_true ht) (by omega)
  refine k5 ?_; refine k1 ?_; refine k2 ?_
  refine c_region ?_; refine l_neu (n_move rfl rfl) rfl ?_; refine l_neu (n_indexAddr rfl (.pure _ _ _ _) rfl (by omega) (getI (l := l) (i := 0) hl)) rfl ?_; refine l_neu (n_load_eref rfl rfl) rfl ?_; refine l_neu (n_assign rfl rfl) rfl ?_; refine l_nil ?_
  refine k1 ?_; refine k2 ?_; refine k2 ?_
  refine c_region ?_; refine l_neu (n_assign rfl rfl) rfl ?_; refine l_nil ?_
  refine k1 ?_; refine k3 ?_
  refine c_while (X := Nat × Int) (fun x => ([(0, sList Int 1 intC l), (3, sInt x.2), (4, sInt x.1)], [])) (fun x => (1 ≤ x.1 ∧ x.1 ≤ l.length) ∧ ∀ b, x.2 ≤ b ↔ ∀ e ∈ l.take x.1, e ≤ b) (fun x => l.length - x.1) (1, l.getD 0 0) ⟨⟨Nat.le_refl _, hl⟩, ?_⟩ (Sees.of ⟨le1 rfl, le1 rfl, le1 rfl, trivial⟩ trivial) ?_
  · intro b
    have : l.take 1 = [l.getD 0 0] := by
      cases l with
      | nil => cases hl
      | cons x r => rfl
    dsimp only
    rw [this]; simp
  rintro ⟨k, m⟩ ⟨⟨hk1, hk⟩, hp⟩
  dsimp only at hk1 hk hp ⊢
  refine k2 ?_; refine k2 ?_
  refine c_region ?_; refine l_neu (n_move rfl rfl) rfl ?_; refine l_neu (n_move rfl rfl) rfl ?_; refine l_neu (n_len rfl (.pure _ _ _ _)) rfl ?_; refine l_neu (n_lss rfl rfl) rfl ?_; refine l_nil ?_
  refine k1 ?_
  refine c_cond rfl (fun ht => ?_) (fun ht => ?_)
  · have hlt : k < l.length := by have := of_decide_eq_true ht; omega
    have hv := getI hlt
    refine k5 ?_; refine k1 ?_; refine k2 ?_; refine k3 ?_
    refine c_region ?_; refine l_neu (n_move rfl rfl) rfl ?_; refine l_neu (n_move rfl rfl) rfl ?_; refine l_neu (n_move rfl rfl) rfl ?_; refine l_neu (n_indexAddr rfl (.pure _ _ _ _) rfl (by omega) hv) rfl ?_; refine l_neu (n_load_eref rfl rfl) rfl ?_; refine l_neu (n_max rfl rfl) rfl ?_; refine l_neu (n_assign rfl rfl) rfl ?_; refine l_nil ?_
    refine k4 ?_; refine k1 ?_
    refine c_region ?_; refine l_neu (n_move rfl rfl) rfl ?_; refine l_neu (n_add rfl rfl (by omega)) rfl ?_; refine l_neu (n_assign rfl rfl) rfl ?_; refine l_nil ?_
    refine k1 ?_
    refine ⟨(k + 1, if m < l.getD k 0 then l.getD k 0 else m), ⟨⟨by dsimp only; omega, by dsimp only; omega⟩, ?_⟩, by dsimp only; omega, Sees.of ⟨le1 rfl, le1 rfl, le1 rfl, trivial⟩ trivial⟩
    intro b
    dsimp only
    have e : l.take (k + 1) = l.take k ++ [l.getD k 0] := by
      rw [List.take_succ_eq_append_getElem hlt, List.getD_eq_getElem?_getD, List.getElem?_eq_getElem hlt]; rfl
    have h1 := hp b
    rw [e]
    constructor
    · intro h x hx
      rcases List.mem_append.1 hx with hx | hx
      · exact h1.1 (by omega) x hx
      · simp only [List.mem_cons, List.not_mem_nil, or_false] at hx
        rw [hx]; omega
    · intro h
      have h2 := h1.2 (fun x hx => h x (List.mem_append.2 (.inl hx)))
      have h3 := h (l.getD k 0) (List.mem_append.2 (.inr (by simp)))
      omega
  · have hkl : k = l.length := by have := of_decide_eq_false ht; omega
    subst hkl
    rw [List.take_length] at hp
    refine k6 ?_; refine k2 ?_
    refine c_region ?_; refine l_neu (n_move rfl rfl) rfl ?_; refine l_neu (n_assign rfl rfl) rfl ?_; refine l_nil ?_
    refine k1 ?_; refine k10 ?_
    exact ret_ret (ret1 rfl rfl rfl) ⟨m, rfl, hp⟩
theorem cwell_ok (c : Comb) (hn : 1 ≤ c.Parents ∧ c.Parents ≤ 32) (hr : ∀ h ∈ c.Hunks, rowsIn h.Rows) (hz : szC c.Hunks ≤ 268435456) :
    FnOk Tryz.prog 93 [pComb c] (fun rs => rs = [pBool (wellGo18 c.Parents.toNat (List.replicate (c.Parents.toNat + 1) 0) false 0 c.Hunks)]) := by
  obtain ⟨n, hN⟩ : ∃ n, n = c.Parents.toNat := ⟨_, rfl⟩
  have hNc : c.Parents = (n : Int) := by omega
  rw [← hN]
  have e0 : (c.Parents + 1).toNat = n + 1 := by omega
  have hzl := szC_len c.Hunks
  obtain ⟨W, hW⟩ : ∃ W, W = wellGo18 n (List.replicate (n + 1) 0) false 0 c.Hunks := ⟨_, rfl⟩
  rw [← hW]
  refine FnOk.intro Tryz.func93 (by decide) rfl rfl rfl rfl ?_
  refine k2 ?_
  refine c_region ?_; refine l_effv (f_box 1 rfl rfl rfl) rfl ?_; refine l_neu (n_assign rfl rfl) rfl ?_; refine l_nil ?_
  refine k1 ?_; refine k2 ?_
  refine c_region ?_; refine l_effv (f_alloc 3 rfl) rfl ?_; refine l_nil ?_
  refine k1 ?_; refine k2 ?_
  refine c_region ?_; refine l_neu (n_field_ref rfl) rfl ?_; refine l_neu (n_load_ref rfl rfl rfl) rfl ?_; refine l_neu (n_add rfl rfl (by omega)) rfl ?_; refine l_effv (f_makeZ 720 Int intC 0 rfl rfl (by omega) (by omega) (fun _ => by first | exact ⟨⟨rfl, rfl⟩, trivial⟩ | exact ⟨rep_nil _ _ _, trivial⟩) (by first | rfl | (simp [frFree, obFree, Ob.free, SV.free, S1.free, TC.free] <;> rfl))) rfl ?_; refine l_neu (n_assign rfl rfl) rfl ?_; refine l_nil ?_
  rw [e0]
  refine k1 ?_; refine k2 ?_; refine k2 ?_
  refine c_sees (Sees.freeze (k := 720) rfl) ?_
  refine c_region ?_; refine l_neu (n_field_ref rfl) rfl ?_; refine l_neu (n_load_ref rfl rfl rfl) rfl ?_; refine l_neu (n_len rfl (.pure _ _ _ _)) rfl ?_; refine l_neu (n_move rfl rfl) rfl ?_; refine l_nil ?_
  refine k1 ?_; refine k3 ?_
  refine c_while (X := Nat × List Int × Bool × Int) (fun x => ([(1, .s (.one (.ref 1 0))), (3, .s (.one (.ref 3 0))), (4, sList Int 1 intC x.2.1), (15, sList CHunk 2 chunkC c.Hunks), (16, sInt c.Hunks.length), (17, sInt x.1)], [(1, cBox c), (3, .box [.p (.v (.bool x.2.2.1)), .p (.v (.int .u32 x.2.2.2))])])) (fun x => x.1 ≤ c.Hunks.length ∧ x.2.1.length = n + 1 ∧ (∀ e ∈ x.2.1, 0 ≤ e) ∧ W = wellGo18 n x.2.1 x.2.2.1 x.2.2.2 (c.Hunks.drop x.1)) (fun x => c.Hunks.length - x.1) (0, List.replicate (n + 1) 0, false, 0) ⟨Nat.zero_le _, by simp, fun e he => by have := (List.mem_replicate.1 he).2; omega, hW⟩ (Sees.of ⟨le1 rfl, le1 rfl, le1 rfl, le1 rfl, le1 rfl, le1 rfl, trivial⟩ ⟨rfl, rfl, trivial⟩) ?_
  rintro ⟨k, ends, res, par⟩ ⟨hk, hel, he0, hp⟩
  dsimp only at hk hel he0 hp ⊢
  refine k2 ?_
  refine c_region ?_; refine l_neu (n_lss rfl rfl) rfl ?_; refine l_nil ?_
  refine k1 ?_; refine k2 ?_
  refine c_cond rfl (fun ht => ?_) (fun ht => ?_)
  · have hlt : k < c.Hunks.length := by have := of_decide_eq_true ht; omega
    have hv : c.Hunks[k]? = some c.Hunks[k] := by simp [hlt]
    have hmem := List.getElem_mem hlt
    have hrw := hr _ hmem
    have hzm := szC_mem hmem
    rw [List.drop_eq_getElem_cons hlt, wellGo18] at hp
    obtain ⟨h, hx⟩ : ∃ x, x = c.Hunks[k] := ⟨_, rfl⟩
    rw [← hx] at hv hrw hzm hp
    have hz1 := szRow_len h.Rows
    have hz2 := szRow_text h.Rows
    unfold szCh at hzm
    have hf := cfollows_ok h n ends (by omega) hrw (by omega) hel he0
    rw [← hNc] at hf
    refine k5 ?_; refine k1 ?_; refine k2 ?_; refine k3 ?_; refine k2 ?_
    refine c_region ?_; refine l_neu (n_indexAddr rfl (.pure _ _ _ _) rfl (by omega) hv) rfl ?_; refine l_neu (n_loads_eref rfl rfl) rfl ?_; refine l_effv (f_alloc 6 rfl) rfl ?_; refine l_eff (e_store_ref TySz.out rfl rfl rfl rfl rfl rfl) ?_; refine l_nil ?_
    refine k1 ?_; refine k2 ?_
    refine c_region ?_; refine l_neu (n_assign rfl rfl) rfl ?_; refine l_nil ?_
    refine k1 ?_; refine k2 ?_; refine k2 ?_
    cases hfb : followsB n ends h with
    | false =>
      rw [hfb, if_neg (by decide)] at hf
      rw [hfb, Bool.false_and] at hp
      refine c_region ?_; refine l_neu (n_loads_ref rfl rfl rfl) rfl ?_; refine l_neu (n_field_ref rfl) rfl ?_; refine l_neu (n_load_ref rfl rfl rfl) rfl ?_; refine l_neu (n_move rfl rfl) rfl ?_; refine l_call (hf) rfl rfl rfl ?_; rintro _ rfl; refine l_neu (n_move rfl rfl) rfl ?_; refine l_neu (n_extract rfl rfl) rfl ?_; refine l_neu (n_extract rfl rfl) rfl ?_; refine l_neu (n_assign rfl rfl) rfl ?_; refine l_neu (n_assign rfl rfl) rfl ?_; refine l_nil ?_
      refine k1 ?_; refine k2 ?_
      refine c_region ?_; refine l_neu (n_move rfl rfl) rfl ?_; refine l_neu (n_not rfl) rfl ?_; refine l_nil ?_
      refine k1 ?_
      refine c_cond rfl (fun ht => ?_) (fun ht => ?_)
      · refine k2 ?_
        refine c_region ?_; refine l_neu (n_assign rfl rfl) rfl ?_; refine l_nil ?_
        refine k1 ?_; refine k10 ?_; refine k11 ?_; refine k12 ?_; refine k11 ?_; refine k11 ?_; refine k12 ?_; refine k11 ?_
        exact ret_ret (ret1 rfl rfl rfl) (by rw [hp])
      · cases ht
    | true =>
      rw [hfb, if_pos rfl] at hf
      rw [hfb, Bool.true_and] at hp
      have hpos : ∀ e ∈ endsTo n h, 0 ≤ e := by
        intro e hm
        obtain ⟨j, hj, rfl⟩ := List.mem_map.1 hm
        have hj := List.mem_range.1 hj
        have h1 := ((follows_iff n ends h).1 hfb).2 j hj
        have h2 := he0 _ (List.mem_of_getElem? (getI (l := ends) (i := j) (by omega)))
        have h3 := cnt_le h.Rows n j
        omega
      refine c_region ?_; refine l_neu (n_loads_ref rfl rfl rfl) rfl ?_; refine l_neu (n_field_ref rfl) rfl ?_; refine l_neu (n_load_ref rfl rfl rfl) rfl ?_; refine l_neu (n_move rfl rfl) rfl ?_; refine l_call (hf) rfl rfl rfl ?_; rintro _ rfl; refine l_neu (n_move rfl rfl) rfl ?_; refine l_neu (n_extract rfl rfl) rfl ?_; refine l_neu (n_extract rfl rfl) rfl ?_; refine l_neu (n_assign rfl rfl) rfl ?_; refine l_neu (n_assign rfl rfl) rfl ?_; refine l_nil ?_
      refine k1 ?_; refine k2 ?_
      refine c_region ?_; refine l_neu (n_move rfl rfl) rfl ?_; refine l_neu (n_not rfl) rfl ?_; refine l_nil ?_
      refine k1 ?_
      refine c_cond rfl (fun ht => ?_) (fun ht => ?_)
      · cases ht
      refine k5 ?_; refine k1 ?_; refine k2 ?_
      refine c_region ?_; refine l_neu (n_field_ref rfl) rfl ?_; refine l_neu (n_load_ref rfl rfl rfl) rfl ?_; refine l_neu (n_len rfl (.pure _ _ _ _)) rfl ?_; refine l_neu (n_move rfl rfl) rfl ?_; refine l_nil ?_
      refine k1 ?_; refine k3 ?_
      refine c_while (X := Nat × Bool × Int) (fun x => ([(1, .s (.one (.ref 1 0))), (3, .s (.one (.ref 3 0))), (4, sList Int 1 intC (endsTo n h)), (15, sList CHunk 2 chunkC c.Hunks), (16, sInt c.Hunks.length), (17, sInt k), (32, sList Row 3 rowC h.Rows), (33, sInt h.Rows.length), (34, sInt x.1)], [(1, cBox c), (3, .box [.p (.v (.bool x.2.1)), .p (.v (.int .u32 x.2.2))])])) (fun x => x.1 ≤ h.Rows.length ∧ addsOk res par h.Rows = addsOk x.2.1 x.2.2 (h.Rows.drop x.1) ∧ resAfter res h.Rows = resAfter x.2.1 (h.Rows.drop x.1) ∧ parAfter par h.Rows = parAfter x.2.2 (h.Rows.drop x.1)) (fun x => h.Rows.length - x.1) (0, res, par) ⟨Nat.zero_le _, rfl, rfl, rfl⟩ (Sees.of ⟨le1 rfl, le1 rfl, le1 rfl, le1 rfl, le1 rfl, le1 rfl, le1 rfl, le1 rfl, le1 rfl, trivial⟩ ⟨rfl, rfl, trivial⟩) ?_
      rintro ⟨j, res', par'⟩ ⟨hj, q1, q2, q3⟩
      dsimp only at hj q1 q2 q3 ⊢
      refine k2 ?_
      refine c_region ?_; refine l_neu (n_lss rfl rfl) rfl ?_; refine l_nil ?_
      refine k1 ?_; refine k2 ?_
      refine c_cond rfl (fun ht => ?_) (fun ht => ?_)
      · have hlt2 : j < h.Rows.length := by have := of_decide_eq_true ht; omega
        have hv2 : h.Rows[j]? = some h.Rows[j] := by simp [hlt2]
        have htl := text_len h.Rows _ (List.getElem_mem hlt2)
        rw [List.drop_eq_getElem_cons hlt2] at q1 q2 q3
        rw [addsOk] at q1
        obtain ⟨r, hy⟩ : ∃ x, x = h.Rows[j] := ⟨_, rfl⟩
        rw [← hy] at hv2 htl q1 q2 q3
        refine k5 ?_; refine k1 ?_; refine k2 ?_; refine k3 ?_; refine k2 ?_
        refine c_region ?_; refine l_neu (n_indexAddr rfl (.pure _ _ _ _) rfl (by omega) hv2) rfl ?_; refine l_neu (n_loads_eref rfl rfl) rfl ?_; refine l_effv (f_alloc 9 rfl) rfl ?_; refine l_eff (e_store_ref TySz.out rfl rfl rfl rfl rfl rfl) ?_; refine l_nil ?_
        refine k1 ?_; refine k2 ?_
        by_cases hs : lineOk r.Text = true
        · refine c_region ?_; refine l_neu (n_loads_ref rfl rfl rfl) rfl ?_; refine l_call (wsingle_ok r (by omega)) rfl rfl rfl ?_; rintro _ rfl; refine l_neu (n_not rfl) rfl ?_; refine l_neu (n_move rfl rfl) rfl ?_; refine l_run rfl rfl rfl (by rw [hs]; rfl) ?_; refine l_neu (n_loads_ref rfl rfl rfl) rfl ?_; refine l_run rfl rfl rfl (by rw [hs]; rfl) ?_; refine l_callio (wadd_ok r res' par' (by omega)) rfl rfl rfl rfl rfl rfl ?_; rintro _ _ ⟨rfl, rfl⟩; refine l_guard rfl rfl rfl rfl (fun hg => by rw [hg]; exact n_not rfl) ?_; refine l_neu (n_pick_bool rfl (fun h => by first | rfl | (rw [h]; rfl)) (fun h => by first | rfl | (rw [h]; rfl))) rfl ?_; refine l_nil ?_
          refine k1 ?_
          refine c_cond rfl (fun ht => ?_) (fun ht => ?_)
          · have h2 : addOk res' par' r = false := by rw [hs] at ht; simpa using ht
            rw [hs, h2, Bool.true_and, Bool.false_and] at q1
            rw [q1, Bool.false_and] at hp
            refine k2 ?_
            refine c_region ?_; refine l_neu (n_assign rfl rfl) rfl ?_; refine l_nil ?_
            refine k1 ?_; refine k10 ?_; refine k12 ?_; refine k11 ?_; refine k11 ?_; refine k12 ?_; refine k12 ?_; refine k11 ?_; refine k11 ?_; refine k12 ?_; refine k11 ?_
            exact ret_ret (ret1 rfl rfl rfl) (by rw [hp])
          · have h2 : addOk res' par' r = true := by rw [hs] at ht; simpa using ht
            rw [hs, h2, Bool.true_and, Bool.true_and] at q1
            refine k5 ?_; refine k4 ?_; refine k1 ?_
            refine c_region ?_; refine l_neu (n_add rfl rfl (by omega)) rfl ?_; refine l_neu (n_move rfl rfl) rfl ?_; refine l_nil ?_
            refine k1 ?_
            exact ⟨(j + 1, _, _), ⟨by dsimp only; omega, q1, q2, q3⟩, by dsimp only; omega, Sees.of ⟨le1 rfl, le1 rfl, le1 rfl, le1 rfl, le1 rfl, le1 rfl, le1 rfl, le1 rfl, le1 rfl, trivial⟩ ⟨rfl, rfl, trivial⟩⟩
        · have hs' : lineOk r.Text = false := by simpa using hs
          refine c_region ?_; refine l_neu (n_loads_ref rfl rfl rfl) rfl ?_; refine l_call (wsingle_ok r (by omega)) rfl rfl rfl ?_; rintro _ rfl; refine l_neu (n_not rfl) rfl ?_; refine l_neu (n_move rfl rfl) rfl ?_; refine l_guard rfl rfl rfl rfl (fun hg => by rw [hg]; exact n_loads_ref rfl rfl rfl) ?_; refine l_skip rfl rfl rfl (by rw [hs']; decide) rfl ?_; refine l_skip rfl rfl rfl (by rw [hs']; decide) rfl ?_; refine l_neu (n_pick_bool (q := true) rfl (fun h => rfl) (fun h => by rw [hs'] at h; cases h)) rfl ?_; refine l_nil ?_
          rw [hs', Bool.false_and, Bool.false_and] at q1
          rw [q1, Bool.false_and] at hp
          refine k1 ?_
          refine c_cond rfl (fun ht => ?_) (fun ht => ?_)
          · refine k2 ?_
            refine c_region ?_; refine l_neu (n_assign rfl rfl) rfl ?_; refine l_nil ?_
            refine k1 ?_; refine k10 ?_; refine k12 ?_; refine k11 ?_; refine k11 ?_; refine k12 ?_; refine k12 ?_; refine k11 ?_; refine k11 ?_; refine k12 ?_; refine k11 ?_
            exact ret_ret (ret1 rfl rfl rfl) (by rw [hp])
          · rw [hs'] at ht; cases ht
      · have hjl : j = h.Rows.length := by have := of_decide_eq_false ht; omega
        rw [hjl, List.drop_eq_nil_of_le (Nat.le_refl _)] at q1 q2 q3
        have q1 : addsOk res par h.Rows = true := q1
        have q2 : resAfter res h.Rows = res' := q2
        have q3 : parAfter par h.Rows = par' := q3
        rw [q1, q2, q3, Bool.true_and] at hp
        refine k6 ?_; refine k7 ?_; refine k7 ?_; refine k8 rfl ?_; refine k4 ?_; refine k1 ?_
        refine c_region ?_; refine l_neu (n_add rfl rfl (by omega)) rfl ?_; refine l_neu (n_move rfl rfl) rfl ?_; refine l_nil ?_
        refine k1 ?_
        exact ⟨(k + 1, _, _, _), ⟨by dsimp only; omega, endsTo_len n h, hpos, hp⟩, by dsimp only; omega, Sees.of ⟨le1 rfl, le1 rfl, le1 rfl, le1 rfl, le1 rfl, le1 rfl, trivial⟩ ⟨rfl, rfl, trivial⟩⟩
  · have hkl : k = c.Hunks.length := by have := of_decide_eq_false ht; omega
    rw [hkl, List.drop_eq_nil_of_le (Nat.le_refl _)] at hp
    have hp : W = decide (∀ e ∈ ends, e ≤ 4096) := hp
    refine k6 ?_; refine k2 ?_
    refine c_region ?_; refine l_neu (n_move rfl rfl) rfl ?_; refine l_call (smax_ok ends (by omega)) rfl rfl rfl ?_; rintro _ ⟨m, rfl, hm⟩; refine l_neu (n_leq rfl rfl) rfl ?_; refine l_neu (n_assign rfl rfl) rfl ?_; refine l_nil ?_
    refine k1 ?_; refine k10 ?_
    exact ret_ret (ret1 rfl rfl rfl) (by rw [hp]; simp only [hm 4096])
end Go.Proofs.YtbiadkkamhpdnaaGreatDoor
namespace Go.Proofs.YtbiadkkamhpdnaaGreatDoor
open Go Go.AL
set_option maxRecDepth 100000
theorem cnamed_ok (s : Str) : FnOk Tryz.prog 91 [pStr s] (fun rs => rs = [pBool (nameOk s)]) := by
  refine FnOk.intro Tryz.func91 (by decide) rfl rfl rfl rfl ?_
  refine k2 ?_
  refine c_region ?_; refine l_neu (n_assign rfl rfl) rfl ?_; refine l_nil ?_
  refine k1 ?_; refine k2 ?_
  refine c_region ?_; refine l_neu (n_move rfl rfl) rfl ?_; refine l_neu (n_len_s rfl) rfl ?_; refine l_neu (n_geq rfl rfl) rfl ?_; refine l_neu (n_move rfl rfl) rfl ?_; refine l_guard rfl rfl rfl rfl (fun hg => by rw [hg]; exact n_move rfl rfl) ?_; refine l_guard rfl rfl rfl rfl (fun hg => by rw [hg]; exact n_len_s rfl) ?_; refine l_guard rfl rfl rfl rfl (fun hg => by rw [hg]; exact n_leq rfl rfl) ?_; refine l_neu (n_pick_bool rfl (fun h => by first | rfl | (rw [h]; rfl)) (fun h => by first | rfl | (rw [h]; rfl))) rfl ?_; refine l_neu (n_assign rfl rfl) rfl ?_; refine l_nil ?_
  refine k1 ?_; refine k10 ?_
  refine ret_ret (ret1 rfl rfl rfl) ?_
  rw [and_pick]
  unfold nameOk
  congr 4
  apply decide_eq_decide.2
  omega
theorem ctitle_ok (c : Comb) (hp : c.Path.length ≤ 16777216) : FnOk Tryz.prog 86 [pComb c] (fun rs => rs = [pStr (titleS c)]) := by
  have hq := quote_lenC c.Path
  have hf := fmt_len c.Parents
  refine FnOk.intro Tryz.func86 (by decide) rfl rfl rfl rfl ?_
  refine k2 ?_
  refine c_region ?_; refine l_effv (f_box 1 rfl rfl rfl) rfl ?_; refine l_neu (n_assign rfl rfl) rfl ?_; refine l_nil ?_
  refine k1 ?_; refine k2 ?_
  refine c_region ?_; refine l_neu (n_assign rfl rfl) rfl ?_; refine l_nil ?_
  refine k1 ?_; refine k2 ?_; refine k2 ?_
  refine c_region ?_; refine l_neu (n_field_ref rfl) rfl ?_; refine l_neu (n_load_ref rfl rfl rfl) rfl ?_; refine l_nil ?_
  refine k1 ?_
  refine c_cond rfl (fun ht => ?_) (fun ht => ?_)
  · have hd : c.Dense = true := ht
    skip
    refine c_region ?_; refine l_neu (n_assign rfl rfl) rfl ?_; refine l_nil ?_
    refine k1 ?_; refine k2 ?_
    refine c_region_draw (by kernel_rfl) (by kernel_rfl) ?_; refine d_neu (n_move rfl rfl) rfl rfl ?_; refine d_neu (n_add_s rfl rfl (by (simp only [List.length_append, List.length_cons, List.length_nil]; omega))) rfl rfl ?_; refine d_neu (n_add_s rfl rfl (by (simp only [List.length_append, List.length_cons, List.length_nil]; omega))) rfl rfl ?_; refine d_neu (n_field_ref rfl) rfl rfl ?_; refine d_neu (n_load_ref rfl rfl rfl) rfl rfl ?_; refine d_neu (n_call1 (squote_ok c.Path (by omega)) rfl rfl) rfl rfl ?_; refine d_neu (n_add_s rfl rfl (by (simp only [List.length_append, List.length_cons, List.length_nil]; omega))) rfl rfl ?_; refine d_neu (n_add_s rfl rfl (by (simp only [List.length_append, List.length_cons, List.length_nil]; omega))) rfl rfl ?_; refine d_neu (n_field_ref rfl) rfl rfl ?_; refine d_neu (n_load_ref rfl rfl rfl) rfl rfl ?_; refine d_neu (n_call1 (sformat_ok c.Parents) rfl rfl) rfl rfl ?_; refine d_neu (n_add_s rfl rfl (by (simp only [List.length_append, List.length_cons, List.length_nil]; omega))) rfl rfl ?_; refine d_neu (n_add_s rfl rfl (by (simp only [List.length_append, List.length_cons, List.length_nil]; omega))) rfl rfl ?_; refine d_neu (n_assign rfl rfl) rfl rfl ?_; refine d_nil ?_
    refine k1 ?_; refine k10 ?_
    exact ret_ret (ret1 rfl rfl rfl) (by unfold titleS kindS; rw [if_pos hd]; simp [ccS, parS])
  · have hd : c.Dense = false := ht
    refine k5 ?_; refine k1 ?_; refine k2 ?_
    refine c_region_draw (by kernel_rfl) (by kernel_rfl) ?_; refine d_neu (n_move rfl rfl) rfl rfl ?_; refine d_neu (n_add_s rfl rfl (by (simp only [List.length_append, List.length_cons, List.length_nil]; omega))) rfl rfl ?_; refine d_neu (n_add_s rfl rfl (by (simp only [List.length_append, List.length_cons, List.length_nil]; omega))) rfl rfl ?_; refine d_neu (n_field_ref rfl) rfl rfl ?_; refine d_neu (n_load_ref rfl rfl rfl) rfl rfl ?_; refine d_neu (n_call1 (squote_ok c.Path (by omega)) rfl rfl) rfl rfl ?_; refine d_neu (n_add_s rfl rfl (by (simp only [List.length_append, List.length_cons, List.length_nil]; omega))) rfl rfl ?_; refine d_neu (n_add_s rfl rfl (by (simp only [List.length_append, List.length_cons, List.length_nil]; omega))) rfl rfl ?_; refine d_neu (n_field_ref rfl) rfl rfl ?_; refine d_neu (n_load_ref rfl rfl rfl) rfl rfl ?_; refine d_neu (n_call1 (sformat_ok c.Parents) rfl rfl) rfl rfl ?_; refine d_neu (n_add_s rfl rfl (by (simp only [List.length_append, List.length_cons, List.length_nil]; omega))) rfl rfl ?_; refine d_neu (n_add_s rfl rfl (by (simp only [List.length_append, List.length_cons, List.length_nil]; omega))) rfl rfl ?_; refine d_neu (n_assign rfl rfl) rfl rfl ?_; refine d_nil ?_
    refine k1 ?_; refine k10 ?_
    exact ret_ret (ret1 rfl rfl rfl) (by unfold titleS kindS; rw [hd, if_neg (by decide)]; simp [combS, parS])
theorem cheader_ok (h : CHunk) (n : Nat) (hn : n ≤ 32) (hr : rowsIn h.Rows) (hl : h.Rows.length ≤ 268435456) (ha : h.At.length = n + 1) (hb : ∀ a ∈ h.At, -4611686018427387904 ≤ a ∧ a ≤ 4611686018427387904) :
    FnOk Tryz.prog 87 [pChunk h, pInt n] (fun rs => rs = [pStr (headC n h ++ [10])]) := by
  have hrep : FnOk Tryz.prog 150 [pStr [64], pInt ((n : Int) + 1)] (fun rs => rs = [pStr (atS (n + 1))]) := by
    have := repeat_ok 64 (n + 1) (by omega)
    rwa [show ((n + 1 : Nat) : Int) = (n : Int) + 1 by omega] at this
  obtain ⟨A, hA⟩ : ∃ A, A = atS (n + 1) := ⟨_, rfl⟩
  have hAl : A.length = n + 1 := by rw [hA, atS_len]
  have hend : headC n h ++ [10] = A ++ sidesW n h n ++ ([32, 43] ++ rangeOf (h.At.getD n 0) (cntC h.Rows n n) ++ [32] ++ A ++ [10]) := by
    unfold headC
    rw [sidesW_succ, hA]
    unfold sideW sgnB
    rw [if_pos rfl]; simp
  rw [hend]
  rw [← hA] at hrep
  have hsl := fun k => sidesW_len n h k
  have hcnt := fun k => cnt_le h.Rows n k
  have hgA : ∀ k, k < n + 1 → h.At[k]? = some (h.At.getD k 0) := fun k hk => getI (by omega)
  have hgC : ∀ k, k < n + 1 → (countsC h.Rows n)[k]? = some (cntC h.Rows n k) := fun k hk => counts_get h.Rows n k hk
  have hrA : ∀ k, k < n + 1 → -4611686018427387904 ≤ h.At.getD k 0 ∧ h.At.getD k 0 ≤ 4611686018427387904 := fun k hk => hb _ (List.mem_of_getElem? (hgA k hk))
  refine FnOk.intro Tryz.func87 (by decide) rfl rfl rfl rfl ?_
  refine k2 ?_
  refine c_region ?_; refine l_effv (f_box 2 rfl rfl rfl) rfl ?_; refine l_neu (n_assign rfl rfl) rfl ?_; refine l_nil ?_
  refine k1 ?_; refine k2 ?_
  refine c_region ?_; refine l_neu (n_field_ref rfl) rfl ?_; refine l_neu (n_load_ref rfl rfl rfl) rfl ?_; refine l_neu (n_move rfl rfl) rfl ?_; refine l_new (ccounts_new h.Rows n hn hr hl) rfl rfl rfl rfl ?_; rintro _ _ ⟨rfl, rfl⟩; refine ⟨rfl, ?_⟩; refine l_neu (n_assign rfl rfl) rfl ?_; refine l_nil ?_
  refine k1 ?_; refine k2 ?_
  refine c_sees (Sees.freeze (k := 720) rfl) ?_
  refine c_region ?_; refine l_neu (n_move rfl rfl) rfl ?_; refine l_neu (n_add rfl rfl (by omega)) rfl ?_; refine l_call (hrep) rfl rfl rfl ?_; rintro _ rfl; refine l_neu (n_assign rfl rfl) rfl ?_; refine l_nil ?_
  refine k1 ?_; refine k2 ?_
  refine c_region ?_; refine l_effv (f_allocT 700 rfl) rfl ?_; refine l_nil ?_
  refine k1 ?_; refine k2 ?_
  refine c_sees (Sees.adoptT 701 UInt8 1 u8C 5 (kb := 700) (o := 1) rfl rfl rfl) ?_
  refine c_region ?_; refine l_neu (n_move rfl rfl) rfl ?_; refine l_met (writeString_met (xs := []) (s := A) ⟨⟨_, .inl rfl, rfl⟩, rfl⟩ (by simp only [List.length_nil]; omega)) rfl rfl rfl ?_; rintro _ _ ⟨rfl, rfl⟩; refine l_nil ?_
  refine k1 ?_; refine k2 ?_; refine k2 ?_
  refine c_region ?_; refine l_neu (n_move rfl rfl) rfl ?_; refine l_neu (n_move rfl rfl) rfl ?_; refine l_nil ?_
  refine k1 ?_; refine k3 ?_
  refine c_while (X := Nat) (fun p => ([(1, sInt n), (2, .s (.one (.ref 2 0))), (5, sList Int 1 intC (countsC h.Rows n)), (6, sStr A), (7, .s (.one (.ref 700 0))), (18, sInt n), (19, sInt p)], [(2, .box (pChunk h).s1.cells), (700, .tbx 124 [.ref 700 0, .buf 701 UInt8 1 u8C (A ++ sidesW n h p)]), (701, .spare (A ++ sidesW n h p).length 1 5)])) (fun p => p ≤ n) (fun p => n - p) 0 (Nat.zero_le _) ?_ ?_
  · rw [show sidesW n h 0 = [] from rfl, List.append_nil]
    exact Sees.of ⟨le1 rfl, le1 rfl, le1 rfl, le1 rfl, le1 rfl, le1 rfl, le1 rfl, trivial⟩ ⟨rfl, rfl, rfl, trivial⟩
  intro p hp
  dsimp only at hp ⊢
  have hsp := hsl p
  have hsucc := sidesW_succ n h p
  refine k2 ?_
  refine c_region ?_; refine l_neu (n_lss rfl rfl) rfl ?_; refine l_nil ?_
  refine k1 ?_; refine k2 ?_
  refine c_cond rfl (fun ht => ?_) (fun ht => ?_)
  · have hlt : p < n := by have := of_decide_eq_true ht; omega
    have hga := hgA p (by omega)
    have hgc := hgC p (by omega)
    have hra := hrA p (by omega)
    have hcp := hcnt p
    have hsw : sideW n h p = [32, 45] ++ rangeOf (h.At.getD p 0) (cntC h.Rows n p) := by
      unfold sideW sgnB; rw [if_neg (by omega)]
    have hrl := rangeOf_len (h.At.getD p 0) (cntC h.Rows n p)
    rw [hsw] at hsucc
    obtain ⟨a, haa⟩ : ∃ a, a = h.At.getD p 0 := ⟨_, rfl⟩
    obtain ⟨q, hqq⟩ : ∃ q, q = cntC h.Rows n p := ⟨_, rfl⟩
    rw [← haa] at hga hra hrl hsucc
    rw [← hqq] at hgc hcp hrl hsucc
    have hlb : (A ++ sidesW n h p).length ≤ 1000 := by rw [List.length_append]; omega
    obtain ⟨B, hB⟩ : ∃ B, B = A ++ sidesW n h p := ⟨_, rfl⟩
    rw [← hB] at hlb ⊢
    refine k5 ?_; refine k1 ?_; refine k2 ?_; refine k3 ?_; refine k2 ?_
    refine c_region ?_; refine l_neu (n_move rfl rfl) rfl ?_; refine l_neu (n_assign rfl rfl) rfl ?_; refine l_nil ?_
    refine k1 ?_
    refine c_region_turn 11 (by kernel_rfl) (by kernel_rfl) rfl ?_; refine d_neu (n_field_ref rfl) rfl rfl ?_; refine d_neu (n_load_ref rfl rfl rfl) rfl rfl ?_; refine d_neu (n_move rfl rfl) rfl rfl ?_; refine d_neu (n_indexAddr rfl (.pure _ _ _ _) rfl (by omega) hga) rfl rfl ?_; refine d_neu (n_load_eref rfl rfl) rfl rfl ?_; refine d_neu (n_move rfl rfl) rfl rfl ?_; refine d_neu (n_move rfl rfl) rfl rfl ?_; refine d_neu (n_indexAddr rfl (.pure _ _ _ _) rfl (by omega) hgc) rfl rfl ?_; refine d_neu (n_load_eref rfl rfl) rfl rfl ?_; refine d_neu (n_call1 (srange_ok a q hra (by omega)) rfl rfl) rfl rfl ?_; refine d_neu (n_add_s rfl rfl (by (simp only [List.length_append, List.length_cons, List.length_nil]; omega))) rfl rfl ?_; refine d_nil ?_; refine met_step (writeString_met (xs := B) (s := [32, 45] ++ rangeOf a q) ⟨⟨_, .inr rfl, rfl⟩, rfl⟩ (by simp only [List.length_append, List.length_cons, List.length_nil]; omega)) rfl rfl rfl ?_; rintro _ _ ⟨rfl, rfl⟩; refine ⟨_, rfl, ?_⟩; refine d_nil ?_
    refine k4 ?_; refine k1 ?_
    refine c_region ?_; refine l_neu (n_add rfl rfl (by omega)) rfl ?_; refine l_neu (n_move rfl rfl) rfl ?_; refine l_nil ?_
    refine k1 ?_
    refine ⟨p + 1, by omega, by omega, ?_⟩
    have hs2 : A ++ sidesW n h (p + 1) = B ++ ([32, 45] ++ rangeOf a q) := by rw [hsucc, hB, List.append_assoc]
    rw [hs2]
    exact Sees.of ⟨le1 rfl, le1 rfl, le1 rfl, le1 rfl, le1 rfl, le1 rfl, le1 rfl, trivial⟩ ⟨rfl, rfl, rfl, trivial⟩
  · have hpn : p = n := by have := of_decide_eq_false ht; omega
    subst hpn
    have hga := hgA p (by omega)
    have hgc := hgC p (by omega)
    have hra := hrA p (by omega)
    have hcp := hcnt p
    have hrl := rangeOf_len (h.At.getD p 0) (cntC h.Rows p p)
    obtain ⟨a, haa⟩ : ∃ a, a = h.At.getD p 0 := ⟨_, rfl⟩
    obtain ⟨q, hqq⟩ : ∃ q, q = cntC h.Rows p p := ⟨_, rfl⟩
    rw [← haa] at hga hra hrl ⊢
    rw [← hqq] at hgc hcp hrl ⊢
    have hlb : (A ++ sidesW p h p).length ≤ 1000 := by rw [List.length_append]; omega
    obtain ⟨B, hB⟩ : ∃ B, B = A ++ sidesW p h p := ⟨_, rfl⟩
    rw [← hB] at hlb ⊢
    refine k6 ?_; refine k2 ?_
    refine c_region_turn 15 (by kernel_rfl) (by kernel_rfl) rfl ?_; refine d_neu (n_field_ref rfl) rfl rfl ?_; refine d_neu (n_load_ref rfl rfl rfl) rfl rfl ?_; refine d_neu (n_move rfl rfl) rfl rfl ?_; refine d_neu (n_indexAddr rfl (.pure _ _ _ _) rfl (by omega) hga) rfl rfl ?_; refine d_neu (n_load_eref rfl rfl) rfl rfl ?_; refine d_neu (n_move rfl rfl) rfl rfl ?_; refine d_neu (n_move rfl rfl) rfl rfl ?_; refine d_neu (n_indexAddr rfl (.pure _ _ _ _) rfl (by omega) hgc) rfl rfl ?_; refine d_neu (n_load_eref rfl rfl) rfl rfl ?_; refine d_neu (n_call1 (srange_ok a q hra (by omega)) rfl rfl) rfl rfl ?_; refine d_neu (n_add_s rfl rfl (by (simp only [List.length_append, List.length_cons, List.length_nil]; omega))) rfl rfl ?_; refine d_neu (n_add_s rfl rfl (by (simp only [List.length_append, List.length_cons, List.length_nil]; omega))) rfl rfl ?_; refine d_neu (n_move rfl rfl) rfl rfl ?_; refine d_neu (n_add_s rfl rfl (by (simp only [List.length_append, List.length_cons, List.length_nil]; omega))) rfl rfl ?_; refine d_neu (n_add_s rfl rfl (by (simp only [List.length_append, List.length_cons, List.length_nil]; omega))) rfl rfl ?_; refine d_nil ?_; refine met_step (writeString_met (xs := B) (s := [32, 43] ++ rangeOf a q ++ [32] ++ A ++ [10]) ⟨⟨_, .inr rfl, rfl⟩, rfl⟩ (by simp only [List.length_append, List.length_cons, List.length_nil]; omega)) rfl rfl rfl ?_; rintro _ _ ⟨rfl, rfl⟩; refine ⟨_, rfl, ?_⟩; refine d_nil ?_
    refine k1 ?_; refine k2 ?_
    refine c_region ?_; refine l_bstring (k := 700) (k' := 701) ⟨_, rfl, rfl, rfl⟩ bstring_calls rfl rfl rfl rfl rfl (.inr rfl) rfl ?_; refine l_neu (n_assign rfl rfl) rfl ?_; refine l_nil ?_
    refine k1 ?_; refine k10 ?_
    exact ret_ret (ret1 rfl rfl rfl) rfl
structure CFit (c : Comb) : Prop where
  par : 0 ≤ c.Parents ∧ c.Parents ≤ 32
  path : c.Path.length ≤ 4194304
  sz : szC c.Hunks ≤ 268435456
  rows : ∀ h ∈ c.Hunks, rowsIn h.Rows
  ats : ∀ h ∈ c.Hunks, h.At.length = c.Parents.toNat + 1 ∧ ∀ a ∈ h.At, -4611686018427387904 ≤ a ∧ a ≤ 4611686018427387904
theorem csize_ok (c : Comb) (hc : CFit c) : FnOk Tryz.prog 94 [pComb c] (fun rs => rs = [pInt (writeC c).length]) := by
  obtain ⟨h1, h2, h3, h4, h5⟩ := hc
  have hzl := szC_len c.Hunks
  have hm29 : markS.length = 29 := rfl
  obtain ⟨n, hN⟩ : ∃ n, n = c.Parents.toNat := ⟨_, rfl⟩
  have hNc : c.Parents = (n : Int) := by omega
  have hn : n ≤ 32 := by omega
  have hct := fun k => cTo_len c (by omega) k
  have hcs := fun k h => cTo_succ c k h
  rw [← hN] at h5 hcs
  refine FnOk.intro Tryz.func94 (by decide) rfl rfl rfl rfl ?_
  refine k2 ?_
  refine c_region ?_; refine l_effv (f_box 1 rfl rfl rfl) rfl ?_; refine l_neu (n_assign rfl rfl) rfl ?_; refine l_nil ?_
  refine k1 ?_; refine k2 ?_
  refine c_region ?_; refine l_neu (n_loads_ref rfl rfl rfl) rfl ?_; refine l_call (ctitle_ok c (by omega)) rfl rfl rfl ?_; rintro _ rfl; refine l_neu (n_len_s rfl) rfl ?_; refine l_neu (n_assign rfl rfl) rfl ?_; refine l_nil ?_
  refine k1 ?_; refine k2 ?_; refine k2 ?_
  refine c_region ?_; refine l_neu (n_field_ref rfl) rfl ?_; refine l_neu (n_load_ref rfl rfl rfl) rfl ?_; refine l_neu (n_len rfl (.pure _ _ _ _)) rfl ?_; refine l_neu (n_move rfl rfl) rfl ?_; refine l_nil ?_
  refine k1 ?_; refine k3 ?_
  refine c_while (X := Nat) (fun k => ([(1, .s (.one (.ref 1 0))), (3, sInt (cTo c k).length), (12, sList CHunk 2 chunkC c.Hunks), (13, sInt c.Hunks.length), (14, sInt k)], [(1, cBox c)])) (fun k => k ≤ c.Hunks.length) (fun k => c.Hunks.length - k) 0 (Nat.zero_le _) (by rw [cTo_zero]; exact Sees.of ⟨le1 rfl, le1 rfl, le1 rfl, le1 rfl, le1 rfl, trivial⟩ ⟨rfl, trivial⟩) ?_
  intro k hk
  dsimp only at hk ⊢
  have hck := hct k
  refine k2 ?_
  refine c_region ?_; refine l_neu (n_lss rfl rfl) rfl ?_; refine l_nil ?_
  refine k1 ?_; refine k2 ?_
  refine c_cond rfl (fun ht => ?_) (fun ht => ?_)
  · have hlt : k < c.Hunks.length := by have := of_decide_eq_true ht; omega
    have hv : c.Hunks[k]? = some c.Hunks[k] := by simp [hlt]
    have hmem := List.getElem_mem hlt
    have hrw := h4 _ hmem
    have hat := h5 _ hmem
    have hzm := szC_mem hmem
    have hsucc := hcs k hlt
    obtain ⟨h, hx⟩ : ∃ x, x = c.Hunks[k] := ⟨_, rfl⟩
    rw [← hx] at hv hrw hat hzm hsucc
    have hz1 := szRow_len h.Rows
    have hz2 := szRow_text h.Rows
    unfold szCh at hzm
    have hh := cheader_ok h n hn hrw (by omega) hat.1 hat.2
    rw [← hNc] at hh
    have hhl := headC_len hn h
    obtain ⟨base, hbase⟩ : ∃ base, base = (cTo c k).length := ⟨_, rfl⟩
    have hcl := congrArg List.length hsucc
    rw [List.length_append, chunk_rTo, List.length_append, ← hbase] at hcl
    rw [← hbase] at hck ⊢
    obtain ⟨hd, hhd⟩ : ∃ hd, hd = headC n h ++ [10] := ⟨_, rfl⟩
    have hdl : hd.length ≤ 926 := by rw [hhd, List.length_append]; simp only [List.length_cons, List.length_nil]; omega
    rw [← hhd] at hh hcl
    refine k5 ?_; refine k1 ?_; refine k2 ?_; refine k3 ?_; refine k2 ?_
    refine c_region ?_; refine l_neu (n_indexAddr rfl (.pure _ _ _ _) rfl (by omega) hv) rfl ?_; refine l_neu (n_loads_eref rfl rfl) rfl ?_; refine l_effv (f_alloc 5 rfl) rfl ?_; refine l_eff (e_store_ref TySz.out rfl rfl rfl rfl rfl rfl) ?_; refine l_nil ?_
    refine k1 ?_; refine k2 ?_
    refine c_region ?_; refine l_neu (n_move rfl rfl) rfl ?_; refine l_neu (n_loads_ref rfl rfl rfl) rfl ?_; refine l_neu (n_field_ref rfl) rfl ?_; refine l_neu (n_load_ref rfl rfl rfl) rfl ?_; refine l_call (hh) rfl rfl rfl ?_; rintro _ rfl; refine l_neu (n_len_s rfl) rfl ?_; refine l_neu (n_add rfl rfl (by omega)) rfl ?_; refine l_neu (n_assign rfl rfl) rfl ?_; refine l_nil ?_
    refine k1 ?_; refine k2 ?_
    refine c_region ?_; refine l_neu (n_field_ref rfl) rfl ?_; refine l_neu (n_load_ref rfl rfl rfl) rfl ?_; refine l_neu (n_len rfl (.pure _ _ _ _)) rfl ?_; refine l_neu (n_move rfl rfl) rfl ?_; refine l_nil ?_
    refine k1 ?_; refine k3 ?_
    refine c_while (X := Nat) (fun j => ([(1, .s (.one (.ref 1 0))), (3, sInt (base + hd.length + (rTo n h.Rows j).length : Nat)), (12, sList CHunk 2 chunkC c.Hunks), (13, sInt c.Hunks.length), (14, sInt k), (26, sList Row 3 rowC h.Rows), (27, sInt h.Rows.length), (28, sInt j)], [(1, cBox c)])) (fun j => j ≤ h.Rows.length) (fun j => h.Rows.length - j) 0 (Nat.zero_le _) ?_ ?_
    · have e : ((base + hd.length + (rTo n h.Rows 0).length : Nat) : Int) = (base : Int) + (hd.length : Int) := by rw [rTo_zero]; simp
      rw [e]
      exact Sees.of ⟨le1 rfl, le1 rfl, le1 rfl, le1 rfl, le1 rfl, le1 rfl, le1 rfl, le1 rfl, trivial⟩ ⟨rfl, trivial⟩
    intro j hj
    dsimp only at hj ⊢
    have hrl := rTo_len hn h.Rows j
    refine k2 ?_
    refine c_region ?_; refine l_neu (n_lss rfl rfl) rfl ?_; refine l_nil ?_
    refine k1 ?_; refine k2 ?_
    refine c_cond rfl (fun ht => ?_) (fun ht => ?_)
    · have hlt2 : j < h.Rows.length := by have := of_decide_eq_true ht; omega
      have hv2 : h.Rows[j]? = some h.Rows[j] := by simp [hlt2]
      have hrm := szRow_mem (List.getElem_mem hlt2)
      have hsucc2 := rTo_succ n h.Rows j hlt2
      obtain ⟨r, hy⟩ : ∃ x, x = h.Rows[j] := ⟨_, rfl⟩
      rw [← hy] at hv2 hrm hsucc2
      have hrm : r.Text.length + 96 ≤ (h.Rows.map szRow).sum := hrm
      have hl2 := congrArg List.length hsucc2
      have hml := marks_len n r
      rw [List.length_append, rowPs_flat, List.length_append, List.length_append, hml] at hl2
      refine k5 ?_; refine k1 ?_; refine k2 ?_; refine k3 ?_; refine k2 ?_
      refine c_region ?_; refine l_neu (n_indexAddr rfl (.pure _ _ _ _) rfl (by omega) hv2) rfl ?_; refine l_neu (n_loads_eref rfl rfl) rfl ?_; refine l_effv (f_alloc 7 rfl) rfl ?_; refine l_eff (e_store_ref TySz.out rfl rfl rfl rfl rfl rfl) ?_; refine l_nil ?_
      refine k1 ?_; refine k2 ?_
      refine c_region ?_; refine l_neu (n_move rfl rfl) rfl ?_; refine l_neu (n_field_ref rfl) rfl ?_; refine l_neu (n_load_ref rfl rfl rfl) rfl ?_; refine l_neu (n_field_ref rfl) rfl ?_; refine l_neu (n_load_ref rfl rfl rfl) rfl ?_; refine l_neu (n_len_s rfl) rfl ?_; refine l_neu (n_add rfl rfl (by omega)) rfl ?_; refine l_neu (n_add rfl rfl (by omega)) rfl ?_; refine l_neu (n_assign rfl rfl) rfl ?_; refine l_nil ?_
      refine k1 ?_; refine k2 ?_
      refine c_region ?_; refine l_neu (n_field_ref rfl) rfl ?_; refine l_neu (n_load_ref rfl rfl rfl) rfl ?_; refine l_call (tended_ok r.Text (by omega)) rfl rfl rfl ?_; rintro _ rfl; refine l_neu (n_not rfl) rfl ?_; refine l_nil ?_
      refine k1 ?_
      refine c_cond rfl (fun ht => ?_) (fun ht => ?_)
      · have h2 : ended r.Text = false := by simpa using ht
        rw [h2, if_neg (by decide), hm29] at hl2
        have e : ((base + hd.length + (rTo n h.Rows (j + 1)).length : Nat) : Int) = ((base + hd.length + (rTo n h.Rows j).length : Nat) : Int) + (c.Parents + (r.Text.length : Int)) + 29 := by omega
        skip
        refine c_region ?_; refine l_neu (n_move rfl rfl) rfl ?_; refine l_neu (n_add rfl rfl (by omega)) rfl ?_; refine l_neu (n_assign rfl rfl) rfl ?_; refine l_nil ?_
        refine k4 ?_; refine k1 ?_
        refine c_region ?_; refine l_neu (n_add rfl rfl (by omega)) rfl ?_; refine l_neu (n_move rfl rfl) rfl ?_; refine l_nil ?_
        refine k1 ?_
        refine ⟨j + 1, by omega, by omega, ?_⟩
        rw [e]
        exact Sees.of ⟨le1 rfl, le1 rfl, le1 rfl, le1 rfl, le1 rfl, le1 rfl, le1 rfl, le1 rfl, trivial⟩ ⟨rfl, trivial⟩
      · have h2 : ended r.Text = true := by simpa using ht
        rw [if_pos h2, List.length_nil] at hl2
        have e : ((base + hd.length + (rTo n h.Rows (j + 1)).length : Nat) : Int) = ((base + hd.length + (rTo n h.Rows j).length : Nat) : Int) + (c.Parents + (r.Text.length : Int)) := by omega
        refine k5 ?_; refine k4 ?_; refine k1 ?_
        refine c_region ?_; refine l_neu (n_add rfl rfl (by omega)) rfl ?_; refine l_neu (n_move rfl rfl) rfl ?_; refine l_nil ?_
        refine k1 ?_
        refine ⟨j + 1, by omega, by omega, ?_⟩
        rw [e]
        exact Sees.of ⟨le1 rfl, le1 rfl, le1 rfl, le1 rfl, le1 rfl, le1 rfl, le1 rfl, le1 rfl, trivial⟩ ⟨rfl, trivial⟩
    · have hjl : j = h.Rows.length := by have := of_decide_eq_false ht; omega
      subst hjl
      have e : base + hd.length + (rTo n h.Rows h.Rows.length).length = (cTo c (k + 1)).length := by omega
      rw [e]
      refine k6 ?_; refine k7 ?_; refine k7 ?_; refine k8 rfl ?_; refine k4 ?_; refine k1 ?_
      refine c_region ?_; refine l_neu (n_add rfl rfl (by omega)) rfl ?_; refine l_neu (n_move rfl rfl) rfl ?_; refine l_nil ?_
      refine k1 ?_
      exact ⟨k + 1, by omega, by omega, Sees.of ⟨le1 rfl, le1 rfl, le1 rfl, le1 rfl, le1 rfl, trivial⟩ ⟨rfl, trivial⟩⟩
  · have hkl : k = c.Hunks.length := by have := of_decide_eq_false ht; omega
    subst hkl
    rw [cTo_full]
    refine k6 ?_; refine k2 ?_
    refine c_region ?_; refine l_neu (n_move rfl rfl) rfl ?_; refine l_neu (n_assign rfl rfl) rfl ?_; refine l_nil ?_
    refine k1 ?_; refine k10 ?_
    exact ret_ret (ret1 rfl rfl rfl) rfl
theorem check_fit {c : Comb} (hp : c.Path.length ≤ 4194304) (hn : 1 ≤ c.Parents ∧ c.Parents ≤ 32) (hz : szC c.Hunks ≤ 268435456) (hr : ∀ h ∈ c.Hunks, rowsIn h.Rows) (hg : chunksOk c.Parents.toNat c.Hunks = true) : CFit c := by
  refine ⟨by omega, hp, hz, hr, fun h hm => ?_⟩
  unfold chunksOk at hg
  rw [Bool.and_eq_true] at hg
  obtain ⟨a1, a2, a3⟩ := chunks_go c.Hunks _ (fun k hk => by rw [List.getD_eq_getElem?_getD, List.getElem?_replicate_of_lt hk]; exact Int.le_refl _) hg.1 h hm
  refine ⟨a1, fun a ha => ?_⟩
  obtain ⟨k, hk, rfl⟩ := List.getElem_of_mem ha
  have h1 := a3 k (by omega)
  have h2 := cnt_le h.Rows c.Parents.toNat k
  have e : h.At.getD k 0 = h.At[k] := by rw [List.getD_eq_getElem?_getD, List.getElem?_eq_getElem hk]; rfl
  rw [e] at h1
  omega
theorem ccheck_ok (c : Comb) (hz : szC c.Hunks ≤ 268435456) (hr : ∀ h ∈ c.Hunks, rowsIn h.Rows) : FnOk Tryz.prog 40 [pComb c] (fun rs => rs = [pInt (check18 c)]) := by
  refine FnOk.intro Tryz.func40 (by decide) rfl rfl rfl rfl ?_
  refine k2 ?_
  refine c_region ?_; refine l_effv (f_box 1 rfl rfl rfl) rfl ?_; refine l_neu (n_assign rfl rfl) rfl ?_; refine l_nil ?_
  refine k1 ?_; refine k2 ?_; refine k3 ?_; refine k2 ?_
  refine c_region ?_; refine l_neu (n_field_ref rfl) rfl ?_; refine l_neu (n_load_ref rfl rfl rfl) rfl ?_; refine l_call (cnamed_ok c.Path) rfl rfl rfl ?_; rintro _ rfl; refine l_neu (n_not rfl) rfl ?_; refine l_neu (n_assign rfl rfl) rfl ?_; refine l_nil ?_
  refine k1 ?_
  refine c_cond rfl (fun ht => ?_) (fun ht => ?_)
  · have h : nameOk c.Path = false := by simpa using ht
    refine k2 ?_
    refine c_region ?_; refine l_neu (n_assign rfl rfl) rfl ?_; refine l_nil ?_
    refine k1 ?_; refine k10 ?_; refine k12 ?_; refine k11 ?_
    exact ret_ret (ret1 rfl rfl rfl) (by unfold check18; rw [if_pos h])
  have h : nameOk c.Path = true := by simpa using ht
  have hpl := of_decide_eq_true h
  refine k2 ?_
  refine c_region ?_; refine l_neu (n_field_ref rfl) rfl ?_; refine l_neu (n_load_ref rfl rfl rfl) rfl ?_; refine l_neu (n_lss rfl rfl) rfl ?_; refine l_neu (n_move rfl rfl) rfl ?_; refine l_guard rfl rfl rfl rfl (fun hg => by rw [hg]; exact n_field_ref rfl) ?_; refine l_guard rfl rfl rfl rfl (fun hg => by rw [hg]; exact n_load_ref rfl rfl rfl) ?_; refine l_guard rfl rfl rfl rfl (fun hg => by rw [hg]; exact n_gtr rfl rfl) ?_; refine l_neu (n_pick_bool rfl (fun h => by first | rfl | (rw [h]; rfl)) (fun h => by first | rfl | (rw [h]; rfl))) rfl ?_; refine l_neu (n_assign rfl rfl) rfl ?_; refine l_nil ?_
  refine k1 ?_
  refine c_cond rfl (fun ht => ?_) (fun ht => ?_)
  · have h1 := of_decide_eq_true (or_pick.symm.trans ht)
    refine k2 ?_
    refine c_region ?_; refine l_neu (n_assign rfl rfl) rfl ?_; refine l_nil ?_
    refine k1 ?_; refine k10 ?_; refine k12 ?_; refine k11 ?_
    exact ret_ret (ret1 rfl rfl rfl) (by unfold check18; rw [if_neg (by rw [h]; decide), if_pos (by omega)])
  have h1 := of_decide_eq_false (or_pick.symm.trans ht)
  have hn : 1 ≤ c.Parents ∧ c.Parents ≤ 32 := by omega
  refine k2 ?_
  refine c_region ?_; refine l_neu (n_loads_ref rfl rfl rfl) rfl ?_; refine l_call (cmarked_ok c hn hr hz) rfl rfl rfl ?_; rintro _ rfl; refine l_neu (n_not rfl) rfl ?_; refine l_neu (n_assign rfl rfl) rfl ?_; refine l_nil ?_
  refine k1 ?_
  refine c_cond rfl (fun ht => ?_) (fun ht => ?_)
  · have h2 : marksC c.Parents.toNat c.Hunks = false := by simpa using ht
    refine k2 ?_
    refine c_region ?_; refine l_neu (n_assign rfl rfl) rfl ?_; refine l_nil ?_
    refine k1 ?_; refine k10 ?_; refine k12 ?_; refine k11 ?_
    exact ret_ret (ret1 rfl rfl rfl) (by unfold check18; rw [if_neg (by rw [h]; decide), if_neg (by omega), if_pos h2])
  have h2 : marksC c.Parents.toNat c.Hunks = true := by simpa using ht
  have hw := cwell_ok c hn hr hz
  rw [well_chunks (by omega) h2] at hw
  refine k2 ?_
  refine c_region ?_; refine l_neu (n_loads_ref rfl rfl rfl) rfl ?_; refine l_call (hw) rfl rfl rfl ?_; rintro _ rfl; refine l_neu (n_not rfl) rfl ?_; refine l_neu (n_assign rfl rfl) rfl ?_; refine l_nil ?_
  refine k1 ?_
  refine c_cond rfl (fun ht => ?_) (fun ht => ?_)
  · have h3 : chunksOk c.Parents.toNat c.Hunks = false := by simpa using ht
    refine k2 ?_
    refine c_region ?_; refine l_neu (n_assign rfl rfl) rfl ?_; refine l_nil ?_
    refine k1 ?_; refine k10 ?_; refine k12 ?_; refine k11 ?_
    exact ret_ret (ret1 rfl rfl rfl) (by unfold check18; rw [if_neg (by rw [h]; decide), if_neg (by omega), if_neg (by rw [h2]; decide), if_pos h3])
  have h3 : chunksOk c.Parents.toNat c.Hunks = true := by simpa using ht
  refine k2 ?_
  refine c_region ?_; refine l_neu (n_loads_ref rfl rfl rfl) rfl ?_; refine l_call (csize_ok c (check_fit (by omega) hn hz hr h3)) rfl rfl rfl ?_; rintro _ rfl; refine l_neu (n_gtr rfl rfl) rfl ?_; refine l_neu (n_assign rfl rfl) rfl ?_; refine l_nil ?_
  refine k1 ?_
  refine c_cond rfl (fun ht => ?_) (fun ht => ?_)
  · have h4 := of_decide_eq_true ht
    refine k2 ?_
    refine c_region ?_; refine l_neu (n_assign rfl rfl) rfl ?_; refine l_nil ?_
    refine k1 ?_; refine k10 ?_; refine k12 ?_; refine k11 ?_
    exact ret_ret (ret1 rfl rfl rfl) (by unfold check18; rw [if_neg (by rw [h]; decide), if_neg (by omega), if_neg (by rw [h2]; decide), if_neg (by rw [h3]; decide), if_pos (by omega)])
  have h4 := of_decide_eq_false ht
  refine k5 ?_; refine k2 ?_
  refine c_region ?_; refine l_neu (n_assign rfl rfl) rfl ?_; refine l_nil ?_
  refine k1 ?_; refine k10 ?_
  exact ret_ret (ret1 rfl rfl rfl) (by unfold check18; rw [if_neg (by rw [h]; decide), if_neg (by omega), if_neg (by rw [h2]; decide), if_neg (by rw [h3]; decide), if_neg (by omega)])
end Go.Proofs.YtbiadkkamhpdnaaGreatDoor
namespace Go.Proofs.YtbiadkkamhpdnaaGreatDoor
open Go Go.AL
set_option maxRecDepth 100000
theorem ccounts_ok (rows : List Row) (n : Nat) (hn : n ≤ 32) (hr : rowsIn rows) (hl : rows.length ≤ 268435456) : FnOk Tryz.prog 149 [pRows rows, pInt n] (fun rs => rs = [pInts (countsC rows n)]) :=
  FnOk.of_new (k := 720) rfl (ccounts_new rows n hn hr hl)
theorem cloneI_met {gf : Fr} {ob : Obs} (l : List Int) (hl : 0 < l.length ∧ l.length ≤ 1073741824) (h : getO ob 720 = some (.arr Int 1 intC l)) :
    AL.Met Tryz.prog 166 [.one (.mut 720)] gf ob [] (fun rs ob' => rs = [.one (.p (.list Int 1 intC l))] ∧ ob' = ob) := by
  refine AL.Met.intro Tryz.func166 (by decide) rfl rfl rfl ?_
  refine k2 ?_
  refine c_region ?_; refine l_neu (n_assign rfl rfl) rfl ?_; refine l_nil ?_
  refine k1 ?_; refine k2 ?_; refine k2 ?_
  refine c_region ?_; refine l_neu (n_move rfl rfl) rfl ?_; refine l_neu (n_eql_nil_mut rfl h) rfl ?_; refine l_nil ?_
  refine k1 ?_
  refine c_cond rfl (fun ht => ?_) (fun ht => ?_)
  · cases ht
  refine k5 ?_; refine k1 ?_; refine k2 ?_
  refine c_region ?_; refine l_neu (n_buildFull (c := intC) (ys := []) asm_nil rfl rfl rfl) rfl ?_; refine l_neu (n_move rfl rfl) rfl ?_; refine l_neu (n_append_full_mut rfl rfl h (by (simp; omega)) (hl.1)) rfl ?_; refine l_neu (n_assign rfl rfl) rfl ?_; refine l_nil ?_
  rw [List.nil_append]
  refine k1 ?_; refine k10 ?_
  exact met_ret (rets1 rfl rfl) (by repeat (first | exact tail_refl | refine tail_cons rfl ?_ | refine tail_forget _ ?_)) (fun _ _ h => h) ⟨rfl, rfl⟩
theorem cloneR_ok (l : List Row) (hl : 0 < l.length ∧ l.length ≤ 1073741824) : FnOk Tryz.prog 113 [pRows l] (fun rs => rs = [pRows l]) := by
  refine FnOk.intro Tryz.func113 (by decide) rfl rfl rfl rfl ?_
  refine k2 ?_
  refine c_region ?_; refine l_neu (n_assign rfl rfl) rfl ?_; refine l_nil ?_
  refine k1 ?_; refine k2 ?_; refine k2 ?_
  refine c_region ?_; refine l_neu (n_move rfl rfl) rfl ?_; (first | (refine l_neuP (n_eql_nil rfl (.pure _ _ _ _)) rfl ?_) | (refine l_neuP (n_eql_nil rfl (.buf _ _ _ _ _)) rfl ?_)); rintro _ ⟨b1, rfl, hnil⟩; refine l_nil ?_
  refine k1 ?_
  refine c_cond rfl (fun ht => ?_) (fun ht => ?_)
  · have := hnil ht
    rw [this] at hl
    exact absurd hl.1 (by simp)
  refine k5 ?_; refine k1 ?_; refine k2 ?_
  refine c_region ?_; refine l_neu (n_buildFull (c := rowC) (ys := []) asm_nil rfl rfl rfl) rfl ?_; refine l_neu (n_move rfl rfl) rfl ?_; refine l_neu (n_append_full rfl rfl (.pure _ _ _ _) (by (simp; omega)) (hl.1)) rfl ?_; refine l_neu (n_assign rfl rfl) rfl ?_; refine l_nil ?_
  rw [List.nil_append]
  refine k1 ?_; refine k10 ?_
  exact ret_ret (ret1 rfl rfl rfl) rfl
theorem cntC_split (rows : List Row) (n k : Nat) {e t : Nat} (h : e ≤ t) : cntC (rows.take t) n k = cntC (rows.take e) n k + cntC ((rows.drop e).take (t - e)) n k := by
  have h1 : rows.take t = rows.take e ++ (rows.drop e).take (t - e) := by
    have := List.take_add (l := rows) (i := e) (j := t - e)
    rwa [show e + (t - e) = t by omega] at this
  unfold cntC
  rw [h1]
  unfold colOf
  rw [List.filter_append, List.map_append, List.length_append, Int.natCast_add]
def atMid (rows : List Row) (n e t i : Nat) : List Int := (List.range (n + 1)).map fun k => if k < i then cntC (rows.take t) n k else cntC (rows.take e) n k
theorem atMid_len (rows : List Row) (n e t i : Nat) : (atMid rows n e t i).length = n + 1 := by simp [atMid]
theorem atMid_zero (rows : List Row) (n e t : Nat) : atMid rows n e t 0 = countsC (rows.take e) n := by
  unfold atMid countsC
  exact List.map_congr_left fun k _ => if_neg (by omega)
theorem atMid_full (rows : List Row) (n e t : Nat) : atMid rows n e t (n + 1) = countsC (rows.take t) n := by
  unfold atMid countsC
  exact List.map_congr_left fun k hk => if_pos (by simpa using hk)
theorem atMid_get (rows : List Row) (n e t i : Nat) (hi : i < n + 1) : (atMid rows n e t i)[i]? = some (cntC (rows.take e) n i) := by
  unfold atMid
  rw [range_get (n + 1) i _ hi, if_neg (by omega)]
theorem atMid_set (rows : List Row) (n e t i : Nat) : (atMid rows n e t i).set i (cntC (rows.take t) n i) = atMid rows n e t (i + 1) := by
  refine range_set (n + 1) i _ _ _ (fun _ => if_pos (by omega)) (fun q _ hq => ?_)
  by_cases h : q < i
  · rw [if_pos h, if_pos (by omega)]
  · rw [if_neg h, if_neg (by omega)]
theorem cntC_nn (rows : List Row) (n k : Nat) : 0 ≤ cntC rows n k ∧ cntC rows n k ≤ rows.length := by
  unfold cntC
  have := colOf_len rows (colNum n k)
  omega
set_option maxHeartbeats 1000000
theorem cutAdv_met {gf : Fr} {ob : Obs} (t : Table) (n e z : Nat) (hn : t.Parents = n) (hn2 : n ≤ 32) (hr : rowsIn t.Rows) (hl : t.Rows.length ≤ 8388608) (h1 : e ≤ z) (h2 : z ≤ t.Rows.length)
    (h5 : getO ob 5 = some (.box (pTable t).s1.cells)) (h13 : getO ob 13 = some (intBox e)) (h12 : getO ob 12 = some (.box [.mut 720])) (h720 : getO ob 720 = some (.arr Int 1 intC (countsC (t.Rows.take e) n))) :
    AL.Met Tryz.prog 165 [iS z, .one (.ref 5 0), .one (.ref 13 0), .one (.ref 12 0)] gf ob []
      (fun rs ob' => rs = [] ∧ ob' = (13, intBox z) :: (720, .arr Int 1 intC (countsC (t.Rows.take z) n)) :: (5, .box (pTable t).s1.cells) :: (12, .box [.mut 720]) :: ob) := by
  obtain ⟨tp, rows⟩ := t
  have hn : tp = (n : Int) := hn
  subst hn
  dsimp only at hr hl h2 h720 ⊢
  have hsl : ((rows.drop e).take (z - e)).length = z - e := by rw [List.length_take, List.length_drop]; omega
  have hC := ccounts_ok ((rows.drop e).take (z - e)) n hn2 (fun r hm => hr r (List.mem_of_mem_drop (List.mem_of_mem_take hm))) (by omega)
  obtain ⟨cs, hcs⟩ : ∃ cs, cs = countsC ((rows.drop e).take (z - e)) n := ⟨_, rfl⟩
  have hcl : cs.length = n + 1 := by rw [hcs]; simp [countsC]
  rw [← hcs] at hC
  refine AL.Met.introH Tryz.func165 (by decide) rfl rfl rfl (fun hH => ?_)
  refine k2 ?_; refine k2 ?_
  refine c_region_draw (by kernel_rfl) (by kernel_rfl) ?_; refine d_neu (n_field_ref rfl) rfl rfl ?_; refine d_neu (n_load_ref rfl h5 rfl) rfl rfl ?_; refine d_neu (n_load_ref rfl h13 rfl) rfl rfl ?_; refine d_neu (n_move rfl rfl) rfl rfl ?_; refine d_neu (n_slice_lh rfl (.pure _ _ _ _) rfl rfl (by (first | omega | (dsimp only; omega))) (by (first | omega | (dsimp only; omega))) (by (first | omega | (dsimp only; omega)))) rfl rfl ?_; refine d_neu (n_field_ref rfl) rfl rfl ?_; refine d_neu (n_load_ref rfl h5 rfl) rfl rfl ?_; refine d_neu (n_call1 (hC) rfl rfl) rfl rfl ?_; refine d_neu (n_len rfl (.pure _ _ _ _)) rfl rfl ?_; refine d_neu (n_move rfl rfl) rfl rfl ?_; refine d_nil ?_
  refine k1 ?_; refine k3 ?_
  refine c_while (X := Nat) (fun i => ([(0, sInt z), (1, .s (.one (.ref 5 0))), (2, .s (.one (.ref 13 0))), (3, .s (.one (.ref 12 0))), (14, sList Int 1 intC cs), (15, sInt cs.length), (16, sInt i)] ++ gf, (13, intBox e) :: (720, .arr Int 1 intC (atMid rows n e z i)) :: (5, .box (pTable ⟨n, rows⟩).s1.cells) :: (12, .box [.mut 720]) :: ob)) (fun i => i ≤ n + 1) (fun i => n + 1 - i) 0 (Nat.zero_le _) ?_ ?_
  · dsimp only
    rw [atMid_zero]
    exact Sees.tailed ⟨le1 rfl, le1 rfl, le1 rfl, le1 rfl, le1 rfl, le1 rfl, le1 rfl, trivial⟩ hH (by repeat (first | exact tail_refl | refine tail_cons rfl ?_)) (obs_put (L := [(13, _), (720, _), (5, _), (12, _)]) ⟨h13, h720, h5, h12, trivial⟩ obs_refl)
  intro i hi
  dsimp only at hi ⊢
  have hal := atMid_len rows n e z i
  refine k2 ?_
  refine c_region ?_; refine l_neu (n_lss rfl rfl) rfl ?_; refine l_nil ?_
  refine k1 ?_; refine k2 ?_
  refine c_cond rfl (fun ht => ?_) (fun ht => ?_)
  · have hlt : i < n + 1 := by have := of_decide_eq_true ht; omega
    have hv : cs[i]? = some (cntC ((rows.drop e).take (z - e)) n i) := by rw [hcs]; unfold countsC; exact range_get (n + 1) i _ hlt
    have hg := atMid_get rows n e z i hlt
    have hst := atMid_set rows n e z i
    have hsp := cntC_split rows n i h1
    have b1 := cntC_nn (rows.take e) n i
    have b2 := cntC_nn ((rows.drop e).take (z - e)) n i
    have hte : (rows.take e).length = e := by rw [List.length_take]; omega
    have hv2 : (atMid rows n e z i)[((i : Nat) : Int).toNat]? = some (cntC (rows.take e) n i) := by rw [Int.toNat_natCast]; exact hg
    refine k5 ?_; refine k1 ?_; refine k2 ?_; refine k3 ?_; refine k2 ?_
    refine c_region ?_; refine l_neu (n_move rfl rfl) rfl ?_; refine l_neu (n_indexAddr rfl (.pure _ _ _ _) rfl (by omega) hv) rfl ?_; refine l_neu (n_load_eref rfl rfl) rfl ?_; refine l_neu (n_assign rfl rfl) rfl ?_; refine l_neu (n_assign rfl rfl) rfl ?_; refine l_nil ?_
    refine k1 ?_
    refine c_region ?_; refine l_neu (n_load_ref rfl rfl rfl) rfl ?_; refine l_neu (n_move rfl rfl) rfl ?_; refine l_neu (n_indexAddr_mut rfl rfl rfl (by omega) (by (rw [hal]; omega))) rfl ?_; refine l_neu (n_load_mref rfl rfl hv2 rfl) rfl ?_; refine l_neu (n_move rfl rfl) rfl ?_; refine l_neu (n_add rfl rfl (by omega)) rfl ?_; refine l_neu (n_indexAddr_mut rfl rfl rfl (by omega) (by (rw [hal]; omega))) rfl ?_; refine l_eff (e_store_mref1 TySz.out rfl rfl (by (rw [hal]; omega)) rfl rfl) ?_; refine l_nil ?_
    rw [Int.toNat_natCast, ← hsp, hst]
    refine k4 ?_; refine k1 ?_
    refine c_region ?_; refine l_neu (n_add rfl rfl (by omega)) rfl ?_; refine l_neu (n_move rfl rfl) rfl ?_; refine l_nil ?_
    refine k1 ?_
    refine ⟨i + 1, by omega, by omega, ?_⟩
    exact Sees.tailed ⟨le1 rfl, le1 rfl, le1 rfl, le1 rfl, le1 rfl, le1 rfl, le1 rfl, trivial⟩ hH (by repeat (first | exact tail_refl | refine tail_cons rfl ?_)) (obs_put (L := [(13, _), (720, _), (5, _), (12, _)]) ⟨rfl, rfl, rfl, rfl, trivial⟩ (by repeat (first | exact obs_refl | refine obs_skip rfl ?_)))
  have hin : i = n + 1 := by have := of_decide_eq_false ht; omega
  rw [hin, atMid_full]
  refine k6 ?_; refine k7 ?_; refine k7 ?_; refine k8 rfl ?_; refine k1 ?_
  refine c_region ?_; refine l_neu (n_move rfl rfl) rfl ?_; refine l_eff (e_store_ref TySz.out rfl rfl rfl rfl rfl rfl) ?_; refine l_nil ?_
  skip
  exact met_normal (rets0 rfl) (by repeat (first | exact tail_refl | refine tail_cons rfl ?_)) (obs_put (L := [(13, _), (720, _), (5, _), (12, _)]) ⟨rfl, rfl, rfl, rfl, trivial⟩ (by repeat (first | exact obs_refl | refine obs_skip rfl ?_))) ⟨rfl, rfl⟩
def ordB (n : Int) : Int → List Span → Bool
  | _, [] => true
  | e, s :: r => if s.From < e ∨ s.To ≤ s.From ∨ n < s.To then false else ordB n s.To r
theorem cordered_ok (sp : List Span) (n : Int) (hl : sp.length ≤ 536870912) : FnOk Tryz.prog 164 [pSpans sp, pInt n] (fun rs => rs = [pBool (ordB n 0 sp)]) := by
  obtain ⟨W, hW⟩ : ∃ W, W = ordB n 0 sp := ⟨_, rfl⟩
  rw [← hW]
  refine FnOk.intro Tryz.func164 (by decide) rfl rfl rfl rfl ?_
  refine k2 ?_
  refine c_region ?_; refine l_neu (n_assign rfl rfl) rfl ?_; refine l_nil ?_
  refine k1 ?_; refine k2 ?_
  refine c_region ?_; refine l_neu (n_assign rfl rfl) rfl ?_; refine l_nil ?_
  refine k1 ?_; refine k2 ?_; refine k2 ?_
  refine c_region ?_; refine l_neu (n_move rfl rfl) rfl ?_; refine l_neu (n_len rfl (.pure _ _ _ _)) rfl ?_; refine l_neu (n_move rfl rfl) rfl ?_; refine l_nil ?_
  refine k1 ?_; refine k3 ?_
  refine c_while (X := Nat × Int) (fun x => ([(1, sInt n), (5, sInt x.2), (8, sList Span 2 spanC sp), (9, sInt sp.length), (10, sInt x.1)], [])) (fun x => x.1 ≤ sp.length ∧ W = ordB n x.2 (sp.drop x.1)) (fun x => sp.length - x.1) (0, 0) ⟨Nat.zero_le _, hW⟩ (Sees.of ⟨le1 rfl, le1 rfl, le1 rfl, le1 rfl, le1 rfl, trivial⟩ trivial) ?_
  rintro ⟨k, e⟩ ⟨hk, hp⟩
  dsimp only at hk hp ⊢
  refine k2 ?_
  refine c_region ?_; refine l_neu (n_lss rfl rfl) rfl ?_; refine l_nil ?_
  refine k1 ?_; refine k2 ?_
  refine c_cond rfl (fun ht => ?_) (fun ht => ?_)
  rotate_left
  · have hkl : k = sp.length := by have := of_decide_eq_false ht; omega
    rw [hkl, List.drop_eq_nil_of_le (Nat.le_refl _)] at hp
    have hp : W = true := hp
    refine k6 ?_; refine k2 ?_
    refine c_region ?_; refine l_neu (n_assign rfl rfl) rfl ?_; refine l_nil ?_
    refine k1 ?_; refine k10 ?_
    exact ret_ret (ret1 rfl rfl rfl) (by rw [hp])
  have hlt : k < sp.length := by have := of_decide_eq_true ht; omega
  have hv : sp[k]? = some sp[k] := by simp [hlt]
  rw [List.drop_eq_getElem_cons hlt, ordB] at hp
  obtain ⟨s, hsd⟩ : ∃ s, s = sp[k] := ⟨_, rfl⟩
  rw [← hsd] at hp hv
  refine k5 ?_; refine k1 ?_; refine k2 ?_; refine k3 ?_; refine k2 ?_
  refine c_region ?_; refine l_neu (n_indexAddr rfl (.pure _ _ _ _) rfl (by omega) hv) rfl ?_; refine l_neu (n_loads_eref rfl rfl) rfl ?_; refine l_effv (f_alloc 757 rfl) rfl ?_; refine l_eff (e_store_ref TySz.out rfl rfl rfl rfl rfl rfl) ?_; refine l_nil ?_
  refine k1 ?_; refine k2 ?_; refine k2 ?_
  refine c_region ?_; refine l_neu (n_field_ref rfl) rfl ?_; refine l_neu (n_load_ref rfl rfl rfl) rfl ?_; refine l_neu (n_move rfl rfl) rfl ?_; refine l_neu (n_lss rfl rfl) rfl ?_; refine l_neu (n_move rfl rfl) rfl ?_; refine l_guard rfl rfl rfl rfl (fun hg => by rw [hg]; exact n_field_ref rfl) ?_; refine l_guard rfl rfl rfl rfl (fun hg => by rw [hg]; exact n_load_ref rfl rfl rfl) ?_; refine l_guard rfl rfl rfl rfl (fun hg => by rw [hg]; exact n_field_ref rfl) ?_; refine l_guard rfl rfl rfl rfl (fun hg => by rw [hg]; exact n_load_ref rfl rfl rfl) ?_; refine l_guard rfl rfl rfl rfl (fun hg => by rw [hg]; exact n_leq rfl rfl) ?_; refine l_neu (n_pick_bool rfl (fun h => by first | rfl | (rw [h]; rfl)) (fun h => by first | rfl | (rw [h]; rfl))) rfl ?_; refine l_neu (n_move rfl rfl) rfl ?_; refine l_guard rfl rfl rfl rfl (fun hg => by rw [hg]; exact n_field_ref rfl) ?_; refine l_guard rfl rfl rfl rfl (fun hg => by rw [hg]; exact n_load_ref rfl rfl rfl) ?_; refine l_guard rfl rfl rfl rfl (fun hg => by rw [hg]; exact n_move rfl rfl) ?_; refine l_guard rfl rfl rfl rfl (fun hg => by rw [hg]; exact n_gtr rfl rfl) ?_; refine l_neu (n_pick_bool rfl (fun h => by first | rfl | (rw [h]; rfl)) (fun h => by first | rfl | (rw [h]; rfl))) rfl ?_; refine l_nil ?_
  refine k1 ?_
  refine c_cond rfl (fun ht => ?_) (fun ht => ?_)
  · have hc : s.From < e ∨ s.To ≤ s.From ∨ n < s.To := by
      by_cases q1 : s.From < e
      · exact .inl q1
      · by_cases q2 : s.To ≤ s.From
        · exact .inr (.inl q2)
        · simp [q1, q2] at ht
          exact .inr (.inr ht)
    rw [if_pos hc] at hp
    refine k2 ?_
    refine c_region ?_; refine l_neu (n_assign rfl rfl) rfl ?_; refine l_nil ?_
    refine k1 ?_; refine k10 ?_; refine k11 ?_; refine k12 ?_; refine k11 ?_; refine k11 ?_; refine k12 ?_; refine k11 ?_
    exact ret_ret (ret1 rfl rfl rfl) (by rw [hp])
  have hc : ¬ (s.From < e ∨ s.To ≤ s.From ∨ n < s.To) := by
    rintro (q | q | q)
    · simp [q] at ht
    · simp [q] at ht
    · simp [q] at ht
  rw [if_neg hc] at hp
  refine k5 ?_; refine k1 ?_
  refine c_region ?_; refine l_neu (n_field_ref rfl) rfl ?_; refine l_neu (n_load_ref rfl rfl rfl) rfl ?_; refine l_neu (n_assign rfl rfl) rfl ?_; refine l_nil ?_
  refine k4 ?_; refine k1 ?_
  refine c_region ?_; refine l_neu (n_add rfl rfl (by omega)) rfl ?_; refine l_neu (n_move rfl rfl) rfl ?_; refine l_nil ?_
  refine k1 ?_
  exact ⟨(k + 1, s.To), ⟨hlt, hp⟩, by dsimp only; omega, Sees.of ⟨le1 rfl, le1 rfl, le1 rfl, le1 rfl, le1 rfl, trivial⟩ trivial⟩
end Go.Proofs.YtbiadkkamhpdnaaGreatDoor
namespace Go.Proofs.YtbiadkkamhpdnaaGreatDoor
open Go Go.AL
set_option maxRecDepth 100000
end Go.Proofs.YtbiadkkamhpdnaaGreatDoor
namespace Go.Proofs.YtbiadkkamhpdnaaGreatDoor
open Go Go.AL
set_option maxRecDepth 100000
end Go.Proofs.YtbiadkkamhpdnaaGreatDoor
namespace Go.Proofs.YtbiadkkamhpdnaaGreatDoor
open Go Go.AL
set_option maxRecDepth 100000
set_option maxHeartbeats 1000000
end Go.Proofs.YtbiadkkamhpdnaaGreatDoor
namespace Go.Proofs.YtbiadkkamhpdnaaGreatDoor
open Go Go.AL
set_option maxRecDepth 100000
end Go.Proofs.YtbiadkkamhpdnaaGreatDoor
namespace Go.Proofs.YtbiadkkamhpdnaaGreatDoor
open Go Go.AL
set_option maxRecDepth 100000
end Go.Proofs.YtbiadkkamhpdnaaGreatDoor
