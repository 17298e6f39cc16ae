/- Walks of the program's functions. -/
import Derived.Test.YtjjidificdmnmaaGreatDoorFc
import Derived.Test.YtjjidificdmnmaaGreatDoorFs
import Derived.Test.YtjjidificdmnmaaGreatDoorAn
namespace Go.Proofs.YtjjidificdmnmaaGreatDoor
open Go Go.AL
set_option maxRecDepth 100000
end Go.Proofs.YtjjidificdmnmaaGreatDoor
namespace Go.Proofs.YtjjidificdmnmaaGreatDoor
open Go Go.AL
set_option maxRecDepth 100000
end Go.Proofs.YtjjidificdmnmaaGreatDoor
namespace Go.Proofs.YtjjidificdmnmaaGreatDoor
open Go Go.AL
set_option maxRecDepth 100000
def pickA (raw : List Int) : Str := blobOf raw 0 9 5
def pickB (raw : List Int) : Str := nearOf (pickA raw) raw 100
theorem pickA_len (raw : List Int) : (pickA raw).length ≤ 36 := by
  have := blobOf_len raw 0 9 5 (by omega)
  unfold pickA; omega
theorem near_len (b : Str) (raw : List Int) (f : Int) : (nearOf b raw f).length ≤ 5 * b.length := by
  unfold nearOf
  have h1 := nearGo_len raw f (linesOf b) 0 []
  have h2 := linesOf_length b
  rw [linesOf_flatten] at h1
  simp at h1; omega
theorem pickB_len (raw : List Int) : (pickB raw).length ≤ 180 := by
  have := near_len (pickA raw) raw 100
  have := pickA_len raw
  unfold pickB; omega
end Go.Proofs.YtjjidificdmnmaaGreatDoor
namespace Go.Proofs.YtjjidificdmnmaaGreatDoor
open Go Go.AL
set_option maxRecDepth 100000
end Go.Proofs.YtjjidificdmnmaaGreatDoor
namespace Go.Proofs.YtjjidificdmnmaaGreatDoor
open Go Go.AL
set_option maxRecDepth 100000
end Go.Proofs.YtjjidificdmnmaaGreatDoor
namespace Go.Proofs.YtjjidificdmnmaaGreatDoor
open Go Go.AL
set_option maxRecDepth 100000
end Go.Proofs.YtjjidificdmnmaaGreatDoor
namespace Go.Proofs.YtjjidificdmnmaaGreatDoor
open Go Go.AL
set_option maxRecDepth 100000
end Go.Proofs.YtjjidificdmnmaaGreatDoor
namespace Go.Proofs.YtjjidificdmnmaaGreatDoor
open Go Go.AL
set_option maxRecDepth 100000
end Go.Proofs.YtjjidificdmnmaaGreatDoor
namespace Go.Proofs.YtjjidificdmnmaaGreatDoor
open Go Go.AL
set_option maxRecDepth 100000
end Go.Proofs.YtjjidificdmnmaaGreatDoor
namespace Go.Proofs.YtjjidificdmnmaaGreatDoor
open Go Go.AL
set_option maxRecDepth 100000
end Go.Proofs.YtjjidificdmnmaaGreatDoor
namespace Go.Proofs.YtjjidificdmnmaaGreatDoor
open Go Go.AL
set_option maxRecDepth 100000
end Go.Proofs.YtjjidificdmnmaaGreatDoor
namespace Go.Proofs.YtjjidificdmnmaaGreatDoor
open Go Go.AL
set_option maxRecDepth 100000
end Go.Proofs.YtjjidificdmnmaaGreatDoor
namespace Go.Proofs.YtjjidificdmnmaaGreatDoor
open Go Go.AL
set_option maxRecDepth 100000
end Go.Proofs.YtjjidificdmnmaaGreatDoor
namespace Go.Proofs.YtjjidificdmnmaaGreatDoor
open Go Go.AL
set_option maxRecDepth 100000
theorem script_cs {l : List Change} {m n : Int} (hok : ScOk 0 0 l m n) : ∀ c ∈ l, c.Old ≤ 4096 ∧ 0 ≤ c.OldLen ∧ c.OldLen ≤ 4096 ∧ 0 ≤ c.NewLen ∧ c.NewLen ≤ 4096 := by
  intro c hc
  obtain ⟨k, hk, rfl⟩ := List.mem_iff_getElem.1 hc
  have := hok.get k hk
  have e : cAt l k = l[k] := by unfold cAt; simp [hk]
  rw [e] at this
  obtain ⟨⟨_, h1⟩, ⟨h2, h3⟩, _, ⟨h4, h5⟩, _⟩ := this
  exact ⟨h1, h2, h3, h4, h5⟩
theorem matched_len {l : List Change} {m n : Int} (hm : m ≤ 4096) (hok : ScOk 0 0 l m n) : (matchedOf l m).length ≤ 4096 := by
  have := matchedGo_length l 0 0 m (by omega) 4096 (by omega) (fun c hc => ⟨by have := (script_cs hok c hc).1; omega, (script_cs hok c hc).2.1⟩)
  unfold matchedOf; omega
def PairAt (a b : List Int) (p : Span) : Prop := 0 ≤ p.From ∧ 0 ≤ p.To ∧ ∃ v, a[p.From.toNat]? = some v ∧ b[p.To.toNat]? = some v
theorem rPairs8_ok (l : List Change) (m n : Int) (hl : l.length ≤ 32768) (hc : check8 l m n = 0) :
    FnOk Tryz.prog 162 [pChanges l, pInt m, pInt n] (fun rs => rs = [pSpans (matchedOf l m), pInt 0]) := by
  obtain ⟨⟨_, hm⟩, _, hok⟩ := check8_ok hc
  have hcs : ∀ c ∈ l, c.Old ≤ 536870911 ∧ 0 ≤ c.OldLen ∧ c.OldLen ≤ 1048576 ∧ 0 ≤ c.NewLen ∧ c.NewLen ≤ 1048576 := by
    intro c hc
    have := script_cs hok c hc
    omega
  refine FnOk.intro Tryz.func162 (by decide) rfl rfl rfl rfl ?_
  refine k2 ?_
  refine c_region ?_; refine l_neu (n_assign rfl rfl) rfl ?_; refine l_neu (n_assign rfl rfl) rfl ?_; refine l_nil ?_
  refine k1 ?_; refine k2 ?_; refine k2 ?_
  refine c_region ?_; refine l_neu (n_move rfl rfl) rfl ?_; refine l_neu (n_move rfl rfl) rfl ?_; refine l_neu (n_move rfl rfl) rfl ?_; refine l_call (check8_walk l m n (by omega)) rfl rfl rfl ?_; rintro _ rfl; refine l_neu (n_assign rfl rfl) rfl ?_; refine l_nil ?_
  rw [hc]
  refine k1 ?_; refine k2 ?_
  refine c_region ?_; refine l_neu (n_move rfl rfl) rfl ?_; refine l_neu (n_neq rfl rfl) rfl ?_; refine l_nil ?_
  refine k1 ?_
  refine c_cond rfl (fun ht => ?_) (fun ht => ?_)
  · cases ht
  refine k5 ?_; refine k1 ?_; refine k2 ?_
  refine c_region ?_; refine l_neu (n_move rfl rfl) rfl ?_; refine l_neu (n_move rfl rfl) rfl ?_; refine l_call (matched_ok l m (by omega) (by omega) hcs) rfl rfl rfl ?_; rintro _ rfl; refine l_neu (n_assign rfl rfl) rfl ?_; refine l_neu (n_assign rfl rfl) rfl ?_; refine l_nil ?_
  refine k1 ?_; refine k10 ?_
  exact ret_ret (ret2 rfl rfl rfl rfl rfl) rfl
theorem rFits8_ok (l : List Change) (a b : List Int) (hl : l.length ≤ 32768) (hc : check8 l a.length b.length = 0) (hp : ∀ p ∈ matchedOf l a.length, PairAt a b p) :
    FnOk Tryz.prog 120 [pChanges l, pInts a, pInts b] (fun rs => rs = [pBool true]) := by
  obtain ⟨⟨_, ha⟩, ⟨_, hb⟩, hok⟩ := check8_ok hc
  have hpl := matched_len (by omega) hok
  obtain ⟨ps, hps⟩ : ∃ ps, ps = matchedOf l a.length := ⟨_, rfl⟩
  rw [← hps] at hpl
  refine FnOk.intro Tryz.func120 (by decide) rfl rfl rfl rfl ?_
  refine k2 ?_
  refine c_region ?_; refine l_neu (n_assign rfl rfl) rfl ?_; refine l_nil ?_
  refine k1 ?_; refine k2 ?_
  refine c_region ?_; refine l_neu (n_move rfl rfl) rfl ?_; refine l_neu (n_move rfl rfl) rfl ?_; refine l_neu (n_len rfl (.pure _ _ _ _)) rfl ?_; refine l_neu (n_move rfl rfl) rfl ?_; refine l_neu (n_len rfl (.pure _ _ _ _)) rfl ?_; refine l_call (rPairs8_ok l a.length b.length hl hc) rfl rfl rfl ?_; rintro _ rfl; refine l_neu (n_move rfl rfl) rfl ?_; refine l_neu (n_extract rfl rfl) rfl ?_; refine l_neu (n_extract rfl rfl) rfl ?_; refine l_neu (n_assign rfl rfl) rfl ?_; refine l_neu (n_assign rfl rfl) rfl ?_; refine l_nil ?_
  rw [← hps] at hp ⊢
  refine k1 ?_; refine k2 ?_; refine k2 ?_
  refine c_region ?_; refine l_neu (n_move rfl rfl) rfl ?_; refine l_neu (n_neq rfl rfl) rfl ?_; refine l_nil ?_
  refine k1 ?_
  refine c_cond rfl (fun ht => ?_) (fun ht => ?_)
  · cases ht
  refine k5 ?_; refine k1 ?_; refine k2 ?_; refine k2 ?_
  refine c_region ?_; refine l_neu (n_assign rfl rfl) rfl ?_; refine l_nil ?_
  refine k1 ?_; refine k3 ?_
  refine c_while (X := Nat) (fun k => ([(1, sList Int 1 intC a), (2, sList Int 1 intC b), (7, sList Span 2 spanC ps), (9, sInt k)], [])) (fun k => k ≤ ps.length) (fun k => ps.length - k) 0 (Nat.zero_le _) (Sees.of ⟨le1 rfl, le1 rfl, le1 rfl, le1 rfl, trivial⟩ trivial) ?_
  intro k hk
  dsimp only at hk ⊢
  refine k2 ?_; refine k2 ?_
  refine c_region ?_; refine l_neu (n_move rfl rfl) rfl ?_; refine l_neu (n_move rfl rfl) rfl ?_; refine l_neu (n_len rfl (.pure _ _ _ _)) rfl ?_; refine l_neu (n_lss rfl rfl) rfl ?_; refine l_nil ?_
  refine k1 ?_
  refine c_cond rfl (fun ht => ?_) (fun ht => ?_)
  · have hlt : k < ps.length := by have := of_decide_eq_true ht; omega
    obtain ⟨p, hpd⟩ : ∃ p, p = ps[k] := ⟨_, rfl⟩
    have hv : ps[k]? = some p := by rw [hpd]; simp [hlt]
    obtain ⟨h1, h2, v, h3, h4⟩ := hp p (List.mem_of_getElem? hv)
    have h5 := (List.getElem?_eq_some_iff.1 h3).1
    have h6 := (List.getElem?_eq_some_iff.1 h4).1
    refine k5 ?_; refine k1 ?_; refine k2 ?_; refine k3 ?_; refine k2 ?_
    refine c_region_draw (by kernel_rfl) (by kernel_rfl) ?_; refine d_neu (n_move rfl rfl) rfl rfl ?_; refine d_neu (n_move rfl rfl) rfl rfl ?_; refine d_neu (n_move rfl rfl) rfl rfl ?_; refine d_neu (n_indexAddr rfl (.pure _ _ _ _) rfl (by omega) hv) rfl rfl ?_; refine d_neu (n_field_eref rfl) rfl rfl ?_; refine d_neu (n_load_eref rfl rfl) rfl rfl ?_; refine d_neu (n_indexAddr rfl (.pure _ _ _ _) rfl (by omega) h3) rfl rfl ?_; refine d_neu (n_load_eref rfl rfl) rfl rfl ?_; refine d_neu (n_move rfl rfl) rfl rfl ?_; refine d_neu (n_move rfl rfl) rfl rfl ?_; refine d_neu (n_move rfl rfl) rfl rfl ?_; refine d_neu (n_indexAddr rfl (.pure _ _ _ _) rfl (by omega) hv) rfl rfl ?_; refine d_neu (n_field_eref rfl) rfl rfl ?_; refine d_neu (n_load_eref rfl rfl) rfl rfl ?_; refine d_neu (n_indexAddr rfl (.pure _ _ _ _) rfl (by omega) h4) rfl rfl ?_; refine d_neu (n_load_eref rfl rfl) rfl rfl ?_; refine d_neu (n_neq rfl rfl) rfl rfl ?_; refine d_nil ?_
    refine k1 ?_
    refine c_cond rfl (fun ht => ?_) (fun ht => ?_)
    · exact absurd (of_decide_eq_true ht) (by simp)
    refine k5 ?_; refine k4 ?_; refine k1 ?_
    refine c_region ?_; refine l_neu (n_move rfl rfl) rfl ?_; refine l_neu (n_add rfl rfl (by omega)) rfl ?_; refine l_neu (n_assign rfl rfl) rfl ?_; refine l_nil ?_
    refine k1 ?_
    exact ⟨k + 1, hlt, by omega, Sees.of ⟨le1 rfl, le1 rfl, le1 rfl, le1 rfl, trivial⟩ trivial⟩
  · refine k6 ?_; refine k2 ?_
    refine c_region ?_; refine l_neu (n_assign rfl rfl) rfl ?_; refine l_nil ?_
    refine k1 ?_; refine k10 ?_
    exact ret_ret (ret1 rfl rfl rfl) rfl
end Go.Proofs.YtjjidificdmnmaaGreatDoor
