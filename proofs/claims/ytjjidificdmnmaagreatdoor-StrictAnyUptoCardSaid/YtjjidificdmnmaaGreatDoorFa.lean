/- Walks of the program's functions. -/
import Derived.Test.YtjjidificdmnmaaGreatDoorTy
import Derived.Test.YtjjidificdmnmaaGreatDoorFs
import Derived.Test.YtjjidificdmnmaaGreatDoorSh
import Derived.Lib.AppendIntMem
namespace Go.Proofs.YtjjidificdmnmaaGreatDoor
open Go Go.AL
set_option maxRecDepth 100000
theorem ended_ok (s : Str) (hs : s.length ≤ 1099511627776) : FnOk Tryz.prog 63 [pStr s] (fun rs => rs = [pBool (ended s)]) := by
  refine FnOk.intro Tryz.func63 (by decide) rfl rfl rfl rfl ?_
  refine k2 ?_
  refine c_region ?_; refine l_neu (n_assign rfl rfl) rfl ?_; refine l_nil ?_
  refine k1 ?_; refine k2 ?_
  have hl : s ≠ [] → s[((s.length : Int) - 1).toNat]? = some (s.getLastD 0) := by
    intro h
    have h1 : 0 < s.length := List.length_pos_iff.2 h
    have h2 : ((s.length : Int) - 1).toNat = s.length - 1 := by omega
    rw [h2, ← List.getLast?_eq_getElem?, List.getLast?_eq_some_getLast h, List.getLastD_eq_getLast?, List.getLast?_eq_some_getLast h]
    rfl
  refine c_region ?_; refine l_neu (n_move rfl rfl) rfl ?_; refine l_neu (n_neq_s rfl rfl) rfl ?_; refine l_neu (n_move rfl rfl) rfl ?_; refine l_guard rfl rfl rfl rfl (fun hg => by rw [hg]; exact n_move rfl rfl) ?_; refine l_guard rfl rfl rfl rfl (fun hg => by rw [hg]; exact n_move rfl rfl) ?_; refine l_guard rfl rfl rfl rfl (fun hg => by rw [hg]; exact n_len_s rfl) ?_; refine l_guard rfl rfl rfl rfl (fun hg => by have hq := hg; (try simp at hq); rw [hg]; exact n_sub rfl rfl (by omega)) ?_; refine l_guard rfl rfl rfl rfl (fun hg => by have hq := hg; (try simp at hq); have h1 := List.length_pos_iff.2 hq; rw [hg]; exact n_index_s rfl rfl (by omega) (hl hq)) ?_; refine l_guard rfl rfl rfl rfl (fun hg => by rw [hg]; exact n_eql rfl rfl) ?_; refine l_neu (n_pick_bool rfl (fun h => by first | rfl | (rw [h]; rfl)) (fun h => by first | rfl | (rw [h]; rfl))) rfl ?_; refine l_neu (n_assign rfl rfl) rfl ?_; refine l_nil ?_
  refine k1 ?_; refine k10 ?_
  refine ret_ret (ret1 rfl rfl rfl) ?_
  rw [ended_eq]
theorem all_ok (l : List Str) (hl : l.flatten.length ≤ 536870912) : FnOk Tryz.prog 87 [pStrs l] (fun rs => rs = [pStr l.flatten]) := by
  refine FnOk.intro Tryz.func87 (by decide) rfl rfl rfl rfl ?_
  refine c_bound (t := 0) rfl (.pure _ _ _ _) fun hlen => ?_
  refine k2 ?_
  refine c_region ?_; refine l_neu (n_assign rfl rfl) rfl ?_; refine l_nil ?_
  refine k1 ?_; refine k2 ?_
  refine c_region ?_; refine l_effv (f_adopt 3 _ u8C rfl) rfl ?_; refine l_nil ?_
  refine k1 ?_; refine k2 ?_; refine k2 ?_
  refine c_region ?_; refine l_neu (n_assign rfl rfl) rfl ?_; refine l_nil ?_
  refine k1 ?_; refine k3 ?_
  refine c_while (X := Nat) (fun i => ([(0, sList Str 1 strC l), (3, .s (.one (.buf 3 UInt8 1 u8C (l.take i).flatten))), (4, sInt i)], [(3, .spare (l.take i).flatten.length 1 5)])) (fun i => i ≤ l.length) (fun i => l.length - i) 0 (by simp) (Sees.of ⟨le1 rfl, le1 rfl, le1 rfl, trivial⟩ ⟨rfl, trivial⟩) ?_
  intro i hi
  dsimp only at hi ⊢
  refine k2 ?_; refine k2 ?_
  refine c_region ?_; refine l_neu (n_move rfl rfl) rfl ?_; refine l_neu (n_move rfl rfl) rfl ?_; refine l_neu (n_len rfl (.pure _ _ _ _)) rfl ?_; refine l_neu (n_lss rfl rfl) rfl ?_; refine l_nil ?_
  refine k1 ?_
  refine c_cond rfl (fun ht => ?_) (fun ht => ?_)
  · have hlt : i < l.length := by simpa using ht
    have hv : l[i]? = some l[i] := by simp [hlt]
    have hf := flatten_take_succ l i hlt
    have hle := flatten_take_le l (i + 1)
    rw [hf, List.length_append] at hle
    refine k5 ?_; refine k1 ?_; refine k2 ?_; refine k3 ?_
    refine c_region ?_; refine l_neu (n_move rfl rfl) rfl ?_; refine l_neu (n_move rfl rfl) rfl ?_; refine l_neu (n_move rfl rfl) rfl ?_; refine l_neu (n_indexAddr rfl (.pure _ _ _ _) rfl (by omega) hv) rfl ?_; refine l_neu (n_load_eref rfl rfl) rfl ?_; refine l_effv (e_append_s TyStr.out rfl rfl rfl (by omega) rfl) rfl ?_; refine l_neu (n_assign rfl rfl) rfl ?_; refine l_nil ?_
    refine k4 ?_; refine k1 ?_
    refine c_region ?_; refine l_neu (n_move rfl rfl) rfl ?_; refine l_neu (n_add rfl rfl (by omega)) rfl ?_; refine l_neu (n_assign rfl rfl) rfl ?_; refine l_nil ?_
    refine k1 ?_
    refine ⟨i + 1, by omega, by omega, ?_⟩
    dsimp only
    rw [hf]
    exact Sees.of ⟨le1 rfl, le1 rfl, le1 rfl, trivial⟩ ⟨rfl, trivial⟩
  · have : i = l.length := by simp at ht; omega
    subst this
    refine k6 ?_; refine k2 ?_
    refine c_region ?_; refine l_neu (n_move rfl rfl) rfl ?_; refine l_neu (n_bytes_string TyStr.out rfl (.buf _ _ _ _ _)) rfl ?_; refine l_neu (n_assign rfl rfl) rfl ?_; refine l_nil ?_
    refine k1 ?_; refine k10 ?_
    exact ret_ret (ret1 rfl rfl rfl) (by simp)
theorem line_ok (s : Str) (hs : s.length ≤ 1099511627776) : FnOk Tryz.prog 124 [pStr s] (fun rs => rs = [pBool (lineOk s)]) := by
  refine FnOk.intro Tryz.func124 (by decide) rfl rfl rfl rfl ?_
  refine k2 ?_
  refine c_region ?_; refine l_neu (n_assign rfl rfl) rfl ?_; refine l_nil ?_
  refine k1 ?_; refine k2 ?_; refine k2 ?_
  refine c_region ?_; refine l_neu (n_assign rfl rfl) rfl ?_; refine l_nil ?_
  refine k1 ?_; refine k3 ?_
  refine c_while (X := Nat) (fun k => ([(0, sStr s), (3, sInt k)], [])) (fun k => k ≤ s.length ∧ lineOk s = ((s.dropLast.drop k).all (· ≠ 10) && s != [])) (fun k => s.length - k) 0 (by simp [lineOk]) (Sees.of ⟨le1 rfl, le1 rfl, trivial⟩ trivial) ?_
  intro k hk
  dsimp only at hk ⊢
  refine k2 ?_; refine k2 ?_
  refine c_region ?_; refine l_neu (n_move rfl rfl) rfl ?_; refine l_neu (n_add rfl rfl (by omega)) rfl ?_; refine l_neu (n_move rfl rfl) rfl ?_; refine l_neu (n_len_s rfl) rfl ?_; refine l_neu (n_lss rfl rfl) rfl ?_; refine l_nil ?_
  refine k1 ?_
  refine c_cond rfl (fun ht => ?_) (fun ht => ?_)
  · have hk2 : k + 1 < s.length := by have := of_decide_eq_true ht; omega
    have hvk : s[k]? = some (s[k]'(by omega)) := List.getElem?_eq_getElem (by omega)
    have hd : s.dropLast.drop k = s[k]'(by omega) :: s.dropLast.drop (k + 1) := by
      rw [List.drop_eq_getElem_cons (by simp; omega)]; simp
    rw [hd, List.all_cons] at hk
    refine k5 ?_; refine k1 ?_; refine k2 ?_; refine k3 ?_; refine k2 ?_
    refine c_region ?_; refine l_neu (n_move rfl rfl) rfl ?_; refine l_neu (n_move rfl rfl) rfl ?_; refine l_neu (n_index_s rfl rfl (by omega) hvk) rfl ?_; refine l_neu (n_eql rfl rfl) rfl ?_; refine l_nil ?_
    refine k1 ?_
    refine c_cond rfl (fun ht => ?_) (fun ht => ?_)
    · have h10 := (u8_lf _).1 (of_decide_eq_true ht)
      refine k2 ?_
      refine c_region ?_; refine l_neu (n_assign rfl rfl) rfl ?_; refine l_nil ?_
      refine k1 ?_; refine k10 ?_; refine k12 ?_; refine k11 ?_; refine k11 ?_; refine k12 ?_; refine k11 ?_
      exact ret_ret (ret1 rfl rfl rfl) (by rw [hk.2]; simp [h10])
    · have h10 : s[k]'(by omega) ≠ 10 := fun h => of_decide_eq_false ht ((u8_lf _).2 h)
      refine k5 ?_; refine k4 ?_; refine k1 ?_
      refine c_region ?_; refine l_neu (n_move rfl rfl) rfl ?_; refine l_neu (n_add rfl rfl (by omega)) rfl ?_; refine l_neu (n_assign rfl rfl) rfl ?_; refine l_nil ?_
      refine k1 ?_
      exact ⟨k + 1, ⟨by omega, by rw [hk.2]; simp [h10]⟩, by omega, Sees.of ⟨le1 rfl, le1 rfl, trivial⟩ trivial⟩
  · have hk2 : s.length ≤ k + 1 := by have := of_decide_eq_false ht; omega
    have hlo : lineOk s = (s != []) := by rw [hk.2, List.drop_eq_nil_of_le (by simp; omega)]; rfl
    refine k6 ?_; refine k2 ?_
    refine c_region ?_; refine l_neu (n_move rfl rfl) rfl ?_; refine l_neu (n_neq_s rfl rfl) rfl ?_; refine l_neu (n_assign rfl rfl) rfl ?_; refine l_nil ?_
    refine k1 ?_; refine k10 ?_
    exact ret_ret (ret1 rfl rfl rfl) (by rw [hlo]; by_cases h : s = [] <;> simp [h])
end Go.Proofs.YtjjidificdmnmaaGreatDoor
namespace Go.Proofs.YtjjidificdmnmaaGreatDoor
open Go Go.AL
set_option maxRecDepth 100000
end Go.Proofs.YtjjidificdmnmaaGreatDoor
namespace Go.Proofs.YtjjidificdmnmaaGreatDoor
open Go Go.AL
set_option maxRecDepth 100000
end Go.Proofs.YtjjidificdmnmaaGreatDoor
namespace Go.Proofs.YtjjidificdmnmaaGreatDoor
open Go Go.AL
set_option maxRecDepth 100000
end Go.Proofs.YtjjidificdmnmaaGreatDoor
namespace Go.Proofs.YtjjidificdmnmaaGreatDoor
open Go Go.AL
set_option maxRecDepth 100000
end Go.Proofs.YtjjidificdmnmaaGreatDoor
namespace Go.Proofs.YtjjidificdmnmaaGreatDoor
open Go Go.AL
set_option maxRecDepth 100000
theorem str_size' (s : Str) : (ByteArray.mk s.toArray).size = s.length := by simp [ByteArray.size]
theorem hasSuffix_ok (s p : Str) (hs : s.length ≤ 1099511627776) : FnOk Tryz.prog 147 [pStr s, pStr p] (fun rs => rs = [pBool (Lib.hasSuffix s p)]) :=
  FnOk.ofPlain (xs := [.string ⟨s.toArray⟩, .string ⟨p.toArray⟩]) ⟨_, rfl, rfl, rfl⟩ rfl fun w => by simpa using Tryz.strings_HasSuffix ⟨s.toArray⟩ ⟨p.toArray⟩ w (by rw [str_size']; omega)
theorem trimSuffix_ok (s p : Str) (hs : s.length ≤ 1099511627776) : FnOk Tryz.prog 171 [pStr s, pStr p] (fun rs => rs = [pStr (Lib.trimSuffix s p)]) :=
  FnOk.ofPlain (xs := [.string ⟨s.toArray⟩, .string ⟨p.toArray⟩]) ⟨_, rfl, rfl, rfl⟩ rfl fun w => by simpa using Tryz.strings_TrimSuffix ⟨s.toArray⟩ ⟨p.toArray⟩ w (by rw [str_size']; omega)
theorem contains1_ok (s : Str) (c : UInt8) : FnOk Tryz.prog 180 [pStr s, pStr [c]] (fun rs => rs = [pBool (decide (0 ≤ Lib.indexByte s c))]) :=
  FnOk.ofPlain (xs := [.string ⟨s.toArray⟩, .string ⟨#[c]⟩]) ⟨_, rfl, rfl, rfl⟩ rfl fun w => by simpa using Tryz.strings_Contains_one ⟨s.toArray⟩ c w
theorem tended_ok (s : Str) (hs : s.length ≤ 1099511627776) : FnOk Tryz.prog 100 [pStr s] (fun rs => rs = [pBool (ended s)]) := by
  refine FnOk.intro Tryz.func100 (by decide) rfl rfl rfl rfl ?_
  refine k2 ?_
  refine c_region ?_; refine l_neu (n_assign rfl rfl) rfl ?_; refine l_nil ?_
  refine k1 ?_; refine k2 ?_
  refine c_region ?_; refine l_neu (n_move rfl rfl) rfl ?_; refine l_call (hasSuffix_ok s [10] hs) rfl rfl rfl ?_; rintro _ rfl; refine l_neu (n_assign rfl rfl) rfl ?_; refine l_nil ?_
  rw [hasSuffix_lf]
  refine k1 ?_; refine k10 ?_
  exact ret_ret (ret1 rfl rfl rfl) rfl
theorem tbare_ok (s : Str) (hs : s.length ≤ 1099511627776) : FnOk Tryz.prog 181 [pStr s] (fun rs => rs = [pStr (bareOf s)]) := by
  refine FnOk.intro Tryz.func181 (by decide) rfl rfl rfl rfl ?_
  refine k2 ?_
  refine c_region ?_; refine l_neu (n_assign rfl rfl) rfl ?_; refine l_nil ?_
  refine k1 ?_; refine k2 ?_
  refine c_region ?_; refine l_neu (n_move rfl rfl) rfl ?_; refine l_call (trimSuffix_ok s [10] hs) rfl rfl rfl ?_; rintro _ rfl; refine l_neu (n_assign rfl rfl) rfl ?_; refine l_nil ?_
  rw [trimSuffix_lf]
  refine k1 ?_; refine k10 ?_
  exact ret_ret (ret1 rfl rfl rfl) rfl
end Go.Proofs.YtjjidificdmnmaaGreatDoor
namespace Go.Proofs.YtjjidificdmnmaaGreatDoor
open Go Go.AL
set_option maxRecDepth 100000
def isBld (ob : Obs) (xs : Str) : Prop := (∃ a, (a = .p (.v (.pointer none)) ∨ a = .ref 700 0) ∧ getO ob 700 = some (.tbx 132 [a, .buf 701 UInt8 1 u8C xs])) ∧ getO ob 701 = some (.spare xs.length 1 5)
abbrev bldObs (ob : Obs) (ys xs : Str) : Obs := (700, .tbx 132 [.ref 700 0, .buf 701 UInt8 1 u8C xs]) :: (701, .spare xs.length 1 5) :: Obs.forget 701 ((700, .tbx 132 [.ref 700 0, .buf 701 UInt8 1 u8C ys]) :: ob)
theorem copyCheck_met {gf : Fr} {ob : Obs} {a t : TC} (hk : getO ob 700 = some (.tbx 132 [a, t])) (ha : a = .p (.v (.pointer none)) ∨ a = .ref 700 0) :
    Met Tryz.prog 142 [.one (.ref 700 0)] gf ob [] (fun rs ob' => rs = [] ∧ ob' = (700, .tbx 132 [.ref 700 0, t]) :: ob) :=
  Met.copyCheck ⟨_, rfl, rfl, rfl⟩ (fun b w h1 h2 h3 => Any.Builder_copyCheck_fresh (ρ := Tryz.lays156_ren) { Tryz.lays156 with } Tryz.Builder_Extra_156.toX72 b w h1 h2 h3) (fun b w h => Any.Builder_copyCheck_used (ρ := Tryz.lays156_ren) { Tryz.lays156 with } Tryz.Builder_Extra_156.toX72 b w h) hk ha
theorem writeString_met {gf : Fr} {ob : Obs} {xs s : Str} (hb : isBld ob xs) (hlen : xs.length + s.length ≤ 1073741824) :
    Met Tryz.prog 96 [.one (.ref 700 0), .one (.p (.v (.string ⟨s.toArray⟩)))] gf ob [701] (fun rs ob' => rs = [.one (.p (.v (.int .i64 s.length))), .one (.p (.v .nilIface))] ∧ ob' = bldObs ob xs (xs ++ s)) := by
  obtain ⟨⟨a, ha, hk⟩, hk1⟩ := hb
  refine Met.intro Tryz.func96 (by decide) rfl rfl rfl ?_
  refine k2 ?_
  refine c_region ?_; refine l_neu (n_assign rfl rfl) rfl ?_; refine l_neu (n_assign rfl rfl) rfl ?_; refine l_nil ?_
  refine k1 ?_; refine k2 ?_
  refine c_region ?_; refine l_neu (n_move rfl rfl) rfl ?_; refine l_met (copyCheck_met hk ha) rfl rfl rfl ?_; rintro _ _ ⟨rfl, rfl⟩; refine l_nil ?_
  refine k1 ?_; refine k2 ?_
  refine c_region ?_; refine l_neu (n_move rfl rfl) rfl ?_; refine l_neu (n_move rfl rfl) rfl ?_; refine l_neu (n_nilCheck_ref rfl) rfl ?_; refine l_neu (n_field_ref rfl) rfl ?_; refine l_neu (n_load_tref rfl rfl rfl) rfl ?_; refine l_neu (n_move rfl rfl) rfl ?_; refine l_effv (e_append_s TyStr.out rfl hk1 rfl (by first | omega | (simp; omega)) rfl) rfl ?_; refine l_neu (n_nilCheck_ref rfl) rfl ?_; refine l_neu (n_field_ref rfl) rfl ?_; refine l_eff (e_store_tref TySz.out rfl rfl rfl rfl rfl rfl) ?_; refine l_nil ?_
  refine k1 ?_; refine k2 ?_
  refine c_region ?_; refine l_neu (n_move rfl rfl) rfl ?_; refine l_neu (n_len_s rfl) rfl ?_; refine l_neu (n_assign rfl rfl) rfl ?_; refine l_neu (n_assign rfl rfl) rfl ?_; refine l_nil ?_
  refine k1 ?_; refine k10 ?_
  exact met_ret (rets2 rfl rfl rfl) (by repeat (first | exact tail_refl | refine tail_cons rfl ?_ | refine tail_forget _ ?_)) (fun _ _ h => h) ⟨rfl, rfl⟩
theorem writeByte_met {gf : Fr} {ob : Obs} {xs : Str} {c : UInt8} (hb : isBld ob xs) (hlen : xs.length + 1 ≤ 1073741824) :
    Met Tryz.prog 99 [.one (.ref 700 0), .one (.p (.v (.int .u8 c.toNat)))] gf ob [701] (fun rs ob' => rs = [.one (.p (.v .nilIface))] ∧ ob' = bldObs ob xs (xs ++ [c])) := by
  obtain ⟨⟨a, ha, hk⟩, hk1⟩ := hb
  refine Met.intro Tryz.func99 (by decide) rfl rfl rfl ?_
  refine k2 ?_
  refine c_region ?_; refine l_neu (n_assign rfl rfl) rfl ?_; refine l_nil ?_
  refine k1 ?_; refine k2 ?_
  refine c_region ?_; refine l_neu (n_move rfl rfl) rfl ?_; refine l_met (copyCheck_met hk ha) rfl rfl rfl ?_; rintro _ _ ⟨rfl, rfl⟩; refine l_nil ?_
  refine k1 ?_; refine k2 ?_
  refine c_region ?_; refine l_neu (n_move rfl rfl) rfl ?_; refine l_neu (n_move rfl rfl) rfl ?_; refine l_neu (n_nilCheck_ref rfl) rfl ?_; refine l_neu (n_field_ref rfl) rfl ?_; refine l_neu (n_load_tref rfl rfl rfl) rfl ?_; refine l_neu (n_move rfl rfl) rfl ?_; refine l_neu (n_buildSlice (c := u8C) (ys := [c]) (asm_cons rfl rfl rfl rfl asm_nil) rfl rfl rfl) rfl ?_; refine l_effv (e_append rfl hk1 rfl (.pure _ _ _ _) (by (simp; omega)) rfl) rfl ?_; refine l_neu (n_nilCheck_ref rfl) rfl ?_; refine l_neu (n_field_ref rfl) rfl ?_; refine l_eff (e_store_tref TySz.out rfl rfl rfl rfl rfl rfl) ?_; refine l_nil ?_
  refine k1 ?_; refine k2 ?_
  refine c_region ?_; refine l_neu (n_assign rfl rfl) rfl ?_; refine l_nil ?_
  refine k1 ?_; refine k10 ?_
  exact met_ret (rets1 rfl rfl) (by repeat (first | exact tail_refl | refine tail_cons rfl ?_ | refine tail_forget _ ?_)) (fun _ _ h => h) ⟨rfl, rfl⟩
end Go.Proofs.YtjjidificdmnmaaGreatDoor
namespace Go.Proofs.YtjjidificdmnmaaGreatDoor
open Go Go.AL
set_option maxRecDepth 100000
theorem rplain_ok (c : UInt8) : FnOk Tryz.prog 128 [pByte c] (fun rs => rs = [pBool (plainB c)]) := by
  refine FnOk.intro Tryz.func128 (by decide) rfl rfl rfl rfl ?_
  refine k2 ?_
  refine c_region ?_; refine l_neu (n_assign rfl rfl) rfl ?_; refine l_nil ?_
  refine k1 ?_; refine k2 ?_
  refine c_region ?_; refine l_neu (n_move rfl rfl) rfl ?_; refine l_neu (n_geq rfl rfl) rfl ?_; refine l_neu (n_move rfl rfl) rfl ?_; refine l_guard rfl rfl rfl rfl (fun hg => by rw [hg]; exact n_move rfl rfl) ?_; refine l_guard rfl rfl rfl rfl (fun hg => by rw [hg]; exact n_leq rfl rfl) ?_; refine l_neu (n_pick_bool rfl (fun h => by first | rfl | (rw [h]; rfl)) (fun h => by first | rfl | (rw [h]; rfl))) rfl ?_; refine l_neu (n_move rfl rfl) rfl ?_; refine l_guard rfl rfl rfl rfl (fun hg => by rw [hg]; exact n_move rfl rfl) ?_; refine l_guard rfl rfl rfl rfl (fun hg => by rw [hg]; exact n_neq rfl rfl) ?_; refine l_neu (n_pick_bool rfl (fun h => by first | rfl | (rw [h]; rfl)) (fun h => by first | rfl | (rw [h]; rfl))) rfl ?_; refine l_neu (n_move rfl rfl) rfl ?_; refine l_guard rfl rfl rfl rfl (fun hg => by rw [hg]; exact n_move rfl rfl) ?_; refine l_guard rfl rfl rfl rfl (fun hg => by rw [hg]; exact n_neq rfl rfl) ?_; refine l_neu (n_pick_bool rfl (fun h => by first | rfl | (rw [h]; rfl)) (fun h => by first | rfl | (rw [h]; rfl))) rfl ?_; refine l_neu (n_assign rfl rfl) rfl ?_; refine l_nil ?_
  refine k1 ?_; refine k10 ?_
  refine ret_ret (ret1 rfl rfl rfl) ?_
  simp only [and_pick]
  congr 4
  unfold plainB
  congr 1
  simp; omega
theorem splain_ok (c : UInt8) : FnOk Tryz.prog 143 [pByte c] (fun rs => rs = [pBool (plainB c)]) := by
  refine FnOk.intro Tryz.func143 (by decide) rfl rfl rfl rfl ?_
  refine k2 ?_
  refine c_region ?_; refine l_neu (n_assign rfl rfl) rfl ?_; refine l_nil ?_
  refine k1 ?_; refine k2 ?_
  refine c_region ?_; refine l_neu (n_move rfl rfl) rfl ?_; refine l_neu (n_geq rfl rfl) rfl ?_; refine l_neu (n_move rfl rfl) rfl ?_; refine l_guard rfl rfl rfl rfl (fun hg => by rw [hg]; exact n_move rfl rfl) ?_; refine l_guard rfl rfl rfl rfl (fun hg => by rw [hg]; exact n_leq rfl rfl) ?_; refine l_neu (n_pick_bool rfl (fun h => by first | rfl | (rw [h]; rfl)) (fun h => by first | rfl | (rw [h]; rfl))) rfl ?_; refine l_neu (n_move rfl rfl) rfl ?_; refine l_guard rfl rfl rfl rfl (fun hg => by rw [hg]; exact n_move rfl rfl) ?_; refine l_guard rfl rfl rfl rfl (fun hg => by rw [hg]; exact n_neq rfl rfl) ?_; refine l_neu (n_pick_bool rfl (fun h => by first | rfl | (rw [h]; rfl)) (fun h => by first | rfl | (rw [h]; rfl))) rfl ?_; refine l_neu (n_move rfl rfl) rfl ?_; refine l_guard rfl rfl rfl rfl (fun hg => by rw [hg]; exact n_move rfl rfl) ?_; refine l_guard rfl rfl rfl rfl (fun hg => by rw [hg]; exact n_neq rfl rfl) ?_; refine l_neu (n_pick_bool rfl (fun h => by first | rfl | (rw [h]; rfl)) (fun h => by first | rfl | (rw [h]; rfl))) rfl ?_; refine l_neu (n_assign rfl rfl) rfl ?_; refine l_nil ?_
  refine k1 ?_; refine k10 ?_
  refine ret_ret (ret1 rfl rfl rfl) ?_
  simp only [and_pick]
  congr 4
  unfold plainB
  congr 1
  simp; omega
theorem rformat_ok (n : Int) : FnOk Tryz.prog 129 [pInt n] (fun rs => rs = [pStr (fmtOf n)]) := by
  obtain ⟨k, hk⟩ : ∃ k : Nat, n.toNat = k := ⟨_, rfl⟩
  induction k using Nat.strongRecOn generalizing n with
  | _ k ih =>
  refine FnOk.intro Tryz.func129 (by decide) rfl rfl rfl rfl ?_
  refine k2 ?_
  refine c_region ?_; refine l_neu (n_assign rfl rfl) rfl ?_; refine l_nil ?_
  refine k1 ?_; refine k2 ?_; refine k2 ?_
  refine c_region ?_; refine l_neu (n_move rfl rfl) rfl ?_; refine l_neu (n_lss rfl rfl) rfl ?_; refine l_neu (n_move rfl rfl) rfl ?_; refine l_guard rfl rfl rfl rfl (fun hg => by rw [hg]; exact n_move rfl rfl) ?_; refine l_guard rfl rfl rfl rfl (fun hg => by rw [hg]; exact n_gtr rfl rfl) ?_; refine l_neu (n_pick_bool rfl (fun h => by first | rfl | (rw [h]; rfl)) (fun h => by first | rfl | (rw [h]; rfl))) rfl ?_; refine l_nil ?_
  refine k1 ?_
  refine c_cond rfl (fun ht => ?_) (fun ht => ?_)
  · have h := of_decide_eq_true (or_pick.symm.trans ht)
    refine k2 ?_
    refine c_region ?_; refine l_neu (n_assign rfl rfl) rfl ?_; refine l_nil ?_
    refine k1 ?_; refine k10 ?_; refine k11 ?_
    exact ret_ret (ret1 rfl rfl rfl) (by rw [fmtOf, if_pos (by omega)])
  · have h := of_decide_eq_false (or_pick.symm.trans ht)
    refine k5 ?_; refine k1 ?_; refine k2 ?_; refine k2 ?_
    refine c_region ?_; refine l_neu (n_move rfl rfl) rfl ?_; refine l_neu (n_lss rfl rfl) rfl ?_; refine l_nil ?_
    refine k1 ?_
    refine c_cond rfl (fun ht => ?_) (fun ht => ?_)
    · have h2 := of_decide_eq_true ht
      refine k2 ?_
      refine c_region ?_; refine l_neu (n_move rfl rfl) rfl ?_; refine l_neu (n_move rfl rfl) rfl ?_; refine l_neu (n_add rfl rfl (by omega)) rfl ?_; refine l_neu (n_sub_lh rfl rfl rfl (by (first | omega | (simp; omega))) (by (first | omega | (simp; omega))) (by (first | omega | (simp; omega)))) rfl ?_; refine l_neu (n_assign rfl rfl) rfl ?_; refine l_nil ?_
      refine k1 ?_; refine k10 ?_; refine k11 ?_
      refine ret_ret (ret1 rfl rfl rfl) ?_
      rw [fmt_small n (by omega) h2]
      have e : (n + 1).toNat - n.toNat = 1 := by omega
      rw [e]; rfl
    · have h2 := of_decide_eq_false ht
      have hl := fmtOf_len (n / 10)
      have hq : IntKind.i64.wrap (n.tdiv 10) = n / 10 := by
        rw [i64_wrap_in] <;> rw [Int.tdiv_eq_ediv_of_nonneg (by omega)]; omega
      have hr : n.tmod 10 = n % 10 := Int.tmod_eq_emod_of_nonneg (by omega)
      have ihq : FnOk Tryz.prog 129 [pInt (IntKind.i64.wrap (n.tdiv 10))] (fun rs => rs = [pStr (fmtOf (n / 10))]) := by
        rw [hq]; exact ih (n / 10).toNat (by omega) (n / 10) rfl
      refine k5 ?_; refine k1 ?_; refine k2 ?_
      refine c_region_draw (by kernel_rfl) (by kernel_rfl) ?_; refine d_neu (n_move rfl rfl) rfl rfl ?_; refine d_neu (n_quo_w rfl rfl (by omega)) rfl rfl ?_; refine d_neu (n_call1 (ihq) rfl rfl) rfl rfl ?_; refine d_neu (n_move rfl rfl) rfl rfl ?_; refine d_neu (n_rem rfl rfl (by omega)) rfl rfl ?_; refine d_neu (n_move rfl rfl) rfl rfl ?_; refine d_neu (n_rem rfl rfl (by omega)) rfl rfl ?_; refine d_neu (n_add rfl rfl (by omega)) rfl rfl ?_; refine d_neu (n_sub_lh rfl rfl rfl (by (first | omega | (simp; omega))) (by (first | omega | (simp; omega))) (by (first | omega | (simp; omega)))) rfl rfl ?_; refine d_neu (n_add_s rfl rfl (by (simp; omega))) rfl rfl ?_; refine d_neu (n_assign rfl rfl) rfl rfl ?_; refine d_nil ?_
      refine k1 ?_; refine k10 ?_
      refine ret_ret (ret1 rfl rfl rfl) ?_
      rw [fmt_big n (by omega) (by omega)]
      rw [hr]
      have e : (n % 10 + 1).toNat - (n % 10).toNat = 1 := by omega
      rw [e]; rfl
theorem rrange_ok (a n : Int) (ha : -4611686018427387904 ≤ a ∧ a ≤ 4611686018427387904) (hn : -4611686018427387904 ≤ n ∧ n ≤ 4611686018427387904) : FnOk Tryz.prog 89 [pInt a, pInt n] (fun rs => rs = [pStr (rangeOf a n)]) := by
  refine FnOk.intro Tryz.func89 (by decide) rfl rfl rfl rfl ?_
  refine k2 ?_
  refine c_region ?_; refine l_neu (n_assign rfl rfl) rfl ?_; refine l_nil ?_
  refine k1 ?_; refine k2 ?_; refine k2 ?_
  refine c_region ?_; refine l_neu (n_move rfl rfl) rfl ?_; refine l_neu (n_lss rfl rfl) rfl ?_; refine l_neu (n_move rfl rfl) rfl ?_; refine l_guard rfl rfl rfl rfl (fun hg => by rw [hg]; exact n_move rfl rfl) ?_; refine l_guard rfl rfl rfl rfl (fun hg => by rw [hg]; exact n_lss rfl rfl) ?_; refine l_neu (n_pick_bool rfl (fun h => by first | rfl | (rw [h]; rfl)) (fun h => by first | rfl | (rw [h]; rfl))) rfl ?_; refine l_neu (n_move rfl rfl) rfl ?_; refine l_guard rfl rfl rfl rfl (fun hg => by rw [hg]; exact n_move rfl rfl) ?_; refine l_guard rfl rfl rfl rfl (fun hg => by rw [hg]; exact n_gtr rfl rfl) ?_; refine l_neu (n_pick_bool rfl (fun h => by first | rfl | (rw [h]; rfl)) (fun h => by first | rfl | (rw [h]; rfl))) rfl ?_; refine l_neu (n_move rfl rfl) rfl ?_; refine l_guard rfl rfl rfl rfl (fun hg => by rw [hg]; exact n_move rfl rfl) ?_; refine l_guard rfl rfl rfl rfl (fun hg => by rw [hg]; exact n_move rfl rfl) ?_; refine l_guard rfl rfl rfl rfl (fun hg => by rw [hg]; exact n_sub rfl rfl (by (first | omega | (simp at hq; omega)))) ?_; refine l_guard rfl rfl rfl rfl (fun hg => by rw [hg]; exact n_gtr rfl rfl) ?_; refine l_neu (n_pick_bool rfl (fun h => by first | rfl | (rw [h]; rfl)) (fun h => by first | rfl | (rw [h]; rfl))) rfl ?_; refine l_nil ?_
  refine k1 ?_
  have l1 := fmtOf_len a
  have l2 := fmtOf_len (a + 1)
  have l3 := fmtOf_len n
  refine c_cond rfl (fun ht => ?_) (fun ht => ?_)
  · have h := of_decide_eq_true ((by simp only [or_pick] at ht; exact ht) : decide _ = true)
    refine k2 ?_
    refine c_region ?_; refine l_neu (n_assign rfl rfl) rfl ?_; refine l_nil ?_
    refine k1 ?_; refine k10 ?_; refine k11 ?_
    exact ret_ret (ret1 rfl rfl rfl) (by rw [rangeOf, if_pos (by omega)])
  · have h := of_decide_eq_false ((by simp only [or_pick] at ht; exact ht) : decide _ = false)
    refine k5 ?_; refine k1 ?_; refine k2 ?_; refine k2 ?_
    refine c_region ?_; refine l_neu (n_move rfl rfl) rfl ?_; refine l_nil ?_
    refine k1 ?_; refine k3 ?_; refine k2 ?_
    refine c_region ?_; refine l_neu (n_eql rfl rfl) rfl ?_; refine l_neu (n_assign rfl rfl) rfl ?_; refine l_nil ?_
    refine k1 ?_
    refine c_cond rfl (fun ht => ?_) (fun ht => ?_)
    · have h0 := of_decide_eq_true ht
      refine k2 ?_
      refine c_region ?_; refine l_neu (n_move rfl rfl) rfl ?_; refine l_call (rformat_ok a) rfl rfl rfl ?_; rintro _ rfl; refine l_neu (n_add_s rfl rfl (by simp; omega)) rfl ?_; refine l_neu (n_assign rfl rfl) rfl ?_; refine l_nil ?_
      refine k1 ?_; refine k10 ?_; refine k12 ?_; refine k11 ?_
      exact ret_ret (ret1 rfl rfl rfl) (by rw [rangeOf, if_neg (by omega), if_pos h0])
    · have h0 := of_decide_eq_false ht
      refine k2 ?_
      refine c_region ?_; refine l_neu (n_eql rfl rfl) rfl ?_; refine l_neu (n_assign rfl rfl) rfl ?_; refine l_nil ?_
      refine k1 ?_
      refine c_cond rfl (fun ht => ?_) (fun ht => ?_)
      · have h1 := of_decide_eq_true ht
        refine k2 ?_
        refine c_region ?_; refine l_neu (n_move rfl rfl) rfl ?_; refine l_neu (n_add rfl rfl (by omega)) rfl ?_; refine l_call (rformat_ok (a + 1)) rfl rfl rfl ?_; rintro _ rfl; refine l_neu (n_assign rfl rfl) rfl ?_; refine l_nil ?_
        refine k1 ?_; refine k10 ?_; refine k12 ?_; refine k11 ?_
        exact ret_ret (ret1 rfl rfl rfl) (by rw [rangeOf, if_neg (by omega), if_neg h0, if_pos h1])
      · have h1 := of_decide_eq_false ht
        refine k5 ?_; refine k2 ?_
        refine c_region ?_; refine l_neu (n_move rfl rfl) rfl ?_; refine l_neu (n_add rfl rfl (by omega)) rfl ?_; refine l_call (rformat_ok (a + 1)) rfl rfl rfl ?_; rintro _ rfl; refine l_neu (n_add_s rfl rfl (by simp; omega)) rfl ?_; refine l_neu (n_move rfl rfl) rfl ?_; refine l_call (rformat_ok n) rfl rfl rfl ?_; rintro _ rfl; refine l_neu (n_add_s rfl rfl (by simp; omega)) rfl ?_; refine l_neu (n_assign rfl rfl) rfl ?_; refine l_nil ?_
        refine k1 ?_; refine k10 ?_
        exact ret_ret (ret1 rfl rfl rfl) (by rw [rangeOf, if_neg (by omega), if_neg h0, if_neg h1])
theorem digs8_len : ([48, 49, 50, 51, 52, 53, 54, 55] : Str).length = 8 := rfl
theorem u8q (c : UInt8) (k : Nat) : IntKind.u8.wrap ((c.toNat : Int).tdiv (k : Int)) = ((c.toNat / k : Nat) : Int) := by
  have hc := c.toNat_lt
  have h1 : (c.toNat : Int).tdiv (k : Int) = ((c.toNat / k : Nat) : Int) := by rw [Int.tdiv_eq_ediv_of_nonneg (by omega)]; simp
  have h2 : c.toNat / k ≤ c.toNat := Nat.div_le_self _ _
  rw [h1]
  generalize c.toNat / k = q at *
  rw [IntWalk.u8_in _ (by omega)]
theorem u8r (n k : Nat) : (n : Int).tmod (k : Int) = ((n % k : Nat) : Int) := by
  rw [Int.tmod_eq_emod_of_nonneg (by omega)]; simp
theorem u8s (n : Nat) (h : n < 255) : IntKind.u8.wrap ((n : Int) + 1) = ((n + 1 : Nat) : Int) := by
  rw [IntWalk.u8_in _ (by omega)]; simp
set_option maxHeartbeats 1000000 in
theorem rquote_ok (s : Str) (hs : s.length ≤ 16777216) : FnOk Tryz.prog 88 [pStr s] (fun rs => rs = [pStr (quoteOf s)]) := by
  refine FnOk.intro Tryz.func88 (by decide) rfl rfl rfl rfl ?_
  refine k2 ?_
  refine c_region ?_; refine l_neu (n_assign rfl rfl) rfl ?_; refine l_nil ?_
  refine k1 ?_; refine k2 ?_
  refine c_region ?_; refine l_neu (n_move rfl rfl) rfl ?_; refine l_neu (n_neq_s rfl rfl) rfl ?_; refine l_neu (n_assign rfl rfl) rfl ?_; refine l_nil ?_
  refine k1 ?_; refine k2 ?_
  refine c_region ?_; refine l_neu (n_assign rfl rfl) rfl ?_; refine l_nil ?_
  refine k1 ?_; refine k2 ?_; refine k2 ?_
  refine c_region ?_; refine l_neu (n_assign rfl rfl) rfl ?_; refine l_nil ?_
  refine k1 ?_; refine k3 ?_
  refine c_while (X := Nat) (fun i => ([(0, sStr s), (3, sVal (.bool (plains s i))), (4, sStr (34 :: escs s i)), (5, sInt i)], [])) (fun i => i ≤ s.length) (fun i => s.length - i) 0 (Nat.zero_le _) ?_ ?_
  · rw [plains_zero, escs_zero]
    first | exact Sees.of ⟨le1 rfl, le1 rfl, le1 rfl, le1 rfl, trivial⟩ trivial | trace_state
  intro i hi
  dsimp only at hi ⊢
  have hel := escs_len s i hi
  refine k2 ?_; refine k2 ?_
  refine c_region ?_; refine l_neu (n_move rfl rfl) rfl ?_; refine l_neu (n_move rfl rfl) rfl ?_; refine l_neu (n_len_s rfl) rfl ?_; refine l_neu (n_lss rfl rfl) rfl ?_; refine l_nil ?_
  refine k1 ?_
  refine c_cond rfl (fun ht => ?_) (fun ht => ?_)
  · have hlt : i < s.length := by have := of_decide_eq_true ht; omega
    have hv : s[i]? = some s[i] := by simp [hlt]
    obtain ⟨c, hc⟩ : ∃ c, c = s[i] := ⟨_, rfl⟩
    have h1 := escs_succ s i hlt
    have h2 := plains_succ s i hlt
    rw [← hc] at hv h1 h2
    have h3 := c.toNat_lt
    refine k5 ?_; refine k1 ?_; refine k2 ?_; refine k3 ?_; refine k2 ?_
    refine c_region ?_; refine l_neu (n_move rfl rfl) rfl ?_; refine l_neu (n_move rfl rfl) rfl ?_; refine l_neu (n_index_s rfl rfl (by omega) hv) rfl ?_; refine l_neu (n_assign rfl rfl) rfl ?_; refine l_nil ?_
    refine k1 ?_; refine k2 ?_
    refine c_region ?_; refine l_neu (n_move rfl rfl) rfl ?_; refine l_neu (n_move rfl rfl) rfl ?_; refine l_guard rfl rfl rfl rfl (fun hg => by rw [hg]; exact n_move rfl rfl) ?_; refine l_guard rfl rfl rfl rfl (fun hg => by have hq := hg; (try simp at hq); rw [hg]; exact n_call1 (rplain_ok c) rfl rfl) ?_; refine l_neu (n_pick_bool rfl (fun h => by first | rfl | (rw [h]; rfl)) (fun h => by first | rfl | (rw [h]; rfl))) rfl ?_; refine l_neu (n_assign rfl rfl) rfl ?_; refine l_nil ?_
    rw [show (if plains s i = true then plainB c else false) = plains s (i + 1) from by rw [h2]; cases plains s i <;> rfl]
    have hsub : (s.drop i).take 1 = [c] := by rw [List.drop_eq_getElem_cons hlt, ← hc]; rfl
    have hone : (i : Int).toNat = i ∧ ((i : Int) + 1).toNat - i = 1 := by omega
    refine k1 ?_; refine k3 ?_; refine k2 ?_
    refine c_region ?_; refine l_neu (n_move rfl rfl) rfl ?_; refine l_neu (n_eql rfl rfl) rfl ?_; refine l_neu (n_move rfl rfl) rfl ?_; refine l_guard rfl rfl rfl rfl (fun hg => by rw [hg]; exact n_move rfl rfl) ?_; refine l_guard rfl rfl rfl rfl (fun hg => by rw [hg]; exact n_eql rfl rfl) ?_; refine l_neu (n_pick_bool rfl (fun h => by first | rfl | (rw [h]; rfl)) (fun h => by first | rfl | (rw [h]; rfl))) rfl ?_; refine l_neu (n_assign rfl rfl) rfl ?_; refine l_nil ?_
    refine k1 ?_
    refine c_cond rfl (fun ht => ?_) (fun ht => ?_)
    · have h := of_decide_eq_true (or_pick.symm.trans ht)
      skip
      refine c_region ?_; refine l_neu (n_move rfl rfl) rfl ?_; refine l_neu (n_add_s rfl rfl (by (simp; omega))) rfl ?_; refine l_neu (n_move rfl rfl) rfl ?_; refine l_neu (n_move rfl rfl) rfl ?_; refine l_neu (n_move rfl rfl) rfl ?_; refine l_neu (n_add rfl rfl (by omega)) rfl ?_; refine l_neu (n_sub_lh rfl rfl rfl (by omega) (by omega) (by omega)) rfl ?_; refine l_neu (n_add_s rfl rfl (by (simp; omega))) rfl ?_; refine l_neu (n_assign rfl rfl) rfl ?_; refine l_nil ?_
      refine k4 ?_; refine k4 ?_; refine k1 ?_
      refine c_region ?_; refine l_neu (n_move rfl rfl) rfl ?_; refine l_neu (n_add rfl rfl (by omega)) rfl ?_; refine l_neu (n_assign rfl rfl) rfl ?_; refine l_nil ?_
      refine k1 ?_
      refine ⟨i + 1, hlt, by omega, ?_⟩
      rw [h1, show escOf c = _ from by rw [escOf, if_pos (by omega)]]
      rw [hone.1, hone.2, hsub, List.append_assoc]
      exact Sees.of ⟨le1 rfl, le1 rfl, le1 rfl, le1 rfl, trivial⟩ trivial
    · have h := of_decide_eq_false (or_pick.symm.trans ht)
      refine k2 ?_
      refine c_region ?_; refine l_neu (n_move rfl rfl) rfl ?_; refine l_neu (n_eql rfl rfl) rfl ?_; refine l_neu (n_assign rfl rfl) rfl ?_; refine l_nil ?_
      refine k1 ?_
      refine c_cond rfl (fun ht => ?_) (fun ht => ?_)
      · have h4 := of_decide_eq_true ht
        skip
        refine c_region ?_; refine l_neu (n_move rfl rfl) rfl ?_; refine l_neu (n_add_s rfl rfl (by simp; omega)) rfl ?_; refine l_neu (n_assign rfl rfl) rfl ?_; refine l_nil ?_
        refine k4 ?_; refine k4 ?_; refine k1 ?_
        refine c_region ?_; refine l_neu (n_move rfl rfl) rfl ?_; refine l_neu (n_add rfl rfl (by omega)) rfl ?_; refine l_neu (n_assign rfl rfl) rfl ?_; refine l_nil ?_
        refine k1 ?_
        refine ⟨i + 1, hlt, by omega, ?_⟩
        rw [h1, show escOf c = _ from by rw [escOf, if_neg (by omega), if_pos (by omega)]]
        exact Sees.of ⟨le1 rfl, le1 rfl, le1 rfl, le1 rfl, trivial⟩ trivial
      · have h4 := of_decide_eq_false ht
        refine k2 ?_
        refine c_region ?_; refine l_neu (n_move rfl rfl) rfl ?_; refine l_neu (n_eql rfl rfl) rfl ?_; refine l_neu (n_assign rfl rfl) rfl ?_; refine l_nil ?_
        refine k1 ?_
        refine c_cond rfl (fun ht => ?_) (fun ht => ?_)
        · have h5 := of_decide_eq_true ht
          skip
          refine c_region ?_; refine l_neu (n_move rfl rfl) rfl ?_; refine l_neu (n_add_s rfl rfl (by simp; omega)) rfl ?_; refine l_neu (n_assign rfl rfl) rfl ?_; refine l_nil ?_
          refine k4 ?_; refine k4 ?_; refine k1 ?_
          refine c_region ?_; refine l_neu (n_move rfl rfl) rfl ?_; refine l_neu (n_add rfl rfl (by omega)) rfl ?_; refine l_neu (n_assign rfl rfl) rfl ?_; refine l_nil ?_
          refine k1 ?_
          refine ⟨i + 1, hlt, by omega, ?_⟩
          rw [h1, show escOf c = _ from by rw [escOf, if_neg (by omega), if_neg (by omega), if_pos (by omega)]]
          exact Sees.of ⟨le1 rfl, le1 rfl, le1 rfl, le1 rfl, trivial⟩ trivial
        · have h5 := of_decide_eq_false ht
          refine k2 ?_
          refine c_region ?_; refine l_neu (n_move rfl rfl) rfl ?_; refine l_neu (n_lss rfl rfl) rfl ?_; refine l_neu (n_move rfl rfl) rfl ?_; refine l_guard rfl rfl rfl rfl (fun hg => by rw [hg]; exact n_move rfl rfl) ?_; refine l_guard rfl rfl rfl rfl (fun hg => by rw [hg]; exact n_gtr rfl rfl) ?_; refine l_neu (n_pick_bool rfl (fun h => by first | rfl | (rw [h]; rfl)) (fun h => by first | rfl | (rw [h]; rfl))) rfl ?_; refine l_neu (n_assign rfl rfl) rfl ?_; refine l_nil ?_
          refine k1 ?_
          refine c_cond rfl (fun ht => ?_) (fun ht => ?_)
          · have h6 := of_decide_eq_true (or_pick.symm.trans ht)
            have e1 : IntKind.u8.wrap ((c.toNat : Int).tdiv 64) = ((c.toNat / 64 : Nat) : Int) := u8q c 64
            have e2 : IntKind.u8.wrap ((c.toNat : Int).tdiv 8) = ((c.toNat / 8 : Nat) : Int) := u8q c 8
            have e3 : (IntKind.u8.wrap ((c.toNat : Int).tdiv 8)).tmod 8 = ((c.toNat / 8 % 8 : Nat) : Int) := by rw [e2]; exact u8r _ 8
            have e4 : (c.toNat : Int).tmod 8 = ((c.toNat % 8 : Nat) : Int) := u8r _ 8
            have e5 : IntKind.u8.wrap (IntKind.u8.wrap ((c.toNat : Int).tdiv 64) + 1) = ((c.toNat / 64 + 1 : Nat) : Int) := by rw [e1]; exact u8s _ (by omega)
            have e6 : IntKind.u8.wrap ((IntKind.u8.wrap ((c.toNat : Int).tdiv 8)).tmod 8 + 1) = ((c.toNat / 8 % 8 + 1 : Nat) : Int) := by rw [e3]; exact u8s _ (by omega)
            have e7 : IntKind.u8.wrap ((c.toNat : Int).tmod 8 + 1) = ((c.toNat % 8 + 1 : Nat) : Int) := by rw [e4]; exact u8s _ (by omega)
            have hol := octOf_len c
            have hob : escOf c = 92 :: octOf c := by rw [escOf, if_neg (by omega), if_neg (by omega), if_neg (by omega), if_pos (by omega)]
            have g1 : c.toNat / 64 < 8 := by omega
            skip
            refine c_region_draw (by kernel_rfl) (by kernel_rfl) ?_; refine d_neu (n_move rfl rfl) rfl rfl ?_; refine d_neu (n_add_s rfl rfl (by (simp; omega))) rfl rfl ?_; refine d_neu (n_move rfl rfl) rfl rfl ?_; refine d_neu (n_quo_w rfl rfl (by omega)) rfl rfl ?_; refine d_neu (n_move rfl rfl) rfl rfl ?_; refine d_neu (n_quo_w rfl rfl (by omega)) rfl rfl ?_; refine d_neu (n_add_w rfl rfl) rfl rfl ?_; refine d_neu (n_sub_lh rfl rfl rfl (by (first | omega | (simp only [digs8_len]; omega))) (by (first | omega | (simp only [digs8_len]; omega))) (by (first | omega | (simp only [digs8_len]; omega)))) rfl rfl ?_; refine d_neu (n_add_s rfl rfl (by (simp only [List.length_append, List.length_cons, List.length_nil, List.length_take, List.length_drop]; omega))) rfl rfl ?_; refine d_neu (n_move rfl rfl) rfl rfl ?_; refine d_neu (n_quo_w rfl rfl (by omega)) rfl rfl ?_; refine d_neu (n_rem rfl rfl (by omega)) rfl rfl ?_; refine d_neu (n_move rfl rfl) rfl rfl ?_; refine d_neu (n_quo_w rfl rfl (by omega)) rfl rfl ?_; refine d_neu (n_rem rfl rfl (by omega)) rfl rfl ?_; refine d_neu (n_add_w rfl rfl) rfl rfl ?_; refine d_neu (n_sub_lh rfl rfl rfl (by (first | omega | (simp only [digs8_len]; omega))) (by (first | omega | (simp only [digs8_len]; omega))) (by (first | omega | (simp only [digs8_len]; omega)))) rfl rfl ?_; refine d_neu (n_add_s rfl rfl (by (simp only [List.length_append, List.length_cons, List.length_nil, List.length_take, List.length_drop]; omega))) rfl rfl ?_; refine d_neu (n_move rfl rfl) rfl rfl ?_; refine d_neu (n_rem rfl rfl (by omega)) rfl rfl ?_; refine d_neu (n_move rfl rfl) rfl rfl ?_; refine d_neu (n_rem rfl rfl (by omega)) rfl rfl ?_; refine d_neu (n_add_w rfl rfl) rfl rfl ?_; refine d_neu (n_sub_lh rfl rfl rfl (by (first | omega | (simp only [digs8_len]; omega))) (by (first | omega | (simp only [digs8_len]; omega))) (by (first | omega | (simp only [digs8_len]; omega)))) rfl rfl ?_; refine d_neu (n_add_s rfl rfl (by (simp only [List.length_append, List.length_cons, List.length_nil, List.length_take, List.length_drop]; omega))) rfl rfl ?_; refine d_neu (n_assign rfl rfl) rfl rfl ?_; refine d_nil ?_
            have k1 : ∀ q : Nat, ((q + 1 : Nat) : Int).toNat - ((q : Nat) : Int).toNat = 1 := fun q => by omega
            refine k4 ?_; refine k4 ?_
            refine c_region ?_; refine l_neu (n_move rfl rfl) rfl ?_; refine l_neu (n_add rfl rfl (by omega)) rfl ?_; refine l_neu (n_assign rfl rfl) rfl ?_; refine l_nil ?_
            skip
            refine ⟨i + 1, hlt, by omega, ?_⟩
            rw [e5, e6, e7, e1, e3, e4, k1 (c.toNat / 64), k1 (c.toNat / 8 % 8), k1 (c.toNat % 8), h1, hob, show 34 :: (escs s i ++ (92 :: octOf c)) = 34 :: escs s i ++ [92] ++ (digs8.drop (c.toNat / 64)).take 1 ++ (digs8.drop (c.toNat / 8 % 8)).take 1 ++ (digs8.drop (c.toNat % 8)).take 1 from by unfold octOf; simp only [List.cons_append, List.append_assoc, List.nil_append]]
            exact Sees.of ⟨le1 rfl, le1 rfl, le1 rfl, le1 rfl, trivial⟩ trivial
          · have h6 := of_decide_eq_false (or_pick.symm.trans ht)
            skip
            refine c_region ?_; refine l_neu (n_move rfl rfl) rfl ?_; refine l_neu (n_move rfl rfl) rfl ?_; refine l_neu (n_move rfl rfl) rfl ?_; refine l_neu (n_move rfl rfl) rfl ?_; refine l_neu (n_add rfl rfl (by omega)) rfl ?_; refine l_neu (n_sub_lh rfl rfl rfl (by omega) (by omega) (by omega)) rfl ?_; refine l_neu (n_add_s rfl rfl (by simp; omega)) rfl ?_; refine l_neu (n_assign rfl rfl) rfl ?_; refine l_nil ?_
            refine k4 ?_; refine k4 ?_; refine k1 ?_
            refine c_region ?_; refine l_neu (n_move rfl rfl) rfl ?_; refine l_neu (n_add rfl rfl (by omega)) rfl ?_; refine l_neu (n_assign rfl rfl) rfl ?_; refine l_nil ?_
            refine k1 ?_
            refine ⟨i + 1, hlt, by omega, ?_⟩
            rw [h1, show escOf c = _ from by rw [escOf, if_neg (by omega), if_neg (by omega), if_neg (by omega), if_neg (by omega)]]
            rw [hone.1, hone.2, hsub]
            exact Sees.of ⟨le1 rfl, le1 rfl, le1 rfl, le1 rfl, trivial⟩ trivial
  · have hi' : i = s.length := by have := of_decide_eq_false ht; omega
    subst hi'
    refine k6 ?_; refine k2 ?_; refine k2 ?_
    refine c_region ?_; refine l_neu (n_move rfl rfl) rfl ?_; refine l_nil ?_
    refine k1 ?_
    refine c_cond rfl (fun ht => ?_) (fun ht => ?_)
    · have h : plains s s.length = true := ht
      refine k2 ?_
      refine c_region ?_; refine l_neu (n_move rfl rfl) rfl ?_; refine l_neu (n_assign rfl rfl) rfl ?_; refine l_nil ?_
      refine k1 ?_; refine k10 ?_; refine k11 ?_
      exact ret_ret (ret1 rfl rfl rfl) (by rw [quoteOf_eq, if_pos h])
    · have h : plains s s.length = false := ht
      refine k5 ?_; refine k1 ?_; refine k2 ?_
      refine c_region ?_; refine l_neu (n_move rfl rfl) rfl ?_; refine l_neu (n_add_s rfl rfl (by simp; omega)) rfl ?_; refine l_neu (n_assign rfl rfl) rfl ?_; refine l_nil ?_
      refine k1 ?_; refine k10 ?_
      exact ret_ret (ret1 rfl rfl rfl) (by rw [quoteOf_eq, h]; rfl)
end Go.Proofs.YtjjidificdmnmaaGreatDoor
namespace Go.Proofs.YtjjidificdmnmaaGreatDoor
open Go Go.AL Go.RowKit
set_option maxRecDepth 100000
theorem u8dig (q : Nat) (h : q < 8) : IntKind.u8.wrap (48 + (q : Int)) = ((UInt8.ofNat (48 + q)).toNat : Int) := by
  rw [IntWalk.u8_in _ (by omega)]
  have : (UInt8.ofNat (48 + q)).toNat = 48 + q := by rw [UInt8.toNat_ofNat']; omega
  rw [this]; simp
theorem and7_u8 (x : Nat) (h : x < 256) : IntKind.u8.wrap ((BitVec.ofInt IntKind.u8.bits (x : Int) &&& BitVec.ofInt IntKind.u8.bits 7).toNat : Int) = ((x % 8 : Nat) : Int) := by
  have h1 : (BitVec.ofInt IntKind.u8.bits (x : Int) &&& BitVec.ofInt IntKind.u8.bits 7).toNat = x % 8 := by
    rw [BitVec.toNat_and, BitVec.toNat_ofInt, BitVec.toNat_ofInt]
    have e1 : ((x : Int) % ((2 ^ IntKind.u8.bits : Nat) : Int)).toNat = x := by
      rw [show ((2 ^ IntKind.u8.bits : Nat) : Int) = 256 by rfl]; omega
    have e2 : ((7 : Int) % ((2 ^ IntKind.u8.bits : Nat) : Int)).toNat = 2 ^ 3 - 1 := by rfl
    rw [e1, e2, Nat.and_two_pow_sub_one_eq_mod]
  rw [h1, IntWalk.u8_in _ (by omega)]
theorem shr_u8 (x : Nat) (c : Nat) (h : c ≤ 8) : (x : Int).fdiv (2 ^ min (Int.toNat (c : Int)) IntKind.u8.bits) = ((x / 2 ^ c : Nat) : Int) := by
  rw [shr_eq _ _ IntKind.u8.bits ⟨by omega, by show (c : Int) ≤ 8; omega⟩]
  simp
theorem escaped_ok (c : UInt8) : FnOk Tryz.prog 144 [pByte c] (fun rs => rs = [pStr (escOf c)]) := by
  have hc := c.toNat_lt
  refine FnOk.intro Tryz.func144 (by decide) rfl rfl rfl rfl ?_
  refine k2 ?_
  refine c_region ?_; refine l_neu (n_assign rfl rfl) rfl ?_; refine l_nil ?_
  refine k1 ?_; refine k2 ?_; refine k3 ?_; refine k2 ?_
  refine c_region ?_; refine l_neu (n_move rfl rfl) rfl ?_; refine l_neu (n_eql rfl rfl) rfl ?_; refine l_neu (n_move rfl rfl) rfl ?_; refine l_guard rfl rfl rfl rfl (fun hg => by rw [hg]; exact n_move rfl rfl) ?_; refine l_guard rfl rfl rfl rfl (fun hg => by rw [hg]; exact n_eql rfl rfl) ?_; refine l_neu (n_pick_bool rfl (fun h => by first | rfl | (rw [h]; rfl)) (fun h => by first | rfl | (rw [h]; rfl))) rfl ?_; refine l_neu (n_assign rfl rfl) rfl ?_; refine l_nil ?_
  refine k1 ?_
  refine c_cond rfl (fun ht => ?_) (fun ht => ?_)
  · have h := of_decide_eq_true (or_pick.symm.trans ht)
    refine k2 ?_
    refine c_region ?_; refine l_neu (n_move rfl rfl) rfl ?_; refine l_neu (n_byte_string rfl (by omega)) rfl ?_; refine l_neu (n_add_s rfl rfl (by simp)) rfl ?_; refine l_neu (n_assign rfl rfl) rfl ?_; refine l_nil ?_
    refine k1 ?_; refine k10 ?_; refine k12 ?_; refine k11 ?_
    exact ret_ret (ret1 rfl rfl rfl) (by rw [escOf, if_pos (by omega)]; rfl)
  · have h := of_decide_eq_false (or_pick.symm.trans ht)
    refine k2 ?_
    refine c_region ?_; refine l_neu (n_move rfl rfl) rfl ?_; refine l_neu (n_eql rfl rfl) rfl ?_; refine l_neu (n_assign rfl rfl) rfl ?_; refine l_nil ?_
    refine k1 ?_
    refine c_cond rfl (fun ht => ?_) (fun ht => ?_)
    · have h1 := of_decide_eq_true ht
      refine k2 ?_
      refine c_region ?_; refine l_neu (n_assign rfl rfl) rfl ?_; refine l_nil ?_
      refine k1 ?_; refine k10 ?_; refine k12 ?_; refine k11 ?_
      exact ret_ret (ret1 rfl rfl rfl) (by rw [escOf, if_neg (by omega), if_pos (by omega)])
    · have h1 := of_decide_eq_false ht
      refine k2 ?_
      refine c_region ?_; refine l_neu (n_move rfl rfl) rfl ?_; refine l_neu (n_eql rfl rfl) rfl ?_; refine l_neu (n_assign rfl rfl) rfl ?_; refine l_nil ?_
      refine k1 ?_
      refine c_cond rfl (fun ht => ?_) (fun ht => ?_)
      · have h2 := of_decide_eq_true ht
        refine k2 ?_
        refine c_region ?_; refine l_neu (n_assign rfl rfl) rfl ?_; refine l_nil ?_
        refine k1 ?_; refine k10 ?_; refine k12 ?_; refine k11 ?_
        exact ret_ret (ret1 rfl rfl rfl) (by rw [escOf, if_neg (by omega), if_neg (by omega), if_pos (by omega)])
      · have h2 := of_decide_eq_false ht
        refine k2 ?_
        refine c_region ?_; refine l_neu (n_move rfl rfl) rfl ?_; refine l_neu (n_lss rfl rfl) rfl ?_; refine l_neu (n_move rfl rfl) rfl ?_; refine l_guard rfl rfl rfl rfl (fun hg => by rw [hg]; exact n_move rfl rfl) ?_; refine l_guard rfl rfl rfl rfl (fun hg => by rw [hg]; exact n_gtr rfl rfl) ?_; refine l_neu (n_pick_bool rfl (fun h => by first | rfl | (rw [h]; rfl)) (fun h => by first | rfl | (rw [h]; rfl))) rfl ?_; refine l_neu (n_assign rfl rfl) rfl ?_; refine l_nil ?_
        refine k1 ?_
        refine c_cond rfl (fun ht => ?_) (fun ht => ?_)
        · have h3 := of_decide_eq_true (or_pick.symm.trans ht)
          refine k2 ?_
          have f6 : (c.toNat : Int).fdiv (2 ^ min (Int.toNat 6) IntKind.u8.bits) = ((c.toNat / 64 : Nat) : Int) := shr_u8 c.toNat 6 (by omega)
          have f3 : (c.toNat : Int).fdiv (2 ^ min (Int.toNat 3) IntKind.u8.bits) = ((c.toNat / 8 : Nat) : Int) := shr_u8 c.toNat 3 (by omega)
          have e1 := u8dig (c.toNat / 64) (by omega)
          have e2 := u8dig (c.toNat / 8 % 8) (by omega)
          have e3 := u8dig (c.toNat % 8) (by omega)
          have hol := octOf_bytes c
          refine c_region ?_; refine l_neu (n_move rfl rfl) rfl ?_; refine l_neu (n_shr rfl rfl (by omega)) rfl ?_; refine l_neu (n_add_w rfl rfl) rfl ?_; refine l_neu (n_move rfl rfl) rfl ?_; refine l_neu (n_shr rfl rfl (by omega)) rfl ?_; refine l_neu (n_bits rfl rfl rfl (fun _ => rfl)) rfl ?_; refine l_neu (n_add_w rfl rfl) rfl ?_; refine l_neu (n_move rfl rfl) rfl ?_; refine l_neu (n_bits rfl rfl rfl (fun _ => rfl)) rfl ?_; refine l_neu (n_add_w rfl rfl) rfl ?_; rw [f6, f3, and7_u8 (c.toNat / 8) (by omega), and7_u8 c.toNat (by omega), e1, e2, e3]; refine l_neu (n_buildSlice (c := u8C) (ys := [UInt8.ofNat (48 + c.toNat / 64), UInt8.ofNat (48 + c.toNat / 8 % 8), UInt8.ofNat (48 + c.toNat % 8)]) (asm_cons rfl rfl rfl rfl (asm_cons rfl rfl rfl rfl (asm_cons rfl rfl rfl rfl asm_nil))) rfl rfl rfl) rfl ?_; refine l_neu (n_bytes_string TyStr.out rfl (.pure _ _ _ _)) rfl ?_; refine l_neu (n_add_s rfl rfl (by simp)) rfl ?_; refine l_neu (n_assign rfl rfl) rfl ?_; refine l_nil ?_
          refine k1 ?_; refine k10 ?_; refine k12 ?_; refine k11 ?_
          exact ret_ret (ret1 rfl rfl rfl) (by rw [escOf, if_neg (by omega), if_neg (by omega), if_neg (by omega), if_pos (by omega), hol]; rfl)
        · have h3 := of_decide_eq_false (or_pick.symm.trans ht)
          refine k5 ?_; refine k2 ?_
          refine c_region ?_; refine l_neu (n_move rfl rfl) rfl ?_; refine l_neu (n_byte_string rfl (by omega)) rfl ?_; refine l_neu (n_assign rfl rfl) rfl ?_; refine l_nil ?_
          refine k1 ?_; refine k10 ?_
          exact ret_ret (ret1 rfl rfl rfl) (by rw [escOf, if_neg (by omega), if_neg (by omega), if_neg (by omega), if_neg (by omega)])
theorem itoa_ok (n : Int) (h : 0 ≤ n ∧ n ≤ 2147483647) : FnOk Tryz.prog 195 [pInt n] (fun rs => rs = [pStr (Lib.itoa n)]) :=
  FnOk.ofPlainG (xs := [.int .i64 n]) (r := .string ⟨(Lib.itoa n).toArray⟩) ⟨_, rfl, rfl, rfl⟩ rfl fun w hw =>
    (Tryz.strconv_Itoa n (by omega) (by omega) w (hw.pow10 rfl)).mono fun e w' ⟨he, k, os, hw'⟩ => ⟨he, by subst hw'; exact Lib.below_grow _ _ (Nat.le_refl _) _ _⟩
theorem sformat_ok (n : Int) : FnOk Tryz.prog 179 [pInt n] (fun rs => rs = [pStr (fmtOf n)]) := by
  refine FnOk.intro Tryz.func179 (by decide) rfl rfl rfl rfl ?_
  refine k2 ?_
  refine c_region ?_; refine l_neu (n_assign rfl rfl) rfl ?_; refine l_nil ?_
  refine k1 ?_; refine k2 ?_; refine k2 ?_
  refine c_region ?_; refine l_neu (n_move rfl rfl) rfl ?_; refine l_neu (n_lss rfl rfl) rfl ?_; refine l_neu (n_move rfl rfl) rfl ?_; refine l_guard rfl rfl rfl rfl (fun hg => by rw [hg]; exact n_move rfl rfl) ?_; refine l_guard rfl rfl rfl rfl (fun hg => by rw [hg]; exact n_gtr rfl rfl) ?_; refine l_neu (n_pick_bool rfl (fun h => by first | rfl | (rw [h]; rfl)) (fun h => by first | rfl | (rw [h]; rfl))) rfl ?_; refine l_nil ?_
  refine k1 ?_
  refine c_cond rfl (fun ht => ?_) (fun ht => ?_)
  · have h := of_decide_eq_true (or_pick.symm.trans ht)
    refine k2 ?_
    refine c_region ?_; refine l_neu (n_assign rfl rfl) rfl ?_; refine l_nil ?_
    refine k1 ?_; refine k10 ?_; refine k11 ?_
    exact ret_ret (ret1 rfl rfl rfl) (by rw [fmtOf, if_pos (by omega)])
  · have h := of_decide_eq_false (or_pick.symm.trans ht)
    refine k5 ?_; refine k1 ?_; refine k2 ?_
    refine c_region ?_; refine l_neu (n_move rfl rfl) rfl ?_; refine l_call (itoa_ok n (by omega)) rfl rfl rfl ?_; rintro _ rfl; refine l_neu (n_assign rfl rfl) rfl ?_; refine l_nil ?_
    refine k1 ?_; refine k10 ?_
    exact ret_ret (ret1 rfl rfl rfl) (by rw [fmtOf, if_neg (by omega)])
theorem srange_ok (a n : Int) (ha : -4611686018427387904 ≤ a ∧ a ≤ 4611686018427387904) (hn : -4611686018427387904 ≤ n ∧ n ≤ 4611686018427387904) : FnOk Tryz.prog 146 [pInt a, pInt n] (fun rs => rs = [pStr (rangeOf a n)]) := by
  refine FnOk.intro Tryz.func146 (by decide) rfl rfl rfl rfl ?_
  refine k2 ?_
  refine c_region ?_; refine l_neu (n_assign rfl rfl) rfl ?_; refine l_nil ?_
  refine k1 ?_; refine k2 ?_; refine k2 ?_
  refine c_region ?_; refine l_neu (n_move rfl rfl) rfl ?_; refine l_neu (n_lss rfl rfl) rfl ?_; refine l_neu (n_move rfl rfl) rfl ?_; refine l_guard rfl rfl rfl rfl (fun hg => by rw [hg]; exact n_move rfl rfl) ?_; refine l_guard rfl rfl rfl rfl (fun hg => by rw [hg]; exact n_lss rfl rfl) ?_; refine l_neu (n_pick_bool rfl (fun h => by first | rfl | (rw [h]; rfl)) (fun h => by first | rfl | (rw [h]; rfl))) rfl ?_; refine l_neu (n_move rfl rfl) rfl ?_; refine l_guard rfl rfl rfl rfl (fun hg => by rw [hg]; exact n_move rfl rfl) ?_; refine l_guard rfl rfl rfl rfl (fun hg => by rw [hg]; exact n_gtr rfl rfl) ?_; refine l_neu (n_pick_bool rfl (fun h => by first | rfl | (rw [h]; rfl)) (fun h => by first | rfl | (rw [h]; rfl))) rfl ?_; refine l_neu (n_move rfl rfl) rfl ?_; refine l_guard rfl rfl rfl rfl (fun hg => by rw [hg]; exact n_move rfl rfl) ?_; refine l_guard rfl rfl rfl rfl (fun hg => by rw [hg]; exact n_move rfl rfl) ?_; refine l_guard rfl rfl rfl rfl (fun hg => by rw [hg]; exact n_sub rfl rfl (by (first | omega | (simp at hq; omega)))) ?_; refine l_guard rfl rfl rfl rfl (fun hg => by rw [hg]; exact n_gtr rfl rfl) ?_; refine l_neu (n_pick_bool rfl (fun h => by first | rfl | (rw [h]; rfl)) (fun h => by first | rfl | (rw [h]; rfl))) rfl ?_; refine l_nil ?_
  refine k1 ?_
  have l1 := fmtOf_len a
  have l2 := fmtOf_len (a + 1)
  have l3 := fmtOf_len n
  refine c_cond rfl (fun ht => ?_) (fun ht => ?_)
  · have h := of_decide_eq_true ((by simp only [or_pick] at ht; exact ht) : decide _ = true)
    refine k2 ?_
    refine c_region ?_; refine l_neu (n_assign rfl rfl) rfl ?_; refine l_nil ?_
    refine k1 ?_; refine k10 ?_; refine k11 ?_
    exact ret_ret (ret1 rfl rfl rfl) (by rw [rangeOf, if_pos (by omega)])
  · have h := of_decide_eq_false ((by simp only [or_pick] at ht; exact ht) : decide _ = false)
    refine k5 ?_; refine k1 ?_; refine k2 ?_; refine k2 ?_
    refine c_region ?_; refine l_neu (n_move rfl rfl) rfl ?_; refine l_nil ?_
    refine k1 ?_; refine k3 ?_; refine k2 ?_
    refine c_region ?_; refine l_neu (n_eql rfl rfl) rfl ?_; refine l_neu (n_assign rfl rfl) rfl ?_; refine l_nil ?_
    refine k1 ?_
    refine c_cond rfl (fun ht => ?_) (fun ht => ?_)
    · have h0 := of_decide_eq_true ht
      refine k2 ?_
      refine c_region ?_; refine l_neu (n_move rfl rfl) rfl ?_; refine l_call (sformat_ok a) rfl rfl rfl ?_; rintro _ rfl; refine l_neu (n_add_s rfl rfl (by simp; omega)) rfl ?_; refine l_neu (n_assign rfl rfl) rfl ?_; refine l_nil ?_
      refine k1 ?_; refine k10 ?_; refine k12 ?_; refine k11 ?_
      exact ret_ret (ret1 rfl rfl rfl) (by rw [rangeOf, if_neg (by omega), if_pos h0])
    · have h0 := of_decide_eq_false ht
      refine k2 ?_
      refine c_region ?_; refine l_neu (n_eql rfl rfl) rfl ?_; refine l_neu (n_assign rfl rfl) rfl ?_; refine l_nil ?_
      refine k1 ?_
      refine c_cond rfl (fun ht => ?_) (fun ht => ?_)
      · have h1 := of_decide_eq_true ht
        refine k2 ?_
        refine c_region ?_; refine l_neu (n_move rfl rfl) rfl ?_; refine l_neu (n_add rfl rfl (by omega)) rfl ?_; refine l_call (sformat_ok (a + 1)) rfl rfl rfl ?_; rintro _ rfl; refine l_neu (n_assign rfl rfl) rfl ?_; refine l_nil ?_
        refine k1 ?_; refine k10 ?_; refine k12 ?_; refine k11 ?_
        exact ret_ret (ret1 rfl rfl rfl) (by rw [rangeOf, if_neg (by omega), if_neg h0, if_pos h1])
      · have h1 := of_decide_eq_false ht
        refine k5 ?_; refine k2 ?_
        refine c_region ?_; refine l_neu (n_move rfl rfl) rfl ?_; refine l_neu (n_add rfl rfl (by omega)) rfl ?_; refine l_call (sformat_ok (a + 1)) rfl rfl rfl ?_; rintro _ rfl; refine l_neu (n_add_s rfl rfl (by simp; omega)) rfl ?_; refine l_neu (n_move rfl rfl) rfl ?_; refine l_call (sformat_ok n) rfl rfl rfl ?_; rintro _ rfl; refine l_neu (n_add_s rfl rfl (by simp; omega)) rfl ?_; refine l_neu (n_assign rfl rfl) rfl ?_; refine l_nil ?_
        refine k1 ?_; refine k10 ?_
        exact ret_ret (ret1 rfl rfl rfl) (by rw [rangeOf, if_neg (by omega), if_neg h0, if_neg h1])
theorem bstring_calls (B b : Nat) (l : List UInt8) (w : World) (h : Lib.IsBuilder 132 5 B b (Lib.byteCells l) w) (hBw : B ≤ w.heap.size) :
    Calls Tryz.prog 101 #[.pointer (some ⟨b, 0, none⟩)] w fun e w' => e = .returned (.string ⟨l.toArray⟩) ∧ Below B w w' := Tryz.Builder_String_any B b l w h hBw
theorem squote_ok (s : Str) (hs : s.length ≤ 16777216) : FnOk Tryz.prog 97 [pStr s] (fun rs => rs = [pStr (quoteOf s)]) := by
  refine FnOk.intro Tryz.func97 (by decide) rfl rfl rfl rfl ?_
  refine k2 ?_
  refine c_region ?_; refine l_neu (n_assign rfl rfl) rfl ?_; refine l_nil ?_
  refine k1 ?_; refine k2 ?_
  refine c_region ?_; refine l_neu (n_move rfl rfl) rfl ?_; refine l_neu (n_neq_s rfl rfl) rfl ?_; refine l_neu (n_assign rfl rfl) rfl ?_; refine l_nil ?_
  refine k1 ?_; refine k2 ?_; refine k2 ?_
  refine c_region ?_; refine l_neu (n_move rfl rfl) rfl ?_; refine l_neu (n_len_s rfl) rfl ?_; refine l_neu (n_move rfl rfl) rfl ?_; refine l_nil ?_
  refine k1 ?_; refine k3 ?_
  refine c_while (X := Nat) (fun i => ([(0, sStr s), (3, sVal (.bool (plains s i))), (10, sInt s.length), (11, sInt i)], [])) (fun i => i ≤ s.length) (fun i => s.length - i) 0 (Nat.zero_le _) ?_ ?_
  · rw [plains_zero]
    exact Sees.of ⟨le1 rfl, le1 rfl, le1 rfl, le1 rfl, trivial⟩ trivial
  intro i hi
  dsimp only at hi ⊢
  refine k2 ?_
  refine c_region ?_; refine l_neu (n_lss rfl rfl) rfl ?_; refine l_nil ?_
  refine k1 ?_; refine k2 ?_
  refine c_cond rfl (fun ht => ?_) (fun ht => ?_)
  · have hlt : i < s.length := by have := of_decide_eq_true ht; omega
    have hv : s[i]? = some s[i] := by simp [hlt]
    obtain ⟨c, hc⟩ : ∃ c, c = s[i] := ⟨_, rfl⟩
    have h2 := plains_succ s i hlt
    rw [← hc] at hv h2
    refine k5 ?_; refine k1 ?_; refine k2 ?_; refine k3 ?_; refine k2 ?_
    refine c_region ?_; refine l_neu (n_move rfl rfl) rfl ?_; refine l_neu (n_assign rfl rfl) rfl ?_; refine l_nil ?_
    refine k1 ?_
    refine c_region ?_; refine l_neu (n_move rfl rfl) rfl ?_; refine l_neu (n_move rfl rfl) rfl ?_; refine l_guard rfl rfl rfl rfl (fun hg => by rw [hg]; exact n_move rfl rfl) ?_; refine l_guard rfl rfl rfl rfl (fun hg => by rw [hg]; exact n_move rfl rfl) ?_; refine l_guard rfl rfl rfl rfl (fun hg => by have hq := hg; (try simp at hq); rw [hg]; exact n_index_s rfl rfl (by omega) hv) ?_; refine l_guard rfl rfl rfl rfl (fun hg => by have hq := hg; (try simp at hq); rw [hg]; exact n_call1 (splain_ok c) rfl rfl) ?_; refine l_neu (n_pick_bool rfl (fun h => by first | rfl | (rw [h]; rfl)) (fun h => by first | rfl | (rw [h]; rfl))) rfl ?_; refine l_neu (n_assign rfl rfl) rfl ?_; refine l_nil ?_
    refine k4 ?_; refine k1 ?_
    refine c_region ?_; refine l_neu (n_add rfl rfl (by omega)) rfl ?_; refine l_neu (n_move rfl rfl) rfl ?_; refine l_nil ?_
    refine k1 ?_
    refine ⟨i + 1, hlt, by omega, ?_⟩
    rw [show (if plains s i = true then plainB c else false) = plains s (i + 1) from by rw [h2]; cases plains s i <;> rfl]
    exact Sees.of ⟨le1 rfl, le1 rfl, le1 rfl, le1 rfl, trivial⟩ trivial
  have hi' : i = s.length := by have := of_decide_eq_false ht; omega
  subst hi'
  refine k6 ?_; refine k2 ?_; refine k2 ?_
  refine c_region ?_; refine l_neu (n_move rfl rfl) rfl ?_; refine l_nil ?_
  refine k1 ?_
  refine c_cond rfl (fun ht => ?_) (fun ht => ?_)
  · have h : plains s s.length = true := ht
    refine k2 ?_
    refine c_region ?_; refine l_neu (n_move rfl rfl) rfl ?_; refine l_neu (n_assign rfl rfl) rfl ?_; refine l_nil ?_
    refine k1 ?_; refine k10 ?_; refine k11 ?_
    exact ret_ret (ret1 rfl rfl rfl) (by rw [quoteOf_eq, if_pos h])
  have h : plains s s.length = false := ht
  have hq : quoteOf s = (34 :: escs s s.length) ++ [34] := by rw [quoteOf_eq, h]; rfl
  refine k5 ?_; refine k1 ?_; refine k2 ?_
  refine c_region ?_; refine l_effv (f_allocT 700 rfl) rfl ?_; refine l_nil ?_
  refine k1 ?_; refine k2 ?_
  refine c_sees (Sees.adoptT 701 UInt8 1 u8C 5 (kb := 700) (o := 1) rfl rfl rfl) ?_
  refine c_region ?_; refine l_met (writeByte_met (xs := []) (c := 34) ⟨⟨_, .inl rfl, rfl⟩, rfl⟩ (by simp)) rfl rfl rfl ?_; rintro _ _ ⟨rfl, rfl⟩; refine l_nil ?_
  refine k1 ?_; refine k2 ?_; refine k2 ?_
  refine c_region ?_; refine l_neu (n_move rfl rfl) rfl ?_; refine l_neu (n_len_s rfl) rfl ?_; refine l_neu (n_move rfl rfl) rfl ?_; refine l_nil ?_
  refine k1 ?_; refine k3 ?_
  refine c_while (X := Nat) (fun i => ([(0, sStr s), (5, .s (.one (.ref 700 0))), (26, sInt s.length), (27, sInt i)], [(700, .tbx 132 [.ref 700 0, .buf 701 UInt8 1 u8C (34 :: escs s i)]), (701, .spare (34 :: escs s i).length 1 5)])) (fun i => i ≤ s.length) (fun i => s.length - i) 0 (Nat.zero_le _) (Sees.of ⟨le1 rfl, le1 rfl, le1 rfl, le1 rfl, trivial⟩ ⟨rfl, rfl, trivial⟩) ?_
  intro i hi
  dsimp only at hi ⊢
  have hel := escs_len s i hi
  refine k2 ?_
  refine c_region ?_; refine l_neu (n_lss rfl rfl) rfl ?_; refine l_nil ?_
  refine k1 ?_; refine k2 ?_
  refine c_cond rfl (fun ht => ?_) (fun ht => ?_)
  · have hlt : i < s.length := by have := of_decide_eq_true ht; omega
    have hv : s[i]? = some s[i] := by simp [hlt]
    obtain ⟨c, hc⟩ : ∃ c, c = s[i] := ⟨_, rfl⟩
    have h1 := escs_succ s i hlt
    have h2 := escOf_len c
    rw [← hc] at hv h1
    refine k5 ?_; refine k1 ?_; refine k2 ?_; refine k3 ?_; refine k2 ?_
    refine c_region ?_; refine l_neu (n_move rfl rfl) rfl ?_; refine l_neu (n_assign rfl rfl) rfl ?_; refine l_nil ?_
    refine k1 ?_
    refine c_region ?_; refine l_neu (n_move rfl rfl) rfl ?_; refine l_neu (n_move rfl rfl) rfl ?_; refine l_neu (n_index_s rfl rfl (by omega) hv) rfl ?_; refine l_call (escaped_ok c) rfl rfl rfl ?_; rintro _ rfl; refine l_met (writeString_met (xs := 34 :: escs s i) (s := escOf c) ⟨⟨_, .inr rfl, rfl⟩, rfl⟩ (by simp only [List.length_cons]; omega)) rfl rfl rfl ?_; rintro _ _ ⟨rfl, rfl⟩; refine l_nil ?_
    refine k4 ?_; refine k1 ?_
    refine c_region ?_; refine l_neu (n_add rfl rfl (by omega)) rfl ?_; refine l_neu (n_move rfl rfl) rfl ?_; refine l_nil ?_
    refine k1 ?_
    refine ⟨i + 1, hlt, by omega, ?_⟩
    rw [h1]
    exact Sees.of ⟨le1 rfl, le1 rfl, le1 rfl, le1 rfl, trivial⟩ ⟨rfl, rfl, trivial⟩
  have hi' : i = s.length := by have := of_decide_eq_false ht; omega
  subst hi'
  refine k6 ?_; refine k2 ?_
  refine c_region ?_; refine l_met (writeByte_met (xs := 34 :: escs s s.length) (c := 34) ⟨⟨_, .inr rfl, rfl⟩, rfl⟩ (by simp only [List.length_cons]; omega)) rfl rfl rfl ?_; rintro _ _ ⟨rfl, rfl⟩; refine l_nil ?_
  refine k1 ?_; refine k2 ?_
  refine c_region ?_; refine l_bstring (k := 700) (k' := 701) ⟨_, rfl, rfl, rfl⟩ bstring_calls rfl rfl rfl rfl rfl (.inr rfl) rfl ?_; refine l_neu (n_assign rfl rfl) rfl ?_; refine l_nil ?_
  refine k1 ?_; refine k10 ?_
  exact ret_ret (ret1 rfl rfl rfl) (by rw [hq])
end Go.Proofs.YtjjidificdmnmaaGreatDoor
namespace Go.Proofs.YtjjidificdmnmaaGreatDoor
open Go Go.AL
set_option maxRecDepth 100000
theorem gD {s : Str} {i : Nat} (h : i < s.length) : s[i]? = some (s.getD i 0) := by simp [h]
def digitAt (s : Str) (i : Nat) : Bool := decide ((i < s.length ∧ 48 ≤ (s.getD i 0).toNat) ∧ (s.getD i 0).toNat ≤ 57)
theorem digitAt_eq (s : Str) (i : Nat) : digitAt s i = match s[i]? with | some c => digitB c | none => false := by
  unfold digitAt digitB
  by_cases h : i < s.length
  · rw [gD h]; simp [h]
  · rw [List.getElem?_eq_none (by omega)]; simp [h]
theorem digs_le (s : Str) (i : Nat) : (digsAt (s.drop i)).length ≤ s.length - i := by
  unfold digsAt
  have := (List.takeWhile_sublist digitB (l := s.drop i)).length_le
  rw [List.length_drop] at this; exact this
theorem takeWhile_at {p : UInt8 → Bool} : ∀ (s : Str) (k : Nat), k ≤ (s.takeWhile p).length → (match s[k]? with | some c => p c | none => false) = decide (k < (s.takeWhile p).length)
  | [], k, h => by simp at h ⊢
  | c :: r, 0, h => by by_cases hc : p c = true <;> simp [List.takeWhile_cons, hc]
  | c :: r, k + 1, h => by
    by_cases hc : p c = true
    · rw [List.takeWhile_cons, if_pos hc, List.length_cons] at h ⊢
      have := takeWhile_at (p := p) r k (by omega)
      rw [List.getElem?_cons_succ, this]; simp
    · rw [List.takeWhile_cons, if_neg hc] at h; simp at h
theorem takeWhile_pre {p : UInt8 → Bool} : ∀ (s : Str) (k : Nat), k < (s.takeWhile p).length → s[k]? = (s.takeWhile p)[k]?
  | [], k, h => by simp at h
  | c :: r, k, h => by
    by_cases hc : p c = true
    · rw [List.takeWhile_cons, if_pos hc] at h ⊢
      cases k with
      | zero => rfl
      | succ k => rw [List.getElem?_cons_succ, List.getElem?_cons_succ]; exact takeWhile_pre (p := p) r k (by simpa using h)
    · rw [List.takeWhile_cons, if_neg hc] at h; simp at h
theorem digit_run (s : Str) (i k : Nat) (h : k ≤ (digsAt (s.drop i)).length) : digitAt s (i + k) = decide (k < (digsAt (s.drop i)).length) := by
  rw [digitAt_eq, ← List.getElem?_drop]
  exact takeWhile_at (s.drop i) k h
theorem digit_get {s : Str} {i k : Nat} (h : k < (digsAt (s.drop i)).length) : s[i + k]? = some ((digsAt (s.drop i)).getD k 0) ∧ 48 ≤ ((digsAt (s.drop i)).getD k 0).toNat ∧ ((digsAt (s.drop i)).getD k 0).toNat ≤ 57 ∧
    decV ((digsAt (s.drop i)).take (k + 1)) = 10 * decV ((digsAt (s.drop i)).take k) + (((digsAt (s.drop i)).getD k 0).toNat - 48) := by
  have h1 : s[i + k]? = (digsAt (s.drop i))[k]? := by rw [← List.getElem?_drop]; exact takeWhile_pre _ _ h
  have h2 := gD h
  have h3 : digitB ((digsAt (s.drop i)).getD k 0) = true := by
    have hm : (digsAt (s.drop i)).getD k 0 ∈ (s.drop i).takeWhile digitB := List.mem_of_getElem? h2
    exact List.all_eq_true.1 List.all_takeWhile _ hm
  unfold digitB at h3
  have h3 := of_decide_eq_true h3
  refine ⟨by rw [h1, h2], h3.1, h3.2, ?_⟩
  obtain ⟨hl, he⟩ := List.getElem?_eq_some_iff.1 h2
  rw [List.take_succ_eq_append_getElem hl, decV_snoc, he]
theorem i64sub48 (n : Nat) (h : 48 ≤ n) (h2 : n ≤ 57) : IntKind.i64.wrap (IntKind.u8.wrap ((n : Int) - 48)) = ((n - 48 : Nat) : Int) := by
  have : ∀ k : Fin 10, IntKind.i64.wrap (IntKind.u8.wrap (((k.1 + 48 : Nat) : Int) - 48)) = ((k.1 : Nat) : Int) := by decide
  have h3 := this ⟨n - 48, by omega⟩
  dsimp only at h3
  rw [show n - 48 + 48 = n by omega] at h3
  exact h3
def numR (s : Str) (i : Nat) : List PV := match numAt (s.drop i) with
  | none => [pInt 0, pInt 0, pBool false]
  | some (n, k) => [pInt n, pInt ((i + k : Nat) : Int), pBool true]
theorem num_facts {s : Str} {n k : Nat} (h : numAt s = some (n, k)) : k = (digsAt s).length ∧ n = decV (digsAt s) ∧ 0 < k ∧ k ≤ s.length ∧ n ≤ 2147483647 := by
  unfold numAt at h
  split at h
  · cases h
  · rename_i h1
    cases h
    have h2 : digsAt s ≠ [] := fun e => h1 (.inl e)
    have h3 := List.length_pos_iff.2 h2
    have h4 : (digsAt s).length ≤ s.length := by unfold digsAt; exact (List.takeWhile_sublist digitB).length_le
    refine ⟨rfl, rfl, h3, h4, ?_⟩
    by_cases hv : decV (digsAt s) ≤ 2147483647
    · exact hv
    · exact absurd (.inr (.inr (by omega))) h1
theorem sdigit_ok (s : Str) (i : Nat) : FnOk Tryz.prog 202 [pStr s, pInt i] (fun rs => rs = [pBool (digitAt s i)]) := by
  refine FnOk.intro Tryz.func202 (by decide) rfl rfl rfl rfl ?_
  refine k2 ?_
  refine c_region ?_; refine l_neu (n_assign rfl rfl) rfl ?_; refine l_nil ?_
  refine k1 ?_; refine k2 ?_
  refine c_region ?_; refine l_neu (n_move rfl rfl) rfl ?_; refine l_neu (n_move rfl rfl) rfl ?_; refine l_neu (n_len_s rfl) rfl ?_; refine l_neu (n_lss rfl rfl) rfl ?_; refine l_neu (n_move rfl rfl) rfl ?_; refine l_guard rfl rfl rfl rfl (fun hg => by rw [hg]; exact n_move rfl rfl) ?_; refine l_guard rfl rfl rfl rfl (fun hg => by rw [hg]; exact n_move rfl rfl) ?_; refine l_guard rfl rfl rfl rfl (fun hg => by have hq := hg; (try simp at hq); rw [hg]; exact n_index_s rfl rfl (by omega) (gD (by omega))) ?_; refine l_guard rfl rfl rfl rfl (fun hg => by rw [hg]; exact n_geq rfl rfl) ?_; refine l_neu (n_pick_bool rfl (fun h => by first | rfl | (rw [h]; rfl)) (fun h => by first | rfl | (rw [h]; rfl))) rfl ?_; refine l_neu (n_move rfl rfl) rfl ?_; refine l_guard rfl rfl rfl rfl (fun hg => by rw [hg]; exact n_move rfl rfl) ?_; refine l_guard rfl rfl rfl rfl (fun hg => by rw [hg]; exact n_move rfl rfl) ?_; refine l_guard rfl rfl rfl rfl (fun hg => by have hq := hg; (try simp at hq); rw [hg]; exact n_index_s rfl rfl (by omega) (gD (by omega))) ?_; refine l_guard rfl rfl rfl rfl (fun hg => by rw [hg]; exact n_leq rfl rfl) ?_; refine l_neu (n_pick_bool rfl (fun h => by first | rfl | (rw [h]; rfl)) (fun h => by first | rfl | (rw [h]; rfl))) rfl ?_; refine l_neu (n_assign rfl rfl) rfl ?_; refine l_nil ?_
  refine k1 ?_; refine k10 ?_
  refine ret_ret (ret1 rfl rfl rfl) ?_
  simp only [and_pick]
  unfold digitAt
  congr 4
  congr 1
  simp; omega
theorem sNumber_ok (s : Str) (i : Nat) (hi : i ≤ s.length) (hs : s.length ≤ 1073741824) : FnOk Tryz.prog 198 [pStr s, pInt i] (fun rs => rs = numR s i) := by
  obtain ⟨ds, hds⟩ : ∃ ds, ds = digsAt (s.drop i) := ⟨_, rfl⟩
  have hle := digs_le s i
  have h0 := digit_run s i 0 (Nat.zero_le _)
  rw [Nat.add_zero] at h0
  rw [← hds] at hle h0
  refine FnOk.intro Tryz.func198 (by decide) rfl rfl rfl rfl ?_
  refine k2 ?_
  refine c_region ?_; refine l_neu (n_assign rfl rfl) rfl ?_; refine l_neu (n_assign rfl rfl) rfl ?_; refine l_neu (n_assign rfl rfl) rfl ?_; refine l_nil ?_
  refine k1 ?_; refine k2 ?_; refine k2 ?_
  refine c_region ?_; refine l_neu (n_move rfl rfl) rfl ?_; refine l_neu (n_lss rfl rfl) rfl ?_; refine l_neu (n_move rfl rfl) rfl ?_; refine l_guard rfl rfl rfl rfl (fun hg => by rw [hg]; exact n_move rfl rfl) ?_; refine l_guard rfl rfl rfl rfl (fun hg => by rw [hg]; exact n_move rfl rfl) ?_; refine l_guard rfl rfl rfl rfl (fun hg => by have hq := hg; (try simp at hq); rw [hg]; exact n_call1 (sdigit_ok s i) rfl rfl) ?_; refine l_guard rfl rfl rfl rfl (fun hg => by rw [hg]; exact n_not rfl) ?_; refine l_neu (n_pick_bool rfl (fun h => by first | rfl | (rw [h]; rfl)) (fun h => by first | rfl | (rw [h]; rfl))) rfl ?_; refine l_nil ?_
  rw [h0]
  refine k1 ?_
  by_cases hz : ds.length = 0
  · refine c_cond rfl (fun ht => ?_) (fun ht => ?_)
    rotate_left
    · exfalso; revert ht; simp [hz]
    refine k2 ?_
    refine c_region ?_; refine l_neu (n_assign rfl rfl) rfl ?_; refine l_neu (n_assign rfl rfl) rfl ?_; refine l_neu (n_assign rfl rfl) rfl ?_; refine l_nil ?_
    refine k1 ?_; refine k10 ?_; refine k11 ?_
    refine ret_ret (rs := [pInt 0, pInt 0, pBool false]) (ret3 rfl rfl rfl rfl rfl rfl rfl) ?_
    unfold numR numAt
    rw [← hds, if_pos (.inl (List.length_eq_zero_iff.1 hz))]
  refine c_cond rfl (fun ht => ?_) (fun ht => ?_)
  · exfalso; revert ht; simp [show 0 < ds.length by omega]
  refine k5 ?_; refine k1 ?_; refine k2 ?_
  refine c_region ?_; refine l_neu (n_move rfl rfl) rfl ?_; refine l_neu (n_assign rfl rfl) rfl ?_; refine l_neu (n_assign rfl rfl) rfl ?_; refine l_nil ?_
  refine k1 ?_; refine k2 ?_; refine k3 ?_
  refine c_while (X := Nat) (fun k => ([(0, sStr s), (1, sInt i), (7, sInt ((min (decV (ds.take k)) 2147483648 : Nat) : Int)), (8, sInt ((i + k : Nat) : Int))], [])) (fun k => k ≤ ds.length) (fun k => ds.length - k) 0 (Nat.zero_le _) (Sees.of ⟨le1 rfl, le1 rfl, le1 rfl, le1 rfl, trivial⟩ trivial) ?_
  intro k hk
  dsimp only at hk ⊢
  have hrun := digit_run s i k (by rw [← hds]; exact hk)
  rw [← hds] at hrun
  refine k2 ?_; refine k2 ?_
  refine c_region ?_; refine l_neu (n_move rfl rfl) rfl ?_; refine l_neu (n_move rfl rfl) rfl ?_; refine l_call (sdigit_ok s (i + k)) rfl rfl rfl ?_; rintro _ rfl; refine l_nil ?_
  rw [hrun]
  refine k1 ?_
  refine c_cond rfl (fun ht => ?_) (fun ht => ?_)
  · have hlt : k < ds.length := of_decide_eq_true ht
    obtain ⟨g1, g2, g3, g4⟩ := digit_get (s := s) (i := i) (k := k) (by rw [← hds]; exact hlt)
    rw [← hds] at g1 g2 g3 g4
    obtain ⟨c, hc⟩ : ∃ c, c = ds.getD k 0 := ⟨_, rfl⟩
    rw [← hc] at g1 g2 g3 g4
    obtain ⟨v, hv⟩ : ∃ v, v = min (decV (ds.take k)) 2147483648 := ⟨_, rfl⟩
    have hvb : v ≤ 2147483648 := by omega
    have hnew : min (decV (ds.take (k + 1))) 2147483648 = min (10 * v + (c.toNat - 48)) 2147483648 := by rw [g4]; omega
    rw [← hv]
    have hsub := i64sub48 c.toNat g2 g3
    refine k5 ?_; refine k1 ?_; refine k2 ?_; refine k3 ?_
    refine c_region ?_; refine l_neu (n_move rfl rfl) rfl ?_; refine l_neu (n_mul rfl rfl (by omega)) rfl ?_; refine l_neu (n_move rfl rfl) rfl ?_; refine l_neu (n_move rfl rfl) rfl ?_; refine l_neu (n_index_s rfl rfl (by omega) g1) rfl ?_; refine l_neu (n_sub_w rfl rfl) rfl ?_; refine l_neu (n_convert rfl) rfl ?_; refine l_neu (n_add rfl rfl (by (rw [hsub]; omega))) rfl ?_; refine l_neu (n_min rfl rfl) rfl ?_; refine l_neu (n_assign rfl rfl) rfl ?_; refine l_nil ?_
    refine k4 ?_; refine k1 ?_
    refine c_region ?_; refine l_neu (n_move rfl rfl) rfl ?_; refine l_neu (n_add rfl rfl (by omega)) rfl ?_; refine l_neu (n_assign rfl rfl) rfl ?_; refine l_nil ?_
    refine k1 ?_
    refine ⟨k + 1, hlt, by omega, ?_⟩
    rw [hnew]
    refine Sees.of ⟨⟨_, rfl, .same _⟩, ⟨_, rfl, .same _⟩, ⟨_, rfl, .eq ?_⟩, ⟨_, rfl, .eq ?_⟩, trivial⟩ trivial
    · rw [hsub]
      congr 6
      split <;> omega
    · congr 6
  · have hk' : k = ds.length := by have : ¬ k < ds.length := of_decide_eq_false ht; omega
    subst hk'
    rw [List.take_length]
    have hv0 : i < s.length := by omega
    refine k6 ?_; refine k2 ?_; refine k2 ?_
    refine c_region ?_; refine l_neu (n_move rfl rfl) rfl ?_; refine l_neu (n_gtr rfl rfl) rfl ?_; refine l_neu (n_move rfl rfl) rfl ?_; refine l_guard rfl rfl rfl rfl (fun hg => by rw [hg]; exact n_move rfl rfl) ?_; refine l_guard rfl rfl rfl rfl (fun hg => by rw [hg]; exact n_move rfl rfl) ?_; refine l_guard rfl rfl rfl rfl (fun hg => by have hq := hg; (try simp at hq); rw [hg]; exact n_index_s rfl rfl (by omega) (gD hv0)) ?_; refine l_guard rfl rfl rfl rfl (fun hg => by rw [hg]; exact n_eql rfl rfl) ?_; refine l_guard rfl rfl rfl rfl (fun hg => by rw [hg]; exact n_move rfl rfl) ?_; refine l_guardW rfl rfl rfl (.gd (.val _)) rfl (fun hg => by obtain ⟨hg1, hg2⟩ := gd_and hg; (try rw [hg1]); (try rw [hg2]); exact n_move rfl rfl) ?_; refine l_guardW rfl rfl rfl (.gd (.val _)) rfl (fun hg => by obtain ⟨hg1, hg2⟩ := gd_and hg; (try rw [hg1]); (try rw [hg2]); exact n_move rfl rfl) ?_; refine l_guardW rfl rfl rfl (.gd (.val _)) rfl (fun hg => by have hq := hg; (try simp at hq); obtain ⟨hg1, hg2⟩ := gd_and hg; (try rw [hg1]); (try rw [hg2]); exact n_add rfl rfl (by omega)) ?_; refine l_guardW rfl rfl rfl (.gd (.val _)) rfl (fun hg => by obtain ⟨hg1, hg2⟩ := gd_and hg; (try rw [hg1]); (try rw [hg2]); exact n_gtr rfl rfl) ?_; refine l_guard rfl rfl rfl rfl (fun hg => by rw [hg]; exact n_pick_bool rfl (fun h => by first | rfl | (rw [h]; rfl)) (fun h => by first | rfl | (rw [h]; rfl))) ?_; refine l_neu (n_pick_bool rfl (fun h => by first | rfl | (rw [h]; rfl)) (fun h => by first | rfl | (rw [h]; rfl))) rfl ?_; refine l_nil ?_
    refine k1 ?_
    have hd0 : (s.drop i).head? = some (s.getD i 0) := by rw [List.head?_drop, gD hv0]
    simp only [and_pick, or_pick]
    have hbad : (digsAt (s.drop i) = [] ∨ ((s.drop i).head? = some 48 ∧ 1 < (digsAt (s.drop i)).length) ∨ 2147483647 < decV (digsAt (s.drop i))) ↔ (2147483647 < ((min (decV ds) 2147483648 : Nat) : Int) ∨ (((s.getD i 0).toNat : Int) = 48 ∧ (i : Int) + 1 < ((i + ds.length : Nat) : Int))) := by
      rw [← hds, hd0]
      have e1 : ds ≠ [] := fun e => hz (by rw [e]; rfl)
      have e2 : (some (s.getD i 0) = some 48) ↔ ((s.getD i 0).toNat : Int) = 48 := by
        rw [Option.some.injEq, ← UInt8.toNat_inj]
        have : (48 : UInt8).toNat = 48 := rfl
        omega
      simp only [e1, false_or, e2]
      omega
    refine c_cond rfl (fun ht => ?_) (fun ht => ?_)
    · have h1 := of_decide_eq_true ht
      refine k2 ?_
      refine c_region ?_; refine l_neu (n_assign rfl rfl) rfl ?_; refine l_neu (n_assign rfl rfl) rfl ?_; refine l_neu (n_assign rfl rfl) rfl ?_; refine l_nil ?_
      refine k1 ?_; refine k10 ?_; refine k11 ?_
      refine ret_ret (rs := [pInt 0, pInt 0, pBool false]) (ret3 rfl rfl rfl rfl rfl rfl rfl) ?_
      unfold numR numAt
      rw [if_pos (hbad.2 (by first | exact h1 | simpa using h1))]
    · have h1 := of_decide_eq_false ht
      have h2 : ¬ (digsAt (s.drop i) = [] ∨ ((s.drop i).head? = some 48 ∧ 1 < (digsAt (s.drop i)).length) ∨ 2147483647 < decV (digsAt (s.drop i))) := fun hh => h1 (by first | exact hbad.1 hh | simpa using hbad.1 hh)
      refine k5 ?_; refine k1 ?_; refine k2 ?_
      refine c_region ?_; refine l_neu (n_move rfl rfl) rfl ?_; refine l_neu (n_move rfl rfl) rfl ?_; refine l_neu (n_assign rfl rfl) rfl ?_; refine l_neu (n_assign rfl rfl) rfl ?_; refine l_neu (n_assign rfl rfl) rfl ?_; refine l_nil ?_
      refine k1 ?_; refine k10 ?_
      refine ret_ret (rs := [pInt ((min (decV ds) 2147483648 : Nat) : Int), pInt ((i + ds.length : Nat) : Int), pBool true]) (ret3 rfl rfl rfl rfl rfl rfl rfl) ?_
      unfold numR numAt
      rw [if_neg h2, ← hds]
      have h3 : decV ds ≤ 2147483647 := by
        rw [← hds] at h2
        by_cases hv : decV ds ≤ 2147483647
        · exact hv
        · exact absurd (.inr (.inr (by omega))) h2
      rw [show min (decV ds) 2147483648 = decV ds by omega]
theorem rNumber_ok (s : Str) (i : Nat) (hi : i ≤ s.length) (hs : s.length ≤ 1073741824) : FnOk Tryz.prog 173 [pStr s, pInt i] (fun rs => rs = numR s i) := by
  obtain ⟨ds, hds⟩ : ∃ ds, ds = digsAt (s.drop i) := ⟨_, rfl⟩
  have hle := digs_le s i
  rw [← hds] at hle
  have hd0 : 0 < ds.length → (s.drop i).head? = some (s.getD i 0) := fun h => by rw [List.head?_drop, gD (by omega)]
  have e48 : ((s.getD i 0).toNat : Int) = 48 ↔ s.getD i 0 = 48 := by
    rw [← UInt8.toNat_inj]
    have : (48 : UInt8).toNat = 48 := rfl
    omega
  refine FnOk.intro Tryz.func173 (by decide) rfl rfl rfl rfl ?_
  refine k2 ?_
  refine c_region ?_; refine l_neu (n_assign rfl rfl) rfl ?_; refine l_neu (n_assign rfl rfl) rfl ?_; refine l_neu (n_assign rfl rfl) rfl ?_; refine l_nil ?_
  refine k1 ?_; refine k2 ?_; refine k2 ?_
  refine c_region ?_; refine l_neu (n_move rfl rfl) rfl ?_; refine l_neu (n_lss rfl rfl) rfl ?_; refine l_neu (n_move rfl rfl) rfl ?_; refine l_guard rfl rfl rfl rfl (fun hg => by rw [hg]; exact n_move rfl rfl) ?_; refine l_guard rfl rfl rfl rfl (fun hg => by rw [hg]; exact n_move rfl rfl) ?_; refine l_guard rfl rfl rfl rfl (fun hg => by rw [hg]; exact n_len_s rfl) ?_; refine l_guard rfl rfl rfl rfl (fun hg => by rw [hg]; exact n_gtr rfl rfl) ?_; refine l_neu (n_pick_bool rfl (fun h => by first | rfl | (rw [h]; rfl)) (fun h => by first | rfl | (rw [h]; rfl))) rfl ?_; refine l_nil ?_
  refine k1 ?_
  refine c_cond rfl (fun ht => ?_) (fun ht => ?_)
  · exfalso; revert ht; simp only [or_pick]; simp; omega
  refine k5 ?_; refine k1 ?_; refine k2 ?_
  refine c_region ?_; refine l_neu (n_move rfl rfl) rfl ?_; refine l_neu (n_assign rfl rfl) rfl ?_; refine l_neu (n_assign rfl rfl) rfl ?_; refine l_nil ?_
  refine k1 ?_; refine k2 ?_; refine k3 ?_
  refine c_while (X := Nat) (fun k => ([(0, sStr s), (1, sInt i), (7, sInt (decV (ds.take k) : Int)), (8, sInt ((i + k : Nat) : Int))], [])) (fun k => k ≤ ds.length ∧ decV (ds.take k) ≤ 2147483647 ∧ (1 < k → s.getD i 0 ≠ 48)) (fun k => ds.length - k) 0 ⟨Nat.zero_le _, by simp [decV], by omega⟩ (Sees.of ⟨le1 rfl, le1 rfl, le1 rfl, le1 rfl, trivial⟩ trivial) ?_
  rintro k ⟨hk, hv, h48⟩
  dsimp only at hk hv h48 ⊢
  have hrun := digit_run s i k (by rw [← hds]; exact hk)
  rw [← hds] at hrun
  unfold digitAt at hrun
  refine k2 ?_; refine k2 ?_
  refine c_region ?_; refine l_neu (n_move rfl rfl) rfl ?_; refine l_neu (n_move rfl rfl) rfl ?_; refine l_neu (n_len_s rfl) rfl ?_; refine l_neu (n_lss rfl rfl) rfl ?_; refine l_neu (n_move rfl rfl) rfl ?_; refine l_guard rfl rfl rfl rfl (fun hg => by rw [hg]; exact n_move rfl rfl) ?_; refine l_guard rfl rfl rfl rfl (fun hg => by rw [hg]; exact n_move rfl rfl) ?_; refine l_guard rfl rfl rfl rfl (fun hg => by have hq := hg; (try simp at hq); rw [hg]; exact n_index_s rfl rfl (by omega) (gD (by omega))) ?_; refine l_guard rfl rfl rfl rfl (fun hg => by rw [hg]; exact n_geq rfl rfl) ?_; refine l_neu (n_pick_bool rfl (fun h => by first | rfl | (rw [h]; rfl)) (fun h => by first | rfl | (rw [h]; rfl))) rfl ?_; refine l_neu (n_move rfl rfl) rfl ?_; refine l_guard rfl rfl rfl rfl (fun hg => by rw [hg]; exact n_move rfl rfl) ?_; refine l_guard rfl rfl rfl rfl (fun hg => by rw [hg]; exact n_move rfl rfl) ?_; refine l_guard rfl rfl rfl rfl (fun hg => by have hq := hg; (try simp at hq); rw [hg]; exact n_index_s rfl rfl (by omega) (gD (by omega))) ?_; refine l_guard rfl rfl rfl rfl (fun hg => by rw [hg]; exact n_leq rfl rfl) ?_; refine l_neu (n_pick_bool rfl (fun h => by first | rfl | (rw [h]; rfl)) (fun h => by first | rfl | (rw [h]; rfl))) rfl ?_; refine l_nil ?_
  refine k1 ?_
  simp only [and_pick]
  have hrun2 : decide (((((i + k : Nat) : Int) < (s.length : Int)) ∧ (48 : Int) ≤ ((s.getD (i + k) 0).toNat : Int)) ∧ ((s.getD (i + k) 0).toNat : Int) ≤ 57) = decide (k < ds.length) := by
    rw [← hrun]
    congr 1
    simp; omega
  refine c_cond rfl (fun ht => ?_) (fun ht => ?_)
  · have ht2 := ht
    have hlt : k < ds.length := by
      have h1 := of_decide_eq_true ht
      refine of_decide_eq_true (hrun2 ▸ ?_)
      exact decide_eq_true (by first | exact h1 | simpa using h1)
    obtain ⟨g1, g2, g3, g4⟩ := digit_get (s := s) (i := i) (k := k) (by rw [← hds]; exact hlt)
    rw [← hds] at g1 g2 g3 g4
    obtain ⟨c, hc⟩ : ∃ c, c = ds.getD k 0 := ⟨_, rfl⟩
    rw [← hc] at g1 g2 g3 g4
    have hsub := i64sub48 c.toNat g2 g3
    have hi0 : i < s.length := by omega
    refine k5 ?_; refine k1 ?_; refine k3 ?_; refine k2 ?_; refine k2 ?_
    refine c_region ?_; refine l_neu (n_move rfl rfl) rfl ?_; refine l_neu (n_move rfl rfl) rfl ?_; refine l_neu (n_gtr rfl rfl) rfl ?_; refine l_neu (n_move rfl rfl) rfl ?_; refine l_guard rfl rfl rfl rfl (fun hg => by rw [hg]; exact n_move rfl rfl) ?_; refine l_guard rfl rfl rfl rfl (fun hg => by rw [hg]; exact n_move rfl rfl) ?_; refine l_guard rfl rfl rfl rfl (fun hg => by have hq := hg; (try simp at hq); rw [hg]; exact n_index_s rfl rfl (by omega) (gD hi0)) ?_; refine l_guard rfl rfl rfl rfl (fun hg => by rw [hg]; exact n_eql rfl rfl) ?_; refine l_neu (n_pick_bool rfl (fun h => by first | rfl | (rw [h]; rfl)) (fun h => by first | rfl | (rw [h]; rfl))) rfl ?_; refine l_nil ?_
    refine k1 ?_
    simp only [and_pick]
    refine c_cond rfl (fun ht => ?_) (fun ht => ?_)
    · have h1 := of_decide_eq_true ht
      have h1 : 0 < k ∧ s.getD i 0 = 48 := ⟨by omega, e48.1 h1.2⟩
      refine k2 ?_
      refine c_region ?_; refine l_neu (n_assign rfl rfl) rfl ?_; refine l_neu (n_assign rfl rfl) rfl ?_; refine l_neu (n_assign rfl rfl) rfl ?_; refine l_nil ?_
      refine k1 ?_; refine k10 ?_; refine k11 ?_; refine k12 ?_; refine k11 ?_; refine k12 ?_; refine k11 ?_
      refine ret_ret (rs := [pInt 0, pInt 0, pBool false]) (ret3 rfl rfl rfl rfl rfl rfl rfl) ?_
      unfold numR numAt
      rw [← hds, if_pos (.inr (.inl ⟨by rw [hd0 (by omega), h1.2], by omega⟩))]
    · have h1 := of_decide_eq_false ht
      have h1 : 0 < k → s.getD i 0 ≠ 48 := fun h2 h3 => h1 ⟨by omega, e48.2 h3⟩
      refine k5 ?_; refine k1 ?_; refine k2 ?_
      refine c_region ?_; refine l_neu (n_move rfl rfl) rfl ?_; refine l_neu (n_mul rfl rfl (by omega)) rfl ?_; refine l_neu (n_move rfl rfl) rfl ?_; refine l_neu (n_move rfl rfl) rfl ?_; refine l_neu (n_index_s rfl rfl (by omega) g1) rfl ?_; refine l_neu (n_sub_w rfl rfl) rfl ?_; refine l_neu (n_convert rfl) rfl ?_; refine l_neu (n_add rfl rfl (by (rw [hsub]; omega))) rfl ?_; refine l_neu (n_assign rfl rfl) rfl ?_; refine l_nil ?_
      rw [hsub, show 10 * ((decV (ds.take k) : Nat) : Int) + ((c.toNat - 48 : Nat) : Int) = ((decV (ds.take (k + 1)) : Nat) : Int) by rw [g4]; omega]
      refine k1 ?_; refine k2 ?_; refine k2 ?_
      refine c_region ?_; refine l_neu (n_move rfl rfl) rfl ?_; refine l_neu (n_gtr rfl rfl) rfl ?_; refine l_nil ?_
      refine k1 ?_
      refine c_cond rfl (fun ht => ?_) (fun ht => ?_)
      · have h2 : (2147483647 : Int) < ((decV (ds.take (k + 1)) : Nat) : Int) := of_decide_eq_true ht
        refine k2 ?_
        refine c_region ?_; refine l_neu (n_assign rfl rfl) rfl ?_; refine l_neu (n_assign rfl rfl) rfl ?_; refine l_neu (n_assign rfl rfl) rfl ?_; refine l_nil ?_
        refine k1 ?_; refine k10 ?_; refine k11 ?_; refine k12 ?_; refine k11 ?_; refine k12 ?_; refine k11 ?_
        refine ret_ret (rs := [pInt 0, pInt 0, pBool false]) (ret3 rfl rfl rfl rfl rfl rfl rfl) ?_
        have hmono : ∀ j, k + 1 ≤ j → j ≤ ds.length → decV (ds.take (k + 1)) ≤ decV (ds.take j) := by
          intro j
          induction j with
          | zero => intro h; omega
          | succ j ih =>
            intro h3 h4
            by_cases hj : k + 1 = j + 1
            · rw [hj]; exact Nat.le_refl _
            · have := ih (by omega) (by omega)
              obtain ⟨_, _, _, g⟩ := digit_get (s := s) (i := i) (k := j) (by rw [← hds]; omega)
              rw [← hds] at g
              omega
        have h3 := hmono ds.length (by omega) (Nat.le_refl _)
        rw [List.take_length] at h3
        unfold numR numAt
        rw [← hds, if_pos (.inr (.inr (by omega)))]
      · have h2 : ¬ (2147483647 : Int) < ((decV (ds.take (k + 1)) : Nat) : Int) := of_decide_eq_false ht
        refine k5 ?_; refine k1 ?_
        refine c_region ?_; refine l_neu (n_move rfl rfl) rfl ?_; refine l_neu (n_add rfl rfl (by omega)) rfl ?_; refine l_neu (n_assign rfl rfl) rfl ?_; refine l_nil ?_
        refine k4 ?_; refine k1 ?_
        refine ⟨k + 1, ⟨hlt, by omega, fun _ => h1 (by omega)⟩, by omega, ?_⟩
        rw [show ((i + (k + 1) : Nat) : Int) = ((i + k : Nat) : Int) + 1 by omega]
        exact Sees.of ⟨le1 rfl, le1 rfl, le1 rfl, le1 rfl, trivial⟩ trivial
  · have hk' : k = ds.length := by
      have h1 := of_decide_eq_false ht
      have h2 : ¬ k < ds.length := by
        refine of_decide_eq_false (hrun2 ▸ ?_)
        exact decide_eq_false (by first | exact h1 | simpa using h1)
      omega
    subst hk'
    rw [List.take_length] at hv ⊢
    refine k6 ?_; refine k2 ?_; refine k2 ?_
    refine c_region ?_; refine l_neu (n_move rfl rfl) rfl ?_; refine l_neu (n_move rfl rfl) rfl ?_; refine l_neu (n_eql rfl rfl) rfl ?_; refine l_nil ?_
    refine k1 ?_
    refine c_cond rfl (fun ht => ?_) (fun ht => ?_)
    · have hz : ds.length = 0 := by have := of_decide_eq_true ht; omega
      refine k2 ?_
      refine c_region ?_; refine l_neu (n_assign rfl rfl) rfl ?_; refine l_neu (n_assign rfl rfl) rfl ?_; refine l_neu (n_assign rfl rfl) rfl ?_; refine l_nil ?_
      refine k1 ?_; refine k10 ?_; refine k11 ?_
      refine ret_ret (rs := [pInt 0, pInt 0, pBool false]) (ret3 rfl rfl rfl rfl rfl rfl rfl) ?_
      unfold numR numAt
      rw [← hds, if_pos (.inl (List.length_eq_zero_iff.1 hz))]
    · have hz : ds.length ≠ 0 := by have := of_decide_eq_false ht; omega
      refine k5 ?_; refine k1 ?_; refine k2 ?_
      refine c_region ?_; refine l_neu (n_move rfl rfl) rfl ?_; refine l_neu (n_move rfl rfl) rfl ?_; refine l_neu (n_assign rfl rfl) rfl ?_; refine l_neu (n_assign rfl rfl) rfl ?_; refine l_neu (n_assign rfl rfl) rfl ?_; refine l_nil ?_
      refine k1 ?_; refine k10 ?_
      refine ret_ret (rs := [pInt (decV ds : Int), pInt ((i + ds.length : Nat) : Int), pBool true]) (ret3 rfl rfl rfl rfl rfl rfl rfl) ?_
      unfold numR numAt
      rw [← hds, if_neg]
      rintro (h | ⟨h, h'⟩ | h)
      · exact hz (by rw [h]; rfl)
      · rw [hd0 (by omega)] at h
        exact h48 h' (Option.some.inj h)
      · omega
def rngR (s : Str) (i : Nat) : List PV := match rngAt (s.drop i) with
  | none => [pInt 0, pInt 0, pInt 0, pBool false]
  | some (a, n, k) => [pInt a, pInt n, pInt ((i + k : Nat) : Int), pBool true]
theorem numR_some {s : Str} {i n k : Nat} (h : numAt (s.drop i) = some (n, k)) : numR s i = [pInt n, pInt ((i + k : Nat) : Int), pBool true] := by unfold numR; rw [h]
theorem numR_none {s : Str} {i : Nat} (h : numAt (s.drop i) = none) : numR s i = [pInt 0, pInt 0, pBool false] := by unfold numR; rw [h]
theorem sRange_ok (s : Str) (i : Nat) (hi : i ≤ s.length) (hs : s.length ≤ 1073741824) : FnOk Tryz.prog 189 [pStr s, pInt i] (fun rs => rs = rngR s i) := by
  have hc := sNumber_ok s i hi hs
  cases h1 : numAt (s.drop i) with
  | none =>
    rw [numR_none h1] at hc
    refine FnOk.intro Tryz.func189 (by decide) rfl rfl rfl rfl ?_
    refine k2 ?_
    refine c_region ?_; refine l_neu (n_assign rfl rfl) rfl ?_; refine l_neu (n_assign rfl rfl) rfl ?_; refine l_neu (n_assign rfl rfl) rfl ?_; refine l_neu (n_assign rfl rfl) rfl ?_; refine l_nil ?_
    refine k1 ?_; refine k2 ?_
    refine c_region ?_; refine l_neu (n_move rfl rfl) rfl ?_; refine l_neu (n_move rfl rfl) rfl ?_; refine l_call (hc) rfl rfl rfl ?_; rintro _ rfl; refine l_neu (n_move rfl rfl) rfl ?_; refine l_neu (n_extract rfl rfl) rfl ?_; refine l_neu (n_extract rfl rfl) rfl ?_; refine l_neu (n_extract rfl rfl) rfl ?_; refine l_neu (n_assign rfl rfl) rfl ?_; refine l_neu (n_assign rfl rfl) rfl ?_; refine l_neu (n_assign rfl rfl) rfl ?_; refine l_nil ?_
    refine k1 ?_; refine k2 ?_; refine k2 ?_
    refine c_region ?_; refine l_neu (n_move rfl rfl) rfl ?_; refine l_neu (n_not rfl) rfl ?_; refine l_nil ?_
    refine k1 ?_
    refine c_cond rfl (fun ht => ?_) (fun ht => ?_)
    · refine k2 ?_
      refine c_region ?_; refine l_neu (n_assign rfl rfl) rfl ?_; refine l_neu (n_assign rfl rfl) rfl ?_; refine l_neu (n_assign rfl rfl) rfl ?_; refine l_neu (n_assign rfl rfl) rfl ?_; refine l_nil ?_
      refine k1 ?_; refine k10 ?_; refine k11 ?_
      exact ret_ret (ret4 rfl rfl rfl rfl rfl rfl rfl rfl rfl) (by unfold rngR rngAt; rw [h1])
    · cases ht
  | some p =>
    obtain ⟨a, k⟩ := p
    rw [numR_some h1] at hc
    obtain ⟨_, _, hk0, hk1, ha⟩ := num_facts h1
    rw [List.length_drop] at hk1
    have hget : (s.drop i)[k]? = s[i + k]? := by rw [List.getElem?_drop]
    have hdd : (s.drop i).drop (k + 1) = s.drop (i + k + 1) := by rw [List.drop_drop]; rfl
    have hcm2 : decide (((i + k : Nat) : Int) < (s.length : Int) ∧ ((s.getD (i + k) 0).toNat : Int) = 44) = decide (s[i + k]? = some 44) := by
      have : (44 : UInt8).toNat = 44 := rfl
      congr 1
      by_cases hlt : i + k < s.length
      · rw [gD hlt, Option.some.injEq, ← UInt8.toNat_inj]
        apply propext; constructor <;> intro h <;> omega
      · rw [List.getElem?_eq_none (by omega)]
        apply propext; constructor <;> intro h
        · omega
        · cases h
    have hcase : (s[i + k]? = some 44 ∧ numAt (s.drop (i + k + 1)) = none) ∨ (∃ c e, ((∃ kb, s[i + k]? = some 44 ∧ numAt (s.drop (i + k + 1)) = some (c, kb) ∧ e = k + 1 + kb) ∨ (s[i + k]? ≠ some 44 ∧ c = 1 ∧ e = k)) ∧ i + e ≤ s.length ∧ c ≤ 2147483647 ∧ rngAt (s.drop i) = rngFin (s.drop i) a c e) := by
      by_cases hcm : s[i + k]? = some 44
      · have hlt := (List.getElem?_eq_some_iff.1 hcm).1
        cases h2 : numAt (s.drop (i + k + 1)) with
        | none => exact .inl ⟨hcm, rfl⟩
        | some q =>
          obtain ⟨c, kb⟩ := q
          obtain ⟨_, _, hk2, hk3, hc2⟩ := num_facts h2
          rw [List.length_drop] at hk3
          refine .inr ⟨c, k + 1 + kb, .inl ⟨kb, hcm, rfl, rfl⟩, by omega, hc2, ?_⟩
          unfold rngAt
          rw [h1]; dsimp only
          rw [hget, if_pos hcm, hdd, h2]
      · refine .inr ⟨1, k, .inr ⟨hcm, rfl, rfl⟩, by omega, by omega, ?_⟩
        unfold rngAt
        rw [h1]; dsimp only
        rw [hget, if_neg hcm]
    rcases hcase with ⟨hcm, h2⟩ | ⟨c, e, hce, hel, hcb, hfin⟩
    · have hlt := (List.getElem?_eq_some_iff.1 hcm).1
      have hc2 := sNumber_ok s (i + k + 1) (by omega) hs
      rw [numR_none h2, show ((i + k + 1 : Nat) : Int) = ((i + k : Nat) : Int) + 1 by omega] at hc2
      refine FnOk.intro Tryz.func189 (by decide) rfl rfl rfl rfl ?_
      refine k2 ?_
      refine c_region ?_; refine l_neu (n_assign rfl rfl) rfl ?_; refine l_neu (n_assign rfl rfl) rfl ?_; refine l_neu (n_assign rfl rfl) rfl ?_; refine l_neu (n_assign rfl rfl) rfl ?_; refine l_nil ?_
      refine k1 ?_; refine k2 ?_
      refine c_region ?_; refine l_neu (n_move rfl rfl) rfl ?_; refine l_neu (n_move rfl rfl) rfl ?_; refine l_call (hc) rfl rfl rfl ?_; rintro _ rfl; refine l_neu (n_move rfl rfl) rfl ?_; refine l_neu (n_extract rfl rfl) rfl ?_; refine l_neu (n_extract rfl rfl) rfl ?_; refine l_neu (n_extract rfl rfl) rfl ?_; refine l_neu (n_assign rfl rfl) rfl ?_; refine l_neu (n_assign rfl rfl) rfl ?_; refine l_neu (n_assign rfl rfl) rfl ?_; refine l_nil ?_
      refine k1 ?_; refine k2 ?_; refine k2 ?_
      refine c_region ?_; refine l_neu (n_move rfl rfl) rfl ?_; refine l_neu (n_not rfl) rfl ?_; refine l_nil ?_
      refine k1 ?_
      refine c_cond rfl (fun ht => ?_) (fun ht => ?_)
      · cases ht
      refine k5 ?_; refine k1 ?_; refine k2 ?_
      refine c_region ?_; refine l_neu (n_assign rfl rfl) rfl ?_; refine l_nil ?_
      refine k1 ?_; refine k2 ?_; refine k2 ?_
      refine c_region ?_; refine l_neu (n_move rfl rfl) rfl ?_; refine l_neu (n_move rfl rfl) rfl ?_; refine l_neu (n_len_s rfl) rfl ?_; refine l_neu (n_lss rfl rfl) rfl ?_; refine l_neu (n_move rfl rfl) rfl ?_; refine l_guard rfl rfl rfl rfl (fun hg => by rw [hg]; exact n_move rfl rfl) ?_; refine l_guard rfl rfl rfl rfl (fun hg => by rw [hg]; exact n_move rfl rfl) ?_; refine l_guard rfl rfl rfl rfl (fun hg => by have hq := hg; (try simp at hq); rw [hg]; exact n_index_s rfl rfl (by omega) (gD (by omega))) ?_; refine l_guard rfl rfl rfl rfl (fun hg => by rw [hg]; exact n_eql rfl rfl) ?_; refine l_neu (n_pick_bool rfl (fun h => by first | rfl | (rw [h]; rfl)) (fun h => by first | rfl | (rw [h]; rfl))) rfl ?_; refine l_nil ?_
      simp only [and_pick, Int.toNat_natCast]
      rw [hcm2]
      refine k1 ?_
      refine c_cond rfl (fun ht => ?_) (fun ht => ?_)
      · refine k2 ?_
        refine c_region ?_; refine l_neu (n_move rfl rfl) rfl ?_; refine l_neu (n_move rfl rfl) rfl ?_; refine l_neu (n_add rfl rfl (by omega)) rfl ?_; refine l_call (hc2) rfl rfl rfl ?_; rintro _ rfl; refine l_neu (n_move rfl rfl) rfl ?_; refine l_neu (n_extract rfl rfl) rfl ?_; refine l_neu (n_extract rfl rfl) rfl ?_; refine l_neu (n_extract rfl rfl) rfl ?_; refine l_neu (n_assign rfl rfl) rfl ?_; refine l_neu (n_assign rfl rfl) rfl ?_; refine l_neu (n_assign rfl rfl) rfl ?_; refine l_nil ?_
        refine k1 ?_; refine k2 ?_
        refine c_region ?_; refine l_neu (n_move rfl rfl) rfl ?_; refine l_neu (n_not rfl) rfl ?_; refine l_nil ?_
        refine k1 ?_
        refine c_cond rfl (fun ht => ?_) (fun ht => ?_)
        · refine k2 ?_
          refine c_region ?_; refine l_neu (n_assign rfl rfl) rfl ?_; refine l_neu (n_assign rfl rfl) rfl ?_; refine l_neu (n_assign rfl rfl) rfl ?_; refine l_neu (n_assign rfl rfl) rfl ?_; refine l_nil ?_
          refine k1 ?_; refine k10 ?_; refine k11 ?_
          refine ret_ret (rs := [pInt 0, pInt 0, pInt 0, pBool false]) (ret4 rfl rfl rfl rfl rfl rfl rfl rfl rfl) ?_
          unfold rngR rngAt
          rw [h1]; dsimp only
          rw [hget, if_pos hcm, hdd, h2]
        · cases ht
      · exact absurd hcm (of_decide_eq_false ht)
    · obtain ⟨st, hst⟩ : ∃ st : Int, st = if 0 < c then (a : Int) - 1 else a := ⟨_, rfl⟩
      have hstb : -1 ≤ st ∧ st ≤ 2147483647 := by rw [hst]; split <;> omega
      have hrc := srange_ok st c (by omega) (by omega)
      refine FnOk.intro Tryz.func189 (by decide) rfl rfl rfl rfl ?_
      refine k2 ?_
      refine c_region ?_; refine l_neu (n_assign rfl rfl) rfl ?_; refine l_neu (n_assign rfl rfl) rfl ?_; refine l_neu (n_assign rfl rfl) rfl ?_; refine l_neu (n_assign rfl rfl) rfl ?_; refine l_nil ?_
      refine k1 ?_; refine k2 ?_
      refine c_region ?_; refine l_neu (n_move rfl rfl) rfl ?_; refine l_neu (n_move rfl rfl) rfl ?_; refine l_call (hc) rfl rfl rfl ?_; rintro _ rfl; refine l_neu (n_move rfl rfl) rfl ?_; refine l_neu (n_extract rfl rfl) rfl ?_; refine l_neu (n_extract rfl rfl) rfl ?_; refine l_neu (n_extract rfl rfl) rfl ?_; refine l_neu (n_assign rfl rfl) rfl ?_; refine l_neu (n_assign rfl rfl) rfl ?_; refine l_neu (n_assign rfl rfl) rfl ?_; refine l_nil ?_
      refine k1 ?_; refine k2 ?_; refine k2 ?_
      refine c_region ?_; refine l_neu (n_move rfl rfl) rfl ?_; refine l_neu (n_not rfl) rfl ?_; refine l_nil ?_
      refine k1 ?_
      refine c_cond rfl (fun ht => ?_) (fun ht => ?_)
      · cases ht
      refine k5 ?_; refine k1 ?_; refine k2 ?_
      refine c_region ?_; refine l_neu (n_assign rfl rfl) rfl ?_; refine l_nil ?_
      refine then_normal ?_
      refine c_join [(0, sStr s), (1, sInt i), (8, sInt a), (9, sInt ((i + e : Nat) : Int)), (11, sInt c)] [] ?_ ?_
      · refine k2 ?_
        refine c_region ?_; refine l_neu (n_move rfl rfl) rfl ?_; refine l_neu (n_move rfl rfl) rfl ?_; refine l_neu (n_len_s rfl) rfl ?_; refine l_neu (n_lss rfl rfl) rfl ?_; refine l_neu (n_move rfl rfl) rfl ?_; refine l_guard rfl rfl rfl rfl (fun hg => by rw [hg]; exact n_move rfl rfl) ?_; refine l_guard rfl rfl rfl rfl (fun hg => by rw [hg]; exact n_move rfl rfl) ?_; refine l_guard rfl rfl rfl rfl (fun hg => by have hq := hg; (try simp at hq); rw [hg]; exact n_index_s rfl rfl (by omega) (gD (by omega))) ?_; refine l_guard rfl rfl rfl rfl (fun hg => by rw [hg]; exact n_eql rfl rfl) ?_; refine l_neu (n_pick_bool rfl (fun h => by first | rfl | (rw [h]; rfl)) (fun h => by first | rfl | (rw [h]; rfl))) rfl ?_; refine l_nil ?_
        simp only [and_pick, Int.toNat_natCast]
        rw [hcm2]
        refine k1 ?_
        refine c_cond rfl (fun ht => ?_) (fun ht => ?_)
        · have hcm := of_decide_eq_true ht
          have hlt := (List.getElem?_eq_some_iff.1 hcm).1
          rcases hce with ⟨kb, _, h2, he⟩ | ⟨hn, _⟩
          · have hc2 := sNumber_ok s (i + k + 1) (by omega) hs
            rw [numR_some h2, show ((i + k + 1 : Nat) : Int) = ((i + k : Nat) : Int) + 1 by omega, show i + k + 1 + kb = i + e by omega] at hc2
            refine k2 ?_
            refine c_region ?_; refine l_neu (n_move rfl rfl) rfl ?_; refine l_neu (n_move rfl rfl) rfl ?_; refine l_neu (n_add rfl rfl (by omega)) rfl ?_; refine l_call (hc2) rfl rfl rfl ?_; rintro _ rfl; refine l_neu (n_move rfl rfl) rfl ?_; refine l_neu (n_extract rfl rfl) rfl ?_; refine l_neu (n_extract rfl rfl) rfl ?_; refine l_neu (n_extract rfl rfl) rfl ?_; refine l_neu (n_assign rfl rfl) rfl ?_; refine l_neu (n_assign rfl rfl) rfl ?_; refine l_neu (n_assign rfl rfl) rfl ?_; refine l_nil ?_
            refine k1 ?_; refine k2 ?_
            refine c_region ?_; refine l_neu (n_move rfl rfl) rfl ?_; refine l_neu (n_not rfl) rfl ?_; refine l_nil ?_
            refine k1 ?_
            refine c_cond rfl (fun ht => ?_) (fun ht => ?_)
            · cases ht
            refine k5 ?_; refine k1 ?_
            exact Sees.of ⟨le1 rfl, le1 rfl, le1 rfl, le1 rfl, le1 rfl, trivial⟩ trivial
          · exact absurd hcm hn
        · have hcm := of_decide_eq_false ht
          rcases hce with ⟨kb, h3, _⟩ | ⟨_, h2, h3⟩
          · exact absurd h3 hcm
          · subst h2; subst h3
            refine k5 ?_; refine k1 ?_
            exact Sees.of ⟨le1 rfl, le1 rfl, le1 rfl, le1 rfl, le1 rfl, trivial⟩ trivial
      refine c_join [(0, sStr s), (1, sInt i), (8, sInt st), (9, sInt ((i + e : Nat) : Int)), (11, sInt c)] [] ?_ ?_
      · refine k2 ?_
        refine c_region ?_; refine l_neu (n_move rfl rfl) rfl ?_; refine l_neu (n_gtr rfl rfl) rfl ?_; refine l_nil ?_
        refine k1 ?_
        refine c_cond rfl (fun ht => ?_) (fun ht => ?_)
        · have h3 : (0 : Int) < (c : Int) := of_decide_eq_true ht
          rw [if_pos (by omega)] at hst
          skip
          refine c_region ?_; refine l_neu (n_move rfl rfl) rfl ?_; refine l_neu (n_sub rfl rfl (by omega)) rfl ?_; refine l_neu (n_assign rfl rfl) rfl ?_; refine l_nil ?_
          rw [← hst]
          refine k1 ?_
          exact Sees.of ⟨le1 rfl, le1 rfl, le1 rfl, le1 rfl, le1 rfl, trivial⟩ trivial
        · have h3 : ¬ (0 : Int) < (c : Int) := of_decide_eq_false ht
          rw [if_neg (by omega)] at hst
          rw [hst]
          refine k5 ?_; refine k1 ?_
          exact Sees.of ⟨le1 rfl, le1 rfl, le1 rfl, le1 rfl, le1 rfl, trivial⟩ trivial
      unfold rngFin at hfin
      rw [← hst] at hfin
      refine k2 ?_; refine k2 ?_
      refine c_region_draw (by kernel_rfl) (by kernel_rfl) ?_; refine d_neu (n_move rfl rfl) rfl rfl ?_; refine d_neu (n_move rfl rfl) rfl rfl ?_; refine d_neu (n_call1 (hrc) rfl rfl) rfl rfl ?_; refine d_neu (n_move rfl rfl) rfl rfl ?_; refine d_neu (n_move rfl rfl) rfl rfl ?_; refine d_neu (n_move rfl rfl) rfl rfl ?_; refine d_neu (n_sub_lh rfl rfl rfl (by omega) (by omega) (by omega)) rfl rfl ?_; refine d_neu (n_neq_s rfl rfl) rfl rfl ?_; refine d_nil ?_
      rw [show ((i : Int)).toNat = i by omega, show (((i + e : Nat) : Int)).toNat - i = e by omega]
      refine k1 ?_
      refine c_cond rfl (fun ht => ?_) (fun ht => ?_)
      · have h3 : ¬ rangeOf st c = (s.drop i).take e := of_decide_eq_true ht
        refine k2 ?_
        refine c_region ?_; refine l_neu (n_assign rfl rfl) rfl ?_; refine l_neu (n_assign rfl rfl) rfl ?_; refine l_neu (n_assign rfl rfl) rfl ?_; refine l_neu (n_assign rfl rfl) rfl ?_; refine l_nil ?_
        refine k1 ?_; refine k10 ?_; refine k11 ?_
        refine ret_ret (rs := [pInt 0, pInt 0, pInt 0, pBool false]) (ret4 rfl rfl rfl rfl rfl rfl rfl rfl rfl) ?_
        rw [if_neg h3] at hfin
        unfold rngR; rw [hfin]
      · have h3 : rangeOf st c = (s.drop i).take e := Decidable.not_not.1 (of_decide_eq_false ht)
        refine k5 ?_; refine k1 ?_; refine k2 ?_
        refine c_region ?_; refine l_neu (n_move rfl rfl) rfl ?_; refine l_neu (n_move rfl rfl) rfl ?_; refine l_neu (n_move rfl rfl) rfl ?_; refine l_neu (n_assign rfl rfl) rfl ?_; refine l_neu (n_assign rfl rfl) rfl ?_; refine l_neu (n_assign rfl rfl) rfl ?_; refine l_neu (n_assign rfl rfl) rfl ?_; refine l_nil ?_
        refine k1 ?_; refine k10 ?_
        refine ret_ret (rs := [pInt st, pInt c, pInt ((i + e : Nat) : Int), pBool true]) (ret4 rfl rfl rfl rfl rfl rfl rfl rfl rfl) ?_
        rw [if_pos h3] at hfin
        unfold rngR; rw [hfin]
theorem rRange_ok (s : Str) (i : Nat) (hi : i ≤ s.length) (hs : s.length ≤ 1073741824) : FnOk Tryz.prog 137 [pStr s, pInt i] (fun rs => rs = rngR s i) := by
  have hc := rNumber_ok s i hi hs
  cases h1 : numAt (s.drop i) with
  | none =>
    rw [numR_none h1] at hc
    refine FnOk.intro Tryz.func137 (by decide) rfl rfl rfl rfl ?_
    refine k2 ?_
    refine c_region ?_; refine l_neu (n_assign rfl rfl) rfl ?_; refine l_neu (n_assign rfl rfl) rfl ?_; refine l_neu (n_assign rfl rfl) rfl ?_; refine l_neu (n_assign rfl rfl) rfl ?_; refine l_nil ?_
    refine k1 ?_; refine k2 ?_
    refine c_region ?_; refine l_neu (n_move rfl rfl) rfl ?_; refine l_neu (n_move rfl rfl) rfl ?_; refine l_call (hc) rfl rfl rfl ?_; rintro _ rfl; refine l_neu (n_move rfl rfl) rfl ?_; refine l_neu (n_extract rfl rfl) rfl ?_; refine l_neu (n_extract rfl rfl) rfl ?_; refine l_neu (n_extract rfl rfl) rfl ?_; refine l_neu (n_assign rfl rfl) rfl ?_; refine l_neu (n_assign rfl rfl) rfl ?_; refine l_neu (n_assign rfl rfl) rfl ?_; refine l_nil ?_
    refine k1 ?_; refine k2 ?_; refine k2 ?_
    refine c_region ?_; refine l_neu (n_move rfl rfl) rfl ?_; refine l_neu (n_not rfl) rfl ?_; refine l_nil ?_
    refine k1 ?_
    refine c_cond rfl (fun ht => ?_) (fun ht => ?_)
    · refine k2 ?_
      refine c_region ?_; refine l_neu (n_assign rfl rfl) rfl ?_; refine l_neu (n_assign rfl rfl) rfl ?_; refine l_neu (n_assign rfl rfl) rfl ?_; refine l_neu (n_assign rfl rfl) rfl ?_; refine l_nil ?_
      refine k1 ?_; refine k10 ?_; refine k11 ?_
      exact ret_ret (ret4 rfl rfl rfl rfl rfl rfl rfl rfl rfl) (by unfold rngR rngAt; rw [h1])
    · cases ht
  | some p =>
    obtain ⟨a, k⟩ := p
    rw [numR_some h1] at hc
    obtain ⟨_, _, hk0, hk1, ha⟩ := num_facts h1
    rw [List.length_drop] at hk1
    have hget : (s.drop i)[k]? = s[i + k]? := by rw [List.getElem?_drop]
    have hdd : (s.drop i).drop (k + 1) = s.drop (i + k + 1) := by rw [List.drop_drop]; rfl
    have hcm2 : decide (((i + k : Nat) : Int) < (s.length : Int) ∧ ((s.getD (i + k) 0).toNat : Int) = 44) = decide (s[i + k]? = some 44) := by
      have : (44 : UInt8).toNat = 44 := rfl
      congr 1
      by_cases hlt : i + k < s.length
      · rw [gD hlt, Option.some.injEq, ← UInt8.toNat_inj]
        apply propext; constructor <;> intro h <;> omega
      · rw [List.getElem?_eq_none (by omega)]
        apply propext; constructor <;> intro h
        · omega
        · cases h
    have hcase : (s[i + k]? = some 44 ∧ numAt (s.drop (i + k + 1)) = none) ∨ (∃ c e, ((∃ kb, s[i + k]? = some 44 ∧ numAt (s.drop (i + k + 1)) = some (c, kb) ∧ e = k + 1 + kb) ∨ (s[i + k]? ≠ some 44 ∧ c = 1 ∧ e = k)) ∧ i + e ≤ s.length ∧ c ≤ 2147483647 ∧ rngAt (s.drop i) = rngFin (s.drop i) a c e) := by
      by_cases hcm : s[i + k]? = some 44
      · have hlt := (List.getElem?_eq_some_iff.1 hcm).1
        cases h2 : numAt (s.drop (i + k + 1)) with
        | none => exact .inl ⟨hcm, rfl⟩
        | some q =>
          obtain ⟨c, kb⟩ := q
          obtain ⟨_, _, hk2, hk3, hc2⟩ := num_facts h2
          rw [List.length_drop] at hk3
          refine .inr ⟨c, k + 1 + kb, .inl ⟨kb, hcm, rfl, rfl⟩, by omega, hc2, ?_⟩
          unfold rngAt
          rw [h1]; dsimp only
          rw [hget, if_pos hcm, hdd, h2]
      · refine .inr ⟨1, k, .inr ⟨hcm, rfl, rfl⟩, by omega, by omega, ?_⟩
        unfold rngAt
        rw [h1]; dsimp only
        rw [hget, if_neg hcm]
    rcases hcase with ⟨hcm, h2⟩ | ⟨c, e, hce, hel, hcb, hfin⟩
    · have hlt := (List.getElem?_eq_some_iff.1 hcm).1
      have hc2 := rNumber_ok s (i + k + 1) (by omega) hs
      rw [numR_none h2, show ((i + k + 1 : Nat) : Int) = ((i + k : Nat) : Int) + 1 by omega] at hc2
      refine FnOk.intro Tryz.func137 (by decide) rfl rfl rfl rfl ?_
      refine k2 ?_
      refine c_region ?_; refine l_neu (n_assign rfl rfl) rfl ?_; refine l_neu (n_assign rfl rfl) rfl ?_; refine l_neu (n_assign rfl rfl) rfl ?_; refine l_neu (n_assign rfl rfl) rfl ?_; refine l_nil ?_
      refine k1 ?_; refine k2 ?_
      refine c_region ?_; refine l_neu (n_move rfl rfl) rfl ?_; refine l_neu (n_move rfl rfl) rfl ?_; refine l_call (hc) rfl rfl rfl ?_; rintro _ rfl; refine l_neu (n_move rfl rfl) rfl ?_; refine l_neu (n_extract rfl rfl) rfl ?_; refine l_neu (n_extract rfl rfl) rfl ?_; refine l_neu (n_extract rfl rfl) rfl ?_; refine l_neu (n_assign rfl rfl) rfl ?_; refine l_neu (n_assign rfl rfl) rfl ?_; refine l_neu (n_assign rfl rfl) rfl ?_; refine l_nil ?_
      refine k1 ?_; refine k2 ?_; refine k2 ?_
      refine c_region ?_; refine l_neu (n_move rfl rfl) rfl ?_; refine l_neu (n_not rfl) rfl ?_; refine l_nil ?_
      refine k1 ?_
      refine c_cond rfl (fun ht => ?_) (fun ht => ?_)
      · cases ht
      refine k5 ?_; refine k1 ?_; refine k2 ?_
      refine c_region ?_; refine l_neu (n_assign rfl rfl) rfl ?_; refine l_nil ?_
      refine k1 ?_; refine k2 ?_; refine k2 ?_
      refine c_region ?_; refine l_neu (n_move rfl rfl) rfl ?_; refine l_neu (n_move rfl rfl) rfl ?_; refine l_neu (n_len_s rfl) rfl ?_; refine l_neu (n_lss rfl rfl) rfl ?_; refine l_neu (n_move rfl rfl) rfl ?_; refine l_guard rfl rfl rfl rfl (fun hg => by rw [hg]; exact n_move rfl rfl) ?_; refine l_guard rfl rfl rfl rfl (fun hg => by rw [hg]; exact n_move rfl rfl) ?_; refine l_guard rfl rfl rfl rfl (fun hg => by have hq := hg; (try simp at hq); rw [hg]; exact n_index_s rfl rfl (by omega) (gD (by omega))) ?_; refine l_guard rfl rfl rfl rfl (fun hg => by rw [hg]; exact n_eql rfl rfl) ?_; refine l_neu (n_pick_bool rfl (fun h => by first | rfl | (rw [h]; rfl)) (fun h => by first | rfl | (rw [h]; rfl))) rfl ?_; refine l_nil ?_
      simp only [and_pick, Int.toNat_natCast]
      rw [hcm2]
      refine k1 ?_
      refine c_cond rfl (fun ht => ?_) (fun ht => ?_)
      · refine k2 ?_
        refine c_region ?_; refine l_neu (n_move rfl rfl) rfl ?_; refine l_neu (n_move rfl rfl) rfl ?_; refine l_neu (n_add rfl rfl (by omega)) rfl ?_; refine l_call (hc2) rfl rfl rfl ?_; rintro _ rfl; refine l_neu (n_move rfl rfl) rfl ?_; refine l_neu (n_extract rfl rfl) rfl ?_; refine l_neu (n_extract rfl rfl) rfl ?_; refine l_neu (n_extract rfl rfl) rfl ?_; refine l_neu (n_assign rfl rfl) rfl ?_; refine l_neu (n_assign rfl rfl) rfl ?_; refine l_neu (n_assign rfl rfl) rfl ?_; refine l_nil ?_
        refine k1 ?_; refine k2 ?_
        refine c_region ?_; refine l_neu (n_move rfl rfl) rfl ?_; refine l_neu (n_not rfl) rfl ?_; refine l_nil ?_
        refine k1 ?_
        refine c_cond rfl (fun ht => ?_) (fun ht => ?_)
        · refine k2 ?_
          refine c_region ?_; refine l_neu (n_assign rfl rfl) rfl ?_; refine l_neu (n_assign rfl rfl) rfl ?_; refine l_neu (n_assign rfl rfl) rfl ?_; refine l_neu (n_assign rfl rfl) rfl ?_; refine l_nil ?_
          refine k1 ?_; refine k10 ?_; refine k11 ?_
          refine ret_ret (rs := [pInt 0, pInt 0, pInt 0, pBool false]) (ret4 rfl rfl rfl rfl rfl rfl rfl rfl rfl) ?_
          unfold rngR rngAt
          rw [h1]; dsimp only
          rw [hget, if_pos hcm, hdd, h2]
        · cases ht
      · exact absurd hcm (of_decide_eq_false ht)
    · obtain ⟨st, hst⟩ : ∃ st : Int, st = if 0 < c then (a : Int) - 1 else a := ⟨_, rfl⟩
      have hstb : -1 ≤ st ∧ st ≤ 2147483647 := by rw [hst]; split <;> omega
      have hrc := rrange_ok st c (by omega) (by omega)
      refine FnOk.intro Tryz.func137 (by decide) rfl rfl rfl rfl ?_
      refine k2 ?_
      refine c_region ?_; refine l_neu (n_assign rfl rfl) rfl ?_; refine l_neu (n_assign rfl rfl) rfl ?_; refine l_neu (n_assign rfl rfl) rfl ?_; refine l_neu (n_assign rfl rfl) rfl ?_; refine l_nil ?_
      refine k1 ?_; refine k2 ?_
      refine c_region ?_; refine l_neu (n_move rfl rfl) rfl ?_; refine l_neu (n_move rfl rfl) rfl ?_; refine l_call (hc) rfl rfl rfl ?_; rintro _ rfl; refine l_neu (n_move rfl rfl) rfl ?_; refine l_neu (n_extract rfl rfl) rfl ?_; refine l_neu (n_extract rfl rfl) rfl ?_; refine l_neu (n_extract rfl rfl) rfl ?_; refine l_neu (n_assign rfl rfl) rfl ?_; refine l_neu (n_assign rfl rfl) rfl ?_; refine l_neu (n_assign rfl rfl) rfl ?_; refine l_nil ?_
      refine k1 ?_; refine k2 ?_; refine k2 ?_
      refine c_region ?_; refine l_neu (n_move rfl rfl) rfl ?_; refine l_neu (n_not rfl) rfl ?_; refine l_nil ?_
      refine k1 ?_
      refine c_cond rfl (fun ht => ?_) (fun ht => ?_)
      · cases ht
      refine k5 ?_; refine k1 ?_; refine k2 ?_
      refine c_region ?_; refine l_neu (n_assign rfl rfl) rfl ?_; refine l_nil ?_
      refine then_normal ?_
      refine c_join [(0, sStr s), (1, sInt i), (8, sInt a), (9, sInt ((i + e : Nat) : Int)), (11, sInt c)] [] ?_ ?_
      · refine k2 ?_
        refine c_region ?_; refine l_neu (n_move rfl rfl) rfl ?_; refine l_neu (n_move rfl rfl) rfl ?_; refine l_neu (n_len_s rfl) rfl ?_; refine l_neu (n_lss rfl rfl) rfl ?_; refine l_neu (n_move rfl rfl) rfl ?_; refine l_guard rfl rfl rfl rfl (fun hg => by rw [hg]; exact n_move rfl rfl) ?_; refine l_guard rfl rfl rfl rfl (fun hg => by rw [hg]; exact n_move rfl rfl) ?_; refine l_guard rfl rfl rfl rfl (fun hg => by have hq := hg; (try simp at hq); rw [hg]; exact n_index_s rfl rfl (by omega) (gD (by omega))) ?_; refine l_guard rfl rfl rfl rfl (fun hg => by rw [hg]; exact n_eql rfl rfl) ?_; refine l_neu (n_pick_bool rfl (fun h => by first | rfl | (rw [h]; rfl)) (fun h => by first | rfl | (rw [h]; rfl))) rfl ?_; refine l_nil ?_
        simp only [and_pick, Int.toNat_natCast]
        rw [hcm2]
        refine k1 ?_
        refine c_cond rfl (fun ht => ?_) (fun ht => ?_)
        · have hcm := of_decide_eq_true ht
          have hlt := (List.getElem?_eq_some_iff.1 hcm).1
          rcases hce with ⟨kb, _, h2, he⟩ | ⟨hn, _⟩
          · have hc2 := rNumber_ok s (i + k + 1) (by omega) hs
            rw [numR_some h2, show ((i + k + 1 : Nat) : Int) = ((i + k : Nat) : Int) + 1 by omega, show i + k + 1 + kb = i + e by omega] at hc2
            refine k2 ?_
            refine c_region ?_; refine l_neu (n_move rfl rfl) rfl ?_; refine l_neu (n_move rfl rfl) rfl ?_; refine l_neu (n_add rfl rfl (by omega)) rfl ?_; refine l_call (hc2) rfl rfl rfl ?_; rintro _ rfl; refine l_neu (n_move rfl rfl) rfl ?_; refine l_neu (n_extract rfl rfl) rfl ?_; refine l_neu (n_extract rfl rfl) rfl ?_; refine l_neu (n_extract rfl rfl) rfl ?_; refine l_neu (n_assign rfl rfl) rfl ?_; refine l_neu (n_assign rfl rfl) rfl ?_; refine l_neu (n_assign rfl rfl) rfl ?_; refine l_nil ?_
            refine k1 ?_; refine k2 ?_
            refine c_region ?_; refine l_neu (n_move rfl rfl) rfl ?_; refine l_neu (n_not rfl) rfl ?_; refine l_nil ?_
            refine k1 ?_
            refine c_cond rfl (fun ht => ?_) (fun ht => ?_)
            · cases ht
            refine k5 ?_; refine k1 ?_
            exact Sees.of ⟨le1 rfl, le1 rfl, le1 rfl, le1 rfl, le1 rfl, trivial⟩ trivial
          · exact absurd hcm hn
        · have hcm := of_decide_eq_false ht
          rcases hce with ⟨kb, h3, _⟩ | ⟨_, h2, h3⟩
          · exact absurd h3 hcm
          · subst h2; subst h3
            refine k5 ?_; refine k1 ?_
            exact Sees.of ⟨le1 rfl, le1 rfl, le1 rfl, le1 rfl, le1 rfl, trivial⟩ trivial
      refine c_join [(0, sStr s), (1, sInt i), (8, sInt st), (9, sInt ((i + e : Nat) : Int)), (11, sInt c)] [] ?_ ?_
      · refine k2 ?_
        refine c_region ?_; refine l_neu (n_move rfl rfl) rfl ?_; refine l_neu (n_gtr rfl rfl) rfl ?_; refine l_nil ?_
        refine k1 ?_
        refine c_cond rfl (fun ht => ?_) (fun ht => ?_)
        · have h3 : (0 : Int) < (c : Int) := of_decide_eq_true ht
          rw [if_pos (by omega)] at hst
          skip
          refine c_region ?_; refine l_neu (n_move rfl rfl) rfl ?_; refine l_neu (n_sub rfl rfl (by omega)) rfl ?_; refine l_neu (n_assign rfl rfl) rfl ?_; refine l_nil ?_
          rw [← hst]
          refine k1 ?_
          exact Sees.of ⟨le1 rfl, le1 rfl, le1 rfl, le1 rfl, le1 rfl, trivial⟩ trivial
        · have h3 : ¬ (0 : Int) < (c : Int) := of_decide_eq_false ht
          rw [if_neg (by omega)] at hst
          rw [hst]
          refine k5 ?_; refine k1 ?_
          exact Sees.of ⟨le1 rfl, le1 rfl, le1 rfl, le1 rfl, le1 rfl, trivial⟩ trivial
      unfold rngFin at hfin
      rw [← hst] at hfin
      refine k2 ?_; refine k2 ?_
      refine c_region_draw (by kernel_rfl) (by kernel_rfl) ?_; refine d_neu (n_move rfl rfl) rfl rfl ?_; refine d_neu (n_move rfl rfl) rfl rfl ?_; refine d_neu (n_call1 (hrc) rfl rfl) rfl rfl ?_; refine d_neu (n_move rfl rfl) rfl rfl ?_; refine d_neu (n_move rfl rfl) rfl rfl ?_; refine d_neu (n_move rfl rfl) rfl rfl ?_; refine d_neu (n_sub_lh rfl rfl rfl (by omega) (by omega) (by omega)) rfl rfl ?_; refine d_neu (n_neq_s rfl rfl) rfl rfl ?_; refine d_nil ?_
      rw [show ((i : Int)).toNat = i by omega, show (((i + e : Nat) : Int)).toNat - i = e by omega]
      refine k1 ?_
      refine c_cond rfl (fun ht => ?_) (fun ht => ?_)
      · have h3 : ¬ rangeOf st c = (s.drop i).take e := of_decide_eq_true ht
        refine k2 ?_
        refine c_region ?_; refine l_neu (n_assign rfl rfl) rfl ?_; refine l_neu (n_assign rfl rfl) rfl ?_; refine l_neu (n_assign rfl rfl) rfl ?_; refine l_neu (n_assign rfl rfl) rfl ?_; refine l_nil ?_
        refine k1 ?_; refine k10 ?_; refine k11 ?_
        refine ret_ret (rs := [pInt 0, pInt 0, pInt 0, pBool false]) (ret4 rfl rfl rfl rfl rfl rfl rfl rfl rfl) ?_
        rw [if_neg h3] at hfin
        unfold rngR; rw [hfin]
      · have h3 : rangeOf st c = (s.drop i).take e := Decidable.not_not.1 (of_decide_eq_false ht)
        refine k5 ?_; refine k1 ?_; refine k2 ?_
        refine c_region ?_; refine l_neu (n_move rfl rfl) rfl ?_; refine l_neu (n_move rfl rfl) rfl ?_; refine l_neu (n_move rfl rfl) rfl ?_; refine l_neu (n_assign rfl rfl) rfl ?_; refine l_neu (n_assign rfl rfl) rfl ?_; refine l_neu (n_assign rfl rfl) rfl ?_; refine l_neu (n_assign rfl rfl) rfl ?_; refine l_nil ?_
        refine k1 ?_; refine k10 ?_
        refine ret_ret (rs := [pInt st, pInt c, pInt ((i + e : Nat) : Int), pBool true]) (ret4 rfl rfl rfl rfl rfl rfl rfl rfl rfl) ?_
        rw [if_pos h3] at hfin
        unfold rngR; rw [hfin]
end Go.Proofs.YtjjidificdmnmaaGreatDoor
