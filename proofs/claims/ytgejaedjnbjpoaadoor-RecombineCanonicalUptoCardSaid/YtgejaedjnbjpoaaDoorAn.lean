/- The abstract logic, its third part. No project text. -/
import Derived.Test.YtgejaedjnbjpoaaDoorAm
import Derived.Laws.StructEq
import Derived.Laws.Cover3
import Derived.MapKept
attribute [local semireducible] Go.AL.Neu Go.AL.Eff Go.AL.EffV Go.AL.WpL Go.AL.WpC Go.AL.FnOk Go.AL.LexD Go.AL.Sees Go.AL.RetOk Go.AL.FnIo Go.AL.Met Go.AL.RetS
namespace Go.AL
open Go Go.RowKit
set_option linter.unusedVariables false
section
variable {P : Program} {nt : Nat} {ops : Array Oper}
def Told (U : Fr) (φ : Fa) : Prop := ∀ t s, getF U t = some s → φ t = some s
def AnyC (P : Program) (nt : Nat) (ops : Array Oper) (T : Nat) (U : Fr) (ob ob' : Obs) (E : Array Bool → Fa → Prop) : Nat → Array Bool → Fa → Prop
  | 0, listed, φ => (T ∈ Region.ready .any ops listed → Told U φ) ∧ T ∈ Region.ready .any ops listed ∧ (∀ j ∈ Region.ready .any ops listed, j = T) ∧ E listed φ
  | fuel + 1, listed, φ => (T ∈ Region.ready .any ops listed → Told U φ) ∧ (∃ p, p < T ∧ p ∈ Region.ready .any ops listed) ∧ ∀ i ∈ Region.ready .any ops listed, i ≠ T →
      ∃ o s d, ops[i]? = some o ∧ o.dst = some d ∧ turns o.op = false ∧ YieldsN P nt ops o φ ob s ∧ YieldsN P nt ops o φ ob' s ∧ AnyC P nt ops T U ob ob' E fuel (listed.setIfInBounds i true) (putF φ d s)
theorem AnyC.told {T : Nat} {U : Fr} {ob ob' : Obs} {E : Array Bool → Fa → Prop} {fuel : Nat} {listed : Array Bool} {φ : Fa} (h : AnyC P nt ops T U ob ob' E fuel listed φ) : T ∈ Region.ready .any ops listed → Told U φ := by
  cases fuel <;> exact h.1
theorem n_pick_t {fr : Fr} {ob : Obs} {dst : Option Tmp} {ty : TypeId} {pos : String} {af : Array Edge} {gd : Option (Nat × Bool)} {c x y : Operand} {b p : Bool} (hc : opv fr c = some (sBool b)) (hb : b = true) (hx : opv fr x = some (sBool p)) :
    Neu P ⟨dst, .pick c x y, ty, pos, af, gd⟩ fr ob (fun s' => s' = sBool p) :=
  neu_same fun S G a w h => by
    have := opv_val h hc
    subst hb
    exact ⟨.bool p, by simp [execOp, this, asBool, opv_val h hx], rfl, rfl⟩
theorem n_pick_f {fr : Fr} {ob : Obs} {dst : Option Tmp} {ty : TypeId} {pos : String} {af : Array Edge} {gd : Option (Nat × Bool)} {c x y : Operand} {b p : Bool} (hc : opv fr c = some (sBool b)) (hb : b = false) (hx : opv fr y = some (sBool p)) :
    Neu P ⟨dst, .pick c x y, ty, pos, af, gd⟩ fr ob (fun s' => s' = sBool p) :=
  neu_same fun S G a w h => by
    have := opv_val h hc
    subst hb
    exact ⟨.bool p, by simp [execOp, this, asBool, opv_val h hx], rfl, rfl⟩
end
end Go.AL
namespace Go.AL
open Go Go.RowKit
end Go.AL
namespace Go.AL
open Go Go.RowKit
set_option linter.unusedVariables false
inductive CK | int (k : IntKind) | str | bool
def ckOf (P : Program) (t : TypeId) : Option CK :=
  match P.underlying t with
  | some (.int k) => some (.int k)
  | some .string => some .str
  | some .bool => some .bool
  | _ => none
def cmpFs (P : Program) : Nat → List Field → List CK → Bool
  | _, [], [] => true
  | i, f :: fs, k :: ks => f.name != "_" && (f.offset == i && ((match ckOf P f.type, k with | some (.int k), .int k' => decide (k = k') | some .str, .str => true | some .bool, .bool => true | _, _ => false) && cmpFs P (i + 1) fs ks))
  | _, _, _ => false
class TyCmp (P : Program) (t : TypeId) (ks : outParam (List CK)) : Prop where
  out : P.underlying t = some (.struct (P.fieldsOf t)) ∧ (cmpFs P 0 (P.fieldsOf t).toList ks && (!P.stoodInHeld t && !P.eqGuardType P.depth t)) = true
def ckV : CK → Value → Bool
  | .int k, .int k' _ => decide (k = k')
  | .str, .string _ => true
  | .bool, .bool _ => true
  | _, _ => false
def eqV : Value → Value → Bool
  | .int _ a, .int _ b => a == b
  | .string a, .string b => a.toList == b.toList
  | .bool a, .bool b => a == b
  | _, _ => false
def ckVs : List CK → List Value → Bool
  | [], [] => true
  | k :: ks, v :: vs => ckV k v && ckVs ks vs
  | _, _ => false
def eqVs : List Value → List Value → Bool
  | u :: us, v :: vs => eqV u v && eqVs us vs
  | _, _ => true
theorem run_eqFields {P : Program} (d : Nat) (us vs : List Value) : ∀ (fs : List Field) (ks : List CK) (i : Nat), cmpFs P i fs ks = true → i + ks.length = us.length → i + ks.length = vs.length → ckVs ks (us.drop i) = true → ckVs ks (vs.drop i) = true →
    ∀ w : World, (Op.eqFields (d + 1) us.toArray vs.toArray fs).run P w = .ok (eqVs (us.drop i) (vs.drop i)) w
  | [], [], i, _, h1, h2, _, _, w => by
    rw [List.drop_eq_nil_of_le (by simp at h1; omega)]
    simp [Op.eqFields, eqVs]
  | [], _ :: _, _, h, _, _, _, _, _ => by simp [cmpFs] at h
  | _ :: _, [], _, h, _, _, _, _, _ => by simp [cmpFs] at h
  | f :: fs, k :: ks, i, h, h1, h2, h3, h4, w => by
    simp only [cmpFs, Bool.and_eq_true, bne_iff_ne, beq_iff_eq] at h
    obtain ⟨hn, ho, hk, hr⟩ := h
    have l1 : i < us.length := by simp at h1; omega
    have l2 : i < vs.length := by simp at h2; omega
    rw [List.drop_eq_getElem_cons l1] at h3 ⊢
    rw [List.drop_eq_getElem_cons l2] at h4 ⊢
    simp only [ckVs, Bool.and_eq_true] at h3 h4
    have ih := run_eqFields (P := P) d us vs fs ks (i + 1) hr (by simp at h1; omega) (by simp at h2; omega) h3.2 h4.2
    have key : ∀ w : World, (part f.type us.toArray f.offset).run P w = .ok us[i] w ∧ (part f.type vs.toArray f.offset).run P w = .ok vs[i] w ∧ (Op.equalIn (d + 1) f.type us[i] vs[i]).run P w = .ok (eqV us[i] vs[i]) w := by
      intro w
      have e1 : us.toArray[f.offset]? = some us[i] := by rw [ho]; simp [l1]
      have e2 : vs.toArray[f.offset]? = some vs[i] := by rw [ho]; simp [l2]
      have q3 := h3.1
      have q4 := h4.1
      unfold ckOf at hk
      generalize us[i] = u at *
      generalize vs[i] = v at *
      cases hu : P.underlying f.type with
      | none => rw [hu] at hk; simp at hk
      | some ty =>
        rw [hu] at hk
        cases ty <;> simp only at hk <;> try (simp at hk; done)
        all_goals (cases k <;> simp only [Bool.false_eq_true, decide_eq_true_eq] at hk)
        all_goals (cases u <;> simp only [ckV, Bool.false_eq_true, decide_eq_true_eq] at q3)
        all_goals (cases v <;> simp only [ckV, Bool.false_eq_true, decide_eq_true_eq] at q4)
        all_goals try subst q3
        all_goals try subst q4
        all_goals refine ⟨by simp [part, isAgg, run_underlying hu, e1], by simp [part, isAgg, run_underlying hu, e2], ?_⟩
        · exact run_equalIn_bool' w _ _ _ _ hu
        · exact run_equalIn_int w _ _ _ _ _ _ hu
        · exact run_equalIn_string w _ _ _ _ hu
    simp only [Op.eqFields, Sem.run_bind, Sem.run_ite]
    rw [if_pos hn, (key w).1]
    simp only [Result.andThen_ok]
    rw [(key w).2.1]
    simp only [Result.andThen_ok]
    rw [(key w).2.2]
    simp only [Result.andThen_ok]
    cases he : eqV us[i] vs[i]
    · simp [eqVs, he]
    · simp only [eqVs, he, Bool.true_and]
      simpa using ih w
theorem ckVs_len : ∀ {ks : List CK} {us : List Value}, ckVs ks us = true → ks.length = us.length
  | [], [], _ => rfl
  | [], _ :: _, h => by simp [ckVs] at h
  | _ :: _, [], h => by simp [ckVs] at h
  | _ :: ks, _ :: us, h => by simp only [ckVs, Bool.and_eq_true] at h; simp [ckVs_len h.2]
section
variable {P : Program} {dst : Option Tmp} {ty : TypeId} {pos : String} {af : Array Edge} {gd : Option (Nat × Bool)} {fr : Fr} {ob : Obs}
theorem agg_values {rd : Rd} {G : Gh} : ∀ {us vs : List Value}, All2 (TC.rep rd G) (us.map fun u => TC.p (.v u)) vs → vs = us
  | [], [], _ => rfl
  | [], _ :: _, h => h.elim
  | _ :: _, [], h => h.elim
  | u :: us, v :: vs, h => by
    obtain ⟨⟨h1, _⟩, h2⟩ := h
    rw [agg_values h2, h1]
theorem cmp_run {t : TypeId} {ks : List CK} {us vs : List Value} [ht : TyCmp P t ks] (h : (ckVs ks us && ckVs ks vs) = true) (w : World) : (Op.equalIn 10000 t (.agg us.toArray) (.agg vs.toArray)).run P w = .ok (eqVs us vs) w := by
  obtain ⟨h1, h2⟩ := ht.out
  simp only [Bool.and_eq_true, Bool.not_eq_true'] at h h2
  have e1 := ckVs_len h.1
  have e2 := ckVs_len h.2
  rw [run_equalIn_agg w 9999 t _ _ h1 h2.2.1]
  have := run_eqFields (P := P) 9998 us vs _ ks 0 h2.1 (by omega) (by omega) h.1 h.2 w
  exact this
theorem n_eql_st {t yt : TypeId} {x y : Operand} {ks : List CK} (us vs : List Value) {r : Bool} [ht : TyCmp P t ks] (hx : opv fr x = some (.s (.agg (us.map fun u => .p (.v u))))) (hy : opv fr y = some (.s (.agg (vs.map fun u => .p (.v u)))))
    (hc : (constOk x && constOk y) = true) (hk : (ckVs ks us && ckVs ks vs) = true) (hr : eqVs us vs = r) : Neu P ⟨dst, .binOp .eql t x y yt, ty, pos, af, gd⟩ fr ob (fun s' => s' = sBool r) :=
  neu_same fun S G a w h => by
    simp only [Bool.and_eq_true] at hc
    obtain ⟨us', e1, a1⟩ := opv_rep h hx hc.1
    obtain ⟨vs', e2, a2⟩ := opv_rep h hy hc.2
    obtain rfl := agg_values a1
    obtain rfl := agg_values a2
    have hg := ht.out.2
    simp only [Bool.and_eq_true, Bool.not_eq_true'] at hg
    refine ⟨.bool r, ?_, rfl, rfl⟩
    simp only [execOp, e1, e2]
    refine run_v ?_
    simp only [Sem.run_bind]
    rw [run_eqGuard_agg (hm := hg.2.2)]
    simp only [Result.andThen_ok]
    rw [run_eql_struct, cmp_run hk, hr]
    rfl
end
end Go.AL
namespace Go.AL
open Go Go.RowKit
set_option linter.unusedVariables false
theorem getB_set_ne {listed : Array Bool} {e j : Nat} (h : e ≠ j) : (listed.setIfInBounds e true).getD j false = listed.getD j false := by
  simp only [Array.getD_eq_getD_getElem?, Array.getElem?_setIfInBounds_ne h]
def usesC : Op → List Nat
  | .store _ x y => tmO x ++ tmO y
  | .box _ x => tmO x
  | .makeSlice _ x y => tmO x ++ tmO y
  | op => usesOp op
def svAt (sv : List SV) (i : Nat) : SV := sv.getD i .any
def allFr : List Oper → List SV → Fr → Fr
  | o :: l, s :: sv, fr => match o.dst with
    | some d => (d, s) :: allFr l sv fr
    | none => allFr l sv fr
  | _, _, fr => fr
abbrev Xe := List (Nat × Bool × (Nat × Ob))
def xAt : Xe → Nat → Option (Bool × (Nat × Ob))
  | [], _ => none
  | (i, x) :: r, e => cond (Nat.beq i e) (some x) (xAt r e)
def obD (xe : Xe) (ob : Obs) : List Nat → Obs
  | [] => ob
  | e :: D => match xAt xe e with
    | some x => x.2 :: obD xe ob D
    | none => obD xe ob D
def insD (e : Nat) : List Nat → List Nat
  | [] => [e]
  | d :: D => cond (Nat.blt d e) (e :: d :: D) (d :: insD e D)
def hasN (l : List Nat) (e : Nat) : Bool := l.any (Nat.beq e)
theorem hasN_iff {l : List Nat} {e : Nat} : hasN l e = true ↔ e ∈ l := by
  unfold hasN
  rw [List.any_eq_true]
  exact ⟨fun ⟨x, h, he⟩ => by rw [Nat.eq_of_beq_eq_true he]; exact h, fun h => ⟨e, h, Nat.beq_refl e⟩⟩
def possD (ops : Array Oper) (E : List Nat) (i : Nat) (D : List Nat) : Bool := !(hasN D i) && ((E.all fun j => !(Bef ops i j) || hasN D j) && D.all fun j => !(Bef ops j i))
def sameL : List Nat → List Nat → Bool
  | [], [] => true
  | a :: l, b :: m => Nat.beq a b && sameL l m
  | _, _ => false
theorem sameL_eq : ∀ {l m : List Nat}, sameL l m = true → l = m
  | [], [], _ => rfl
  | [], _ :: _, h => by simp [sameL] at h
  | _ :: _, [], h => by simp [sameL] at h
  | a :: l, b :: m, h => by
    simp only [sameL, Bool.and_eq_true] at h
    rw [Nat.eq_of_beq_eq_true h.1, sameL_eq h.2]
def memM (M : List (List Nat)) (D : List Nat) : Bool := M.any (sameL D)
theorem memM_mem {M : List (List Nat)} {D : List Nat} (h : memM M D = true) : D ∈ M := by
  obtain ⟨x, h1, h2⟩ := List.any_eq_true.1 h
  rw [sameL_eq h2]; exact h1
def desc : List Nat → Bool
  | [] => true
  | a :: l => l.all (fun b => Nat.blt b a) && desc l
def dstL : List Oper → List Nat
  | [] => []
  | o :: l => match o.dst with
    | some d => d :: dstL l
    | none => dstL l
def nodupB : List Nat → Bool
  | [] => true
  | a :: l => !(hasN l a) && nodupB l
section
variable {P : Program} {nt : Nat}
def EffQ (P : Program) (nt : Nat) (ops : Array Oper) (o : Oper) (U : Fr) (new : Bool) (ob : Obs) (x : Nat × Ob) (s : SV) : Prop :=
  ∀ φ, Told U φ → (new = true → FreeF x.1 φ) → StepE P nt ops o φ ob (fun φ' ob'' => φ' = (match o.dst with | some d => putF φ d s | none => φ) ∧ ob'' = x :: ob)
def Ob1 (P : Program) (nt : Nat) (l : List Oper) (sv : List SV) (xe : Xe) (fr : Fr) (ob : Obs) (i : Nat) (D : List Nat) : Prop :=
  ∃ o, l[i]? = some o ∧ ((turns o.op = false ∧ Neu P o (keepF (allFr l sv fr) (usesC o.op)) (obD xe ob D) (fun s => s = svAt sv i)) ∨
    ∃ new x, xAt xe i = some (new, x) ∧ EffQ P nt l.toArray o (keepF (allFr l sv fr) (usesC o.op)) new (obD xe ob D) x (svAt sv i))
def Ob1s (P : Program) (nt : Nat) (l : List Oper) (sv : List SV) (xe : Xe) (fr : Fr) (ob : Obs) : List (Nat × List Nat) → Prop
  | [] => True
  | (i, D) :: r => Ob1 P nt l sv xe fr ob i D ∧ Ob1s P nt l sv xe fr ob r
theorem Ob1s.get {l : List Oper} {sv : List SV} {xe : Xe} {fr : Fr} {ob : Obs} : ∀ {r : List (Nat × List Nat)}, Ob1s P nt l sv xe fr ob r → ∀ p ∈ r, Ob1 P nt l sv xe fr ob p.1 p.2
  | [], _, p, hp => by simp at hp
  | (i, D) :: r, h, p, hp => by
    rcases List.mem_cons.1 hp with rfl | hp
    · exact h.1
    · exact Ob1s.get h.2 p hp
theorem filter_ins {e : Nat} {listed : Array Bool} (hsz : e < listed.size) (hun : listed.getD e false = false) : ∀ {E : List Nat}, desc E = true → e ∈ E → E.filter (fun j => (listed.setIfInBounds e true).getD j false) = insD e (E.filter fun j => listed.getD j false)
  | [], _, he => by simp at he
  | d :: E, hd, he => by
    simp only [desc, Bool.and_eq_true] at hd
    have hlt : ∀ b ∈ E, b < d := fun b hb => by simpa using List.all_eq_true.1 hd.1 b hb
    have hsame : (listed.setIfInBounds e true).getD e false = true := by simp [hsz]
    have hoth : ∀ j, j ≠ e → (listed.setIfInBounds e true).getD j false = listed.getD j false := fun j hj => getB_set_ne (Ne.symm hj)
    by_cases hde : d = e
    · subst hde
      rw [List.filter_cons_of_pos (by exact hsame), List.filter_cons_of_neg (by rw [hun]; simp)]
      have : E.filter (fun j => (listed.setIfInBounds d true).getD j false) = E.filter fun j => listed.getD j false := by
        apply List.filter_congr
        intro j hj
        exact hoth j (by have := hlt j hj; omega)
      rw [this]
      cases hE : E.filter fun j => listed.getD j false with
      | nil => rfl
      | cons a r =>
        have ha : a ∈ E := (List.mem_filter.1 (by rw [hE]; exact List.mem_cons_self ..)).1
        have hba : Nat.blt a d = true := by simpa using hlt a ha
        unfold insD; rw [hba]; rfl
    · have heE : e ∈ E := (List.mem_cons.1 he).resolve_left (fun q => hde q.symm)
      have ih := filter_ins hsz hun hd.2 heE
      have hed : Nat.blt d e = false := by
        have := hlt e heE
        cases hb : Nat.blt d e
        · rfl
        · rw [Nat.blt_eq] at hb; omega
      by_cases hl : listed.getD d false = true
      · rw [List.filter_cons_of_pos (by rw [hoth d hde]; exact hl), List.filter_cons_of_pos (by exact hl), ih]
        show _ = insD e (d :: _)
        conv => rhs; unfold insD
        rw [hed]; rfl
      · rw [List.filter_cons_of_neg (by rw [hoth d hde]; exact hl), List.filter_cons_of_neg (by exact hl), ih]
theorem dstL_get : ∀ {l : List Oper} {j : Nat} {o : Oper} {d : Nat}, l[j]? = some o → o.dst = some d → d ∈ dstL l
  | [], j, o, d, h, _ => by simp at h
  | o' :: l, 0, o, d, h, hd => by
    simp at h; subst h
    unfold dstL; rw [hd]; exact List.mem_cons_self ..
  | o' :: l, j + 1, o, d, h, hd => by
    have := dstL_get (l := l) (j := j) (by simpa using h) hd
    unfold dstL
    split
    · exact List.mem_cons_of_mem _ this
    · exact this
theorem dst_unique : ∀ {l : List Oper} {i j : Nat} {o o' : Oper} {d : Nat}, nodupB (dstL l) = true → l[i]? = some o → l[j]? = some o' → o.dst = some d → o'.dst = some d → i = j
  | [], i, j, o, o', d, _, h, _, _, _ => by simp at h
  | q :: l, 0, 0, _, _, _, _, _, _, _, _ => rfl
  | q :: l, 0, j + 1, o, o', d, hn, h1, h2, h3, h4 => by
    simp at h1; subst h1
    have hm := dstL_get (l := l) (j := j) (by simpa using h2) h4
    unfold dstL at hn; rw [h3] at hn
    simp only [nodupB, Bool.and_eq_true, Bool.not_eq_true'] at hn
    rw [hasN_iff.2 hm] at hn; exact absurd hn.1 (by simp)
  | q :: l, i + 1, 0, o, o', d, hn, h1, h2, h3, h4 => by
    simp at h2; subst h2
    have hm := dstL_get (l := l) (j := i) (by simpa using h1) h3
    unfold dstL at hn; rw [h4] at hn
    simp only [nodupB, Bool.and_eq_true, Bool.not_eq_true'] at hn
    rw [hasN_iff.2 hm] at hn; exact absurd hn.1 (by simp)
  | q :: l, i + 1, j + 1, o, o', d, hn, h1, h2, h3, h4 => by
    have : nodupB (dstL l) = true := by
      unfold dstL at hn
      split at hn
      · simp only [nodupB, Bool.and_eq_true] at hn; exact hn.2
      · exact hn
    exact congrArg (· + 1) (dst_unique this (by simpa using h1) (by simpa using h2) h3 h4)
structure InvC (l : List Oper) (sv : List SV) (fr : Fr) (listed : Array Bool) (φ : Fa) : Prop where
  put : ∀ j o d, l[j]? = some o → listed.getD j false = true → o.dst = some d → φ d = some (svAt sv j)
  from' : ∀ t s, φ t = some s → (∃ j o, l[j]? = some o ∧ listed.getD j false = true ∧ o.dst = some t ∧ s = svAt sv j) ∨ getF fr t = some s
  old : ∀ t s, getF fr t = some s → t ∉ dstL l → φ t = some s
def unl (listed : Array Bool) (n : Nat) : Nat := (List.range n).countP fun i => !(listed.getD i false)
theorem unl_set {listed : Array Bool} {i : Nat} (hs : i < listed.size) (hu : listed.getD i false = false) : ∀ {n : Nat}, i < n → unl (listed.setIfInBounds i true) n + 1 = unl listed n
  | 0, h => by omega
  | n + 1, h => by
    unfold unl
    rw [List.range_succ, List.countP_append, List.countP_append]
    have h1 : ∀ j, j ≠ i → (listed.setIfInBounds i true).getD j false = listed.getD j false := fun j hj => getB_set_ne (Ne.symm hj)
    by_cases hin : i < n
    · have ih := unl_set hs hu hin
      unfold unl at ih
      have e : List.countP (fun i_1 => !(listed.setIfInBounds i true).getD i_1 false) [n] = List.countP (fun i => !listed.getD i false) [n] := by
        simp only [List.countP_cons, List.countP_nil, h1 n (by omega)]
      rw [e]; omega
    · obtain rfl : i = n := by omega
      have e : List.countP (fun i_1 => !(listed.setIfInBounds i true).getD i_1 false) (List.range i) = List.countP (fun i => !listed.getD i false) (List.range i) := by
        apply List.countP_congr
        intro j hj
        rw [h1 j (by have := List.mem_range.1 hj; omega)]
      rw [e]
      have e2 : (listed.setIfInBounds i true).getD i false = true := by simp [hs]
      simp only [List.countP_cons, List.countP_nil, e2, hu]
      simp
end
end Go.AL
namespace Go.AL
open Go Go.RowKit
set_option linter.unusedVariables false
section
variable {P : Program} {dst : Option Tmp} {ty : TypeId} {pos : String} {af : Array Edge} {gd : Option (Nat × Bool)} {fr : Fr} {ob : Obs}
section
variable {nt : Nat} {ops : Array Oper} {rest : List Oper} {Q : Post} {d : Nat}
end
class TyMap (P : Program) (t : TypeId) (kt : outParam TypeId) (kd : outParam TypeDesc) (z : outParam Value) : Prop where
  out : ∃ et, P.underlying t = some (.map kt et) ∧ P.underlying kt = some kd ∧ (P.info? et).bind (·.zero) = some z ∧ z.oneCell' = true
end
end Go.AL
namespace Go.AL
open Go Go.RowKit
set_option linter.unusedVariables false
section
variable {P : Program} {dst : Option Tmp} {ty : TypeId} {pos : String} {af : Array Edge} {gd : Option (Nat × Bool)} {fr : Fr} {ob : Obs}
end
end Go.AL
namespace Go.AL
open Go Go.RowKit
set_option linter.unusedVariables false
abbrev Mo := List (List Nat × Obs)
def lookM : Mo → List Nat → Option Obs
  | [], _ => none
  | (D', ob) :: r, D => cond (sameL D' D) (some ob) (lookM r D)
abbrev Sv := List (Nat × SV)
def lookV : Sv → Nat → Option SV
  | [], _ => none
  | (i, s) :: r, j => cond (Nat.beq i j) (some s) (lookV r j)
abbrev Ed := List (Nat × (List Nat × List Nat))
def edAt : Ed → Nat → List Nat × List Nat
  | [], _ => ([], [])
  | (i, x) :: r, e => cond (Nat.beq i e) x (edAt r e)
def dropK (ks : List Nat) (fr : Fr) : Fr := fr.filter fun p => !(hasN ks p.1)
theorem getF_dropK {ks : List Nat} : ∀ {fr : Fr} {t : Nat} {s : SV}, getF (dropK ks fr) t = some s ↔ t ∉ ks ∧ getF fr t = some s
  | [], t, s => by simp [dropK, getF]
  | (i, x) :: r, t, s => by
    have ih := getF_dropK (ks := ks) (fr := r) (t := t) (s := s)
    unfold dropK at ih ⊢
    cases hh : hasN ks i
    · rw [List.filter_cons_of_pos (by simp [hh])]
      by_cases he : i = t
      · subst he
        rw [getF_cons_same, getF_cons_same]
        have : i ∉ ks := fun q => by rw [hasN_iff.2 q] at hh; cases hh
        simp [this]
      · rw [getF_cons_other he, getF_cons_other he]; exact ih
    · rw [List.filter_cons_of_neg (by simp [hh])]
      rw [ih]
      by_cases he : i = t
      · subst he
        have : i ∈ ks := hasN_iff.1 hh
        simp [this]
      · rw [getF_cons_other he]
def FrExt (U frc : Fr) : Prop := ∀ t s, getF U t = some s → getF frc t = some s
def EffR (P : Program) (nt : Nat) (o : Oper) (U : Fr) (ks kills : List Nat) (ob ob' : Obs) (s : SV) : Prop :=
  ∀ frc, FrExt U frc → (∀ k ∈ ks, ∀ t x, getF frc t = some x → t ∉ kills → x.free k = true) → ∀ S G a w, S.nt = nt → Sim P S frc ob G a w →
    Does P o a w (fun v w' => ∃ G', Sim P S (dropK kills frc) ob' G' a w' ∧ ∀ d, o.dst = some d → s.rep (rdOf (Mut S ob' G') w') G' v)
def frOf (l : List Oper) : Sv → Fr → Fr
  | [], fr => fr
  | (i, s) :: r, fr => match (l[i]?).bind (·.dst) with
    | some d => (d, s) :: frOf l r fr
    | none => frOf l r fr
def usesDone (l : List Oper) (svs : Sv) (o : Oper) : Bool :=
  (usesC o.op).all fun u => (List.range l.length).all fun j => match (l[j]?).bind (·.dst) with
    | some d => !(Nat.beq d u) || (lookV svs j).isSome
    | none => true
def UIn2 (l : List Oper) (svs : Sv) (fr : Fr) (o : Oper) (U : Fr) : Prop :=
  ∀ t s, getF U t = some s → t ∈ usesC o.op ∧ ((∃ j o', l[j]? = some o' ∧ o'.dst = some t ∧ lookV svs j = some s) ∨ (t ∉ dstL l ∧ getF fr t = some s))
def obIn2 (obT ob : Obs) : Prop := ∀ k o, getO obT k = some o → getO ob k = some o
section
variable {P : Program} {nt : Nat}
theorem frOf_get {l : List Oper} {fr : Fr} : ∀ {svs : Sv} {t : Nat} {s : SV}, getF (frOf l svs fr) t = some s → (∃ j o, lookV svs j = some s ∧ l[j]? = some o ∧ o.dst = some t) ∨ (getF fr t = some s ∧ ∀ j o, lookV svs j ≠ none → l[j]? = some o → o.dst ≠ some t)
  | [], t, s, h => .inr ⟨h, fun j o hj => absurd rfl hj⟩
  | (i, x) :: r, t, s, h => by
    unfold frOf at h
    have hlift : (∀ d, (l[i]?).bind (·.dst) = some d → d ≠ t) → getF (frOf l r fr) t = some s → (∃ j o, lookV ((i, x) :: r) j = some s ∧ l[j]? = some o ∧ o.dst = some t) ∨ (getF fr t = some s ∧ ∀ j o, lookV ((i, x) :: r) j ≠ none → l[j]? = some o → o.dst ≠ some t) := by
      intro hd h
      rcases frOf_get h with ⟨j, o, h1, h2, h3⟩ | ⟨h1, h2⟩
      · left
        refine ⟨j, o, ?_, h2, h3⟩
        have hij : i ≠ j := fun e => by
          subst e
          rw [h2] at hd
          exact hd t (by simpa using h3) rfl
        show cond (Nat.beq i j) _ _ = _
        rw [beq_no hij]; exact h1
      · right
        refine ⟨h1, fun j o hj ho hdo => ?_⟩
        by_cases hij : i = j
        · subst hij
          rw [ho] at hd
          exact hd t (by simpa using hdo) rfl
        · have hj : cond (Nat.beq i j) (some x) (lookV r j) ≠ none := hj
          rw [beq_no hij] at hj
          exact h2 j o hj ho hdo
    split at h
    · rename_i d hd
      by_cases hdt : d = t
      · subst hdt
        rw [getF_cons_same] at h
        cases h
        cases ho : l[i]? with
        | none => rw [ho] at hd; cases hd
        | some o =>
          rw [ho] at hd
          exact .inl ⟨i, o, by show cond (Nat.beq i i) _ _ = _; rw [Nat.beq_refl]; rfl, ho, by simpa using hd⟩
      · rw [getF_cons_other hdt] at h
        exact hlift (fun d' hd' => by rw [hd] at hd'; cases hd'; exact hdt) h
    · rename_i hd
      exact hlift (fun d' hd' => by rw [hd] at hd'; cases hd') h
theorem dstL_mem : ∀ {l : List Oper} {t : Nat}, t ∈ dstL l → ∃ (j : Nat) (o : Oper), l[j]? = some o ∧ o.dst = some t
  | [], t, h => by simp [dstL] at h
  | o :: l, t, h => by
    unfold dstL at h
    cases hd : o.dst with
    | none => rw [hd] at h; obtain ⟨j, o', h1, h2⟩ := dstL_mem h; exact ⟨j + 1, o', by simpa using h1, h2⟩
    | some d =>
      rw [hd] at h
      rcases List.mem_cons.1 h with rfl | h
      · exact ⟨0, o, rfl, hd⟩
      · obtain ⟨j, o', h1, h2⟩ := dstL_mem h; exact ⟨j + 1, o', by simpa using h1, h2⟩
theorem uIn2_of {l : List Oper} {svs : Sv} {fr : Fr} {o : Oper} (h : usesDone l svs o = true) : UIn2 l svs fr o (keepF (frOf l svs fr) (usesC o.op)) := by
  intro t s ht
  have hus := keepF_mem ht
  refine ⟨hus, ?_⟩
  rcases frOf_get (getF_keepF ht) with ⟨j, o', h1, h2, h3⟩ | ⟨h1, h2⟩
  · exact .inl ⟨j, o', h2, h3, h1⟩
  · refine .inr ⟨fun hin => ?_, h1⟩
    obtain ⟨j, o', h3, h4⟩ := dstL_mem hin
    have := List.all_eq_true.1 (List.all_eq_true.1 h t hus) j (List.mem_range.2 (List.getElem?_eq_some_iff.1 h3).1)
    rw [h3] at this
    simp only [Option.bind_some, h4, Nat.beq_refl, Bool.not_true, Bool.false_or] at this
    exact h2 j o' (fun e => by rw [e] at this; cases this) h3 h4
def Task (P : Program) (nt : Nat) (l : List Oper) (fr : Fr) (svs : Sv) (E : List Nat) (ed : Ed) (i : Nat) (ob : Obs) (s : SV) (T : Obs → Prop) : Prop :=
  ∃ o U, l[i]? = some o ∧ UIn2 l svs fr o U ∧ ((hasN E i = false ∧ Neu P o U ob (fun s' => s' = s)) ∨ (hasN E i = true ∧ ∃ ob', EffR P nt o U (edAt ed i).1 (edAt ed i).2 ob ob' s ∧ T ob'))
def conf2 (nt : Nat) (l : List Oper) (E : List Nat) (Ms : List (List Nat)) (ed : Ed) (tasks : List (Nat × List Nat)) : Bool :=
  let ops := l.toArray
  let n := l.length
  (l.all fun o => o.guard.isNone && match o.dst with | some d => Nat.blt d nt | none => true) &&
  ((List.range n).all fun i => match ops[i]? with
    | some o => (hasN E i || o.dst.isSome) && (((usesC o.op).all fun u => ((List.range n).all fun j => match ops[j]? with
        | some oj => (match oj.dst with | some d => !(Nat.beq d u) || Bef ops i j | none => true)
        | none => true) && E.all fun e => Nat.beq e i || !(hasN (edAt ed e).2 u) || Bef ops e i) &&
      ((o.after.toList.all fun e => !(Region.binds .any e) || Nat.blt e.on i) && (Ms.all fun D => !(possD ops E i D) || tasks.any fun p => Nat.beq p.1 i && sameL p.2 D)))
    | none => false) &&
  nodupB (dstL l) && desc E && (E.all fun e => Nat.blt e n) && memM Ms [] && (Ms.all fun D => E.all fun e => !(possD ops E e D) || memM Ms (insD e D))
structure InvK (l : List Oper) (E : List Nat) (svs : Sv) (ed : Ed) (fr : Fr) (listed : Array Bool) (frc : Fr) : Prop where
  put : ∀ j o d s, l[j]? = some o → listed.getD j false = true → o.dst = some d → lookV svs j = some s → (∀ e ∈ E, listed.getD e false = true → d ∉ (edAt ed e).2) → getF frc d = some s
  from' : ∀ t s, getF frc t = some s → (∃ j o, l[j]? = some o ∧ listed.getD j false = true ∧ o.dst = some t ∧ lookV svs j = some s) ∨ getF fr t = some s
  old : ∀ t s, getF fr t = some s → t ∉ dstL l → (∀ e ∈ E, listed.getD e false = true → t ∉ (edAt ed e).2) → getF frc t = some s
def free2 (l : List Oper) (ops : Array Oper) (svs : Sv) (fr : Fr) : Ed → Bool
  | [] => true
  | (e, ks, kills) :: r => (ks.all fun k => ((List.range ops.size).all fun j => Nat.beq j e || Bef ops j e || match (l[j]?).bind (·.dst), lookV svs j with
      | some d, some s => hasN kills d || s.free k
      | _, _ => true) && fr.all fun p => hasN kills p.1 || p.2.free k) && free2 l ops svs fr r
theorem c_core {id : Nat} {l : List Oper} {fr : Fr} {ob0 : Obs} {Q : Post} (E : List Nat) (Ms : List (List Nat)) (ed : Ed) (tasks : List (Nat × List Nat)) (svs : Sv) (M : Mo) (hm : P.follows .mixedOrders = true)
    (hB : conf2 nt l E Ms ed tasks = true) (hed : ∀ e ∈ E, ∃ x, (e, x) ∈ ed ∧ edAt ed e = x) (hfree : free2 l l.toArray svs fr ed = true) (h0 : lookM M [] = some ob0)
    (ht : ∀ p ∈ tasks, ∃ ob s, lookM M p.2 = some ob ∧ lookV svs p.1 = some s ∧ Task P nt l fr svs E ed p.1 ob s (fun ob' => ∃ obT, lookM M (insD p.1 p.2) = some obT ∧ obIn2 obT ob'))
    {fr' : Fr} {obE : Obs} (hobE : lookM M E = some obE) (hfr' : ∀ t s, getF fr' t = some s → (∀ e ∈ E, t ∉ (edAt ed e).2) ∧ ((∃ j o', l[j]? = some o' ∧ o'.dst = some t ∧ lookV svs j = some s) ∨ (t ∉ dstL l ∧ getF fr t = some s)))
    (hQ : Q .normal fr' obE) : WpC P nt (.region id l.toArray true) fr ob0 Q := by
  intro S G a w hn hs
  unfold conf2 at hB
  simp only [Bool.and_eq_true] at hB
  obtain ⟨⟨⟨⟨⟨⟨b1, b2⟩, b3⟩, b4⟩, b5⟩, b6⟩, b7⟩ := hB
  have hop : ∀ i o, l[i]? = some o → o.guard = none ∧ (∀ d, o.dst = some d → d < nt) ∧ (hasN E i = true ∨ ∃ d, o.dst = some d) ∧ (∀ u ∈ usesC o.op, ∀ j oj, l[j]? = some oj → oj.dst = some u → Bef l.toArray i j = true) ∧
      (∀ u ∈ usesC o.op, ∀ e ∈ E, e ≠ i → u ∈ (edAt ed e).2 → Bef l.toArray e i = true) ∧ (∀ e ∈ o.after.toList, Region.binds .any e = true → e.on < i) ∧ (∀ D ∈ Ms, possD l.toArray E i D = true → (i, D) ∈ tasks) := by
    intro i o ho
    have hlt : i < l.length := (List.getElem?_eq_some_iff.1 ho).1
    have hmem : o ∈ l := List.mem_of_getElem? ho
    have q1 := List.all_eq_true.1 b1 o hmem
    have q2 := List.all_eq_true.1 b2 i (List.mem_range.2 hlt)
    simp only [List.getElem?_toArray, ho] at q2
    simp only [Bool.and_eq_true] at q1 q2
    obtain ⟨q4, q5, q6, q7⟩ := q2
    refine ⟨by simpa using q1.1, ?_, ?_, ?_, ?_, ?_, ?_⟩
    · intro d hd
      have := q1.2
      rw [hd] at this
      simpa using this
    · rcases (Bool.or_eq_true _ _).mp q4 with h | h
      · exact .inl h
      · exact .inr (Option.isSome_iff_exists.1 h)
    · intro u hu j oj hj hd
      have hjlt : j < l.length := (List.getElem?_eq_some_iff.1 hj).1
      have h5 := List.all_eq_true.1 q5 u hu
      simp only [Bool.and_eq_true] at h5
      have := List.all_eq_true.1 h5.1 j (List.mem_range.2 hjlt)
      simp only [hj, hd] at this
      simpa using this
    · intro u hu e he hei hk
      have h5 := List.all_eq_true.1 q5 u hu
      simp only [Bool.and_eq_true] at h5
      have := List.all_eq_true.1 h5.2 e he
      rw [beq_no hei, hasN_iff.2 hk] at this
      simpa using this
    · intro e he hbe
      have := List.all_eq_true.1 q6 e he
      rw [hbe] at this
      simpa using this
    · intro D hD hp
      have := List.all_eq_true.1 q7 D hD
      rw [hp] at this
      simp only [Bool.not_true, Bool.false_or] at this
      obtain ⟨p, hp1, hp2⟩ := List.any_eq_true.1 this
      simp only [Bool.and_eq_true] at hp2
      have e1 := Nat.eq_of_beq_eq_true hp2.1
      have e2 := sameL_eq hp2.2
      obtain ⟨p1, p2⟩ := p
      simp only at e1 e2
      rw [← e1, ← e2]; exact hp1
  have hdst : ∀ (j t : Nat), (l.toArray[j]?).bind (fun o => o.dst) = some t → t < nt := by
    intro j t ht
    cases ho : l[j]? with
    | none => simp [ho] at ht
    | some o => simp [ho] at ht; exact (hop j o ho).2.1 t ht
  refine wp_region_any hm ?_
  have hxw : Below w.heap.size w { w with drawn := w.drawn + 1 } := ⟨rfl, rfl, rfl, Nat.le_refl _, fun _ _ => rfl⟩
  have key : ∀ (fuel : Nat) (listed : Array Bool) (frc : Fr) (ob : Obs) (G : Gh) (a : Act) (w : World), listed.size = l.length → unl listed l.length = fuel → Closed l.toArray listed → (E.filter fun j => listed.getD j false) ∈ Ms → lookM M (E.filter fun j => listed.getD j false) = some ob → InvK l E svs ed fr listed frc → Sim P S frc ob G a w →
      wpAny P .any l.toArray (PostOf P S Q) fuel listed a w := by
    intro fuel
    induction fuel with
    | zero =>
      intro listed frc ob G a w hsz hu hc hM hob hI hsf
      have hall : ∀ j, j < l.length → listed.getD j false = true := by
        intro j hj
        unfold unl at hu
        have := (List.countP_eq_zero.1 hu) j (List.mem_range.2 hj)
        simpa using this
      have hready : Region.ready .any l.toArray listed = [] := by
        cases hr : Region.ready .any l.toArray listed with
        | nil => rfl
        | cons i r =>
          exfalso
          have hi : i ∈ Region.ready .any l.toArray listed := by rw [hr]; exact List.mem_cons_self ..
          have h3 := ready_unlisted hi
          obtain ⟨_, o, ho, _⟩ := mem_ready.1 hi
          rw [List.getElem?_toArray] at ho
          rw [hall i (List.getElem?_eq_some_iff.1 ho).1] at h3; cases h3
      refine ⟨hready, ?_⟩
      have hEl : (E.filter fun j => listed.getD j false) = E := by
        rw [List.filter_eq_self]
        intro e he
        exact hall e (by simpa using List.all_eq_true.1 b5 e he)
      rw [hEl, hobE] at hob
      cases hob
      refine ⟨fr', obE, G, hQ, hsf.weaken fun t s ht => ?_⟩
      obtain ⟨hk, h3⟩ := hfr' t s ht
      rcases h3 with ⟨j, o, h3, h4, h5⟩ | ⟨h3, h4⟩
      · exact hI.put j o t s h3 (hall j (List.getElem?_eq_some_iff.1 h3).1) h4 h5 (fun e he _ => hk e he)
      · exact hI.old t s h4 h3 (fun e he _ => hk e he)
    | succ fuel ih =>
      intro listed frc ob G a w hsz hu hc hM hob hI hsf
      refine ⟨fun h0 => ?_, fun i hi => ?_⟩
      · exfalso
        have hex : ∃ j, j < l.length ∧ listed.getD j false = false := by
          refine Classical.byContradiction fun hno => ?_
          have : unl listed l.length = 0 := by
            unfold unl
            refine List.countP_eq_zero.2 fun j hj => ?_
            have hj := List.mem_range.1 hj
            cases hb : listed.getD j false
            · exact absurd ⟨j, hj, hb⟩ hno
            · simp
          omega
        have hmin : ∀ n, (∃ j, j < n ∧ j < l.length ∧ listed.getD j false = false) → ∃ j, j < l.length ∧ listed.getD j false = false ∧ ∀ p, p < j → listed.getD p false = true := by
          intro n
          induction n with
          | zero => rintro ⟨j, hj, _⟩; omega
          | succ n ihn =>
            rintro ⟨j, hj, hjl, hjf⟩
            by_cases hlow : ∃ j', j' < n ∧ j' < l.length ∧ listed.getD j' false = false
            · exact ihn hlow
            · refine ⟨j, hjl, hjf, fun p hp => ?_⟩
              cases hb : listed.getD p false
              · exact absurd ⟨p, by omega, by omega, hb⟩ hlow
              · rfl
        obtain ⟨j, hj1, hj2⟩ := hex
        obtain ⟨j, hjl, hjf, hjp⟩ := hmin (j + 1) ⟨j, by omega, hj1, hj2⟩
        have ho : l[j]? = some l[j] := List.getElem?_eq_getElem hjl
        have hjr : j ∈ Region.ready .any l.toArray listed := by
          refine mem_ready.2 ⟨?_, l[j], by rw [List.getElem?_toArray]; exact ho, fun e he hb => ?_⟩
          · have hsz2 : j < listed.size := by omega
            simp only [Array.getD_eq_getD_getElem?, Array.getElem?_eq_getElem hsz2] at hjf ⊢
            simpa using hjf
          · have := (hop j _ ho).2.2.2.2.2.1 e (Array.mem_toList_iff.2 he) hb
            exact hjp _ this
        rw [h0] at hjr; cases hjr
      · have hiu := ready_unlisted hi
        obtain ⟨_, o, ho, hall⟩ := mem_ready.1 hi
        rw [List.getElem?_toArray] at ho
        have hlt : i < l.length := (List.getElem?_eq_some_iff.1 ho).1
        obtain ⟨g1, g2, g4, g5, g6, g7, g8⟩ := hop i o ho
        obtain ⟨D, hD⟩ : ∃ D, D = E.filter fun j => listed.getD j false := ⟨_, rfl⟩
        rw [← hD] at hM hob
        have hDl : ∀ e, e ∈ D ↔ e ∈ E ∧ listed.getD e false = true := fun e => by rw [hD, List.mem_filter]
        have hbi : ∀ j, Bef l.toArray i j = true → listed.getD j false = true := fun j hj => bef_listed hc i hj (fun o' ho' e he hb => by
          rw [List.getElem?_toArray, ho] at ho'; cases ho'
          exact hall e (Array.mem_toList_iff.1 he) hb)
        have hlb : ∀ j, listed.getD j false = true → Bef l.toArray j i = true → False := fun j hj hb => by
          have : listed.getD i false = true := bef_listed hc j hb (fun o' ho' e he hbd => hc j o' ho' hj e he hbd)
          rw [hiu] at this; cases this
        have hpo : possD l.toArray E i D = true := by
          unfold possD
          simp only [Bool.and_eq_true, Bool.not_eq_true', List.all_eq_true, Bool.or_eq_true]
          refine ⟨?_, fun j hj => ?_, fun j hj => ?_⟩
          · cases hb : hasN D i
            · rfl
            · have := ((hDl i).1 (hasN_iff.1 hb)).2
              rw [hiu] at this; cases this
          · cases hb : Bef l.toArray i j
            · exact .inl rfl
            · exact .inr (hasN_iff.2 ((hDl j).2 ⟨hj, hbi j hb⟩))
          · cases hb : Bef l.toArray j i
            · rfl
            · exact (hlb j ((hDl j).1 hj).2 hb).elim
        obtain ⟨ob1, s, hob1, hsv, o1, U, ho1, hU, htask⟩ := ht (i, D) (g8 D hM hpo)
        rw [hob] at hob1; cases hob1
        rw [ho] at ho1; cases ho1
        have hext : FrExt U frc := by
          intro t x hx
          obtain ⟨hus, h3⟩ := hU t x hx
          have hnk : ∀ e ∈ E, listed.getD e false = true → t ∉ (edAt ed e).2 := fun e he hel hk => by
            by_cases hei : e = i
            · rw [hei, hiu] at hel; cases hel
            · exact hlb e hel (g6 t hus e he hei hk)
          rcases h3 with ⟨j, oj, h3, h4, h5⟩ | ⟨h3, h4⟩
          · exact hI.put j oj t x h3 (hbi j (g5 t hus j oj h3 h4)) h4 h5 hnk
          · exact hI.old t x h4 h3 hnk
        have hcl2 := closed_set hc hi
        have hsz2 : (listed.setIfInBounds i true).size = l.length := by simpa using hsz
        have hul : unl (listed.setIfInBounds i true) l.length = fuel := by
          have := unl_set (by omega) hiu hlt
          omega
        have hset : ∀ j, (listed.setIfInBounds i true).getD j false = true ↔ j = i ∨ listed.getD j false = true := by
          intro j
          by_cases hj : j = i
          · subst hj
            simp only [true_or, iff_true]
            simp [show j < listed.size by omega]
          · rw [getB_set_ne (Ne.symm hj)]
            simp [hj]
        have hinv : ∀ kills, (i ∈ E → kills = (edAt ed i).2) → (i ∉ E → kills = []) → InvK l E svs ed fr (listed.setIfInBounds i true) (match o.dst with | some d => (d, s) :: dropK kills frc | none => dropK kills frc) := by
          intro kills hk1 hk2
          have hk : ∀ t, (∀ e ∈ E, (listed.setIfInBounds i true).getD e false = true → t ∉ (edAt ed e).2) → t ∉ kills := by
            intro t h
            by_cases hiE : i ∈ E
            · rw [hk1 hiE]; exact h i hiE ((hset i).2 (.inl rfl))
            · rw [hk2 hiE]; simp
          have hmono : ∀ t, (∀ e ∈ E, (listed.setIfInBounds i true).getD e false = true → t ∉ (edAt ed e).2) → ∀ e ∈ E, listed.getD e false = true → t ∉ (edAt ed e).2 := fun t h e he hel => h e he ((hset e).2 (.inr hel))
          cases hdo : o.dst with
          | none =>
            refine ⟨fun j oj d x h3 h4 h5 h6 h7 => ?_, fun t x h3 => ?_, fun t x h3 h4 h5 => ?_⟩
            · rcases (hset j).1 h4 with rfl | h4
              · rw [ho] at h3; cases h3; rw [hdo] at h5; cases h5
              · exact getF_dropK.2 ⟨hk d h7, hI.put j oj d x h3 h4 h5 h6 (hmono d h7)⟩
            · rcases hI.from' t x (getF_dropK.1 h3).2 with ⟨j, oj, h4, h5, h6⟩ | h4
              · exact .inl ⟨j, oj, h4, (hset j).2 (.inr h5), h6⟩
              · exact .inr h4
            · exact getF_dropK.2 ⟨hk t h5, hI.old t x h3 h4 (hmono t h5)⟩
          | some d0 =>
            refine ⟨fun j oj d x h3 h4 h5 h6 h7 => ?_, fun t x h3 => ?_, fun t x h3 h4 h5 => ?_⟩
            · show getF ((d0, s) :: dropK kills frc) d = some x
              by_cases hij : j = i
              · subst hij
                rw [ho] at h3; cases h3
                rw [hdo] at h5; cases h5
                rw [getF_cons_same]
                rw [hsv] at h6; exact h6
              · have h4 := ((hset j).1 h4).resolve_left hij
                have hdd : d0 ≠ d := fun q => by
                  subst q
                  exact hij (dst_unique b3 h3 ho h5 hdo)
                rw [getF_cons_other hdd]
                exact getF_dropK.2 ⟨hk d h7, hI.put j oj d x h3 h4 h5 h6 (hmono d h7)⟩
            · have h3 : getF ((d0, s) :: dropK kills frc) t = some x := h3
              by_cases hdd : d0 = t
              · subst hdd
                rw [getF_cons_same] at h3; cases h3
                exact .inl ⟨i, o, ho, (hset i).2 (.inl rfl), hdo, hsv⟩
              · rw [getF_cons_other hdd] at h3
                rcases hI.from' t x (getF_dropK.1 h3).2 with ⟨j, oj, h4, h5, h6⟩ | h4
                · exact .inl ⟨j, oj, h4, (hset j).2 (.inr h5), h6⟩
                · exact .inr h4
            · show getF ((d0, s) :: dropK kills frc) t = some x
              have hdd : d0 ≠ t := fun q => h4 (by rw [← q]; exact dstL_get ho hdo)
              rw [getF_cons_other hdd]
              exact getF_dropK.2 ⟨hk t h5, hI.old t x h3 h4 (hmono t h5)⟩
        unfold wpOp
        simp only [List.getElem?_toArray, ho]
        rw [if_pos (by simp [Region.wanted, g1])]
        rcases htask with ⟨htn, hneu⟩ | ⟨htn, ob', heff, obT, hobT, hle⟩
        · have hnE : i ∉ E := fun q => by rw [hasN_iff.2 q] at htn; cases htn
          refine .inl (wp_of_does (hneu S G a w (hsf.weaken fun t x hx => hext t x hx)) ?_)
          rintro v w' ⟨hxw2, s', rfl, hv⟩
          have hDe : (E.filter fun j => (listed.setIfInBounds i true).getD j false) = D := by
            rw [hD]
            apply List.filter_congr
            intro j hj
            have : j ≠ i := fun q => hnE (q ▸ hj)
            exact getB_set_ne (Ne.symm this)
          obtain ⟨d0, hd0⟩ := g4.resolve_left (by rw [htn]; simp)
          have hi2 := hinv [] (fun q => absurd q hnE) (fun _ => rfl)
          rw [hd0] at hi2 ⊢
          have hi2 : InvK l E svs ed fr (listed.setIfInBounds i true) ((d0, s') :: dropK [] frc) := hi2
          have hdk : dropK [] frc = frc := by unfold dropK; exact List.filter_eq_self.2 fun p _ => rfl
          rw [hdk] at hi2
          exact ih (listed.setIfInBounds i true) ((d0, s') :: frc) ob G _ w' hsz2 hul hcl2 (by rw [hDe]; exact hM) (by rw [hDe]; exact hob) hi2 ((hsf.ext hxw2).put (by rw [hn]; exact g2 d0 hd0) hv)
        · have hiE : i ∈ E := hasN_iff.1 htn
          have hDe : (E.filter fun j => (listed.setIfInBounds i true).getD j false) = insD i D := by
            rw [hD]; exact filter_ins (by omega) hiu b4 hiE
          have hM2 : insD i D ∈ Ms := by
            have := List.all_eq_true.1 (List.all_eq_true.1 b7 D hM) i hiE
            rw [hpo] at this
            exact memM_mem (by simpa using this)
          have hfr2 : ∀ k ∈ (edAt ed i).1, ∀ t x, getF frc t = some x → t ∉ (edAt ed i).2 → x.free k = true := by
            obtain ⟨x0, hx0, hx1⟩ := hed i hiE
            rw [hx1]
            have hf : ∀ (xs : Ed), free2 l l.toArray svs fr xs = true → (i, x0) ∈ xs → ∀ k ∈ x0.1, ((List.range l.toArray.size).all fun j => Nat.beq j i || Bef l.toArray j i || match (l[j]?).bind (·.dst), lookV svs j with
                | some d, some s => hasN x0.2 d || s.free k
                | _, _ => true) = true ∧ (fr.all fun p => hasN x0.2 p.1 || p.2.free k) = true := by
              intro xs
              induction xs with
              | nil => intro _ h; simp at h
              | cons y r ihx =>
                obtain ⟨e', ks', kl'⟩ := y
                intro hok hmem
                simp only [free2, Bool.and_eq_true] at hok
                rcases List.mem_cons.1 hmem with q | q
                · cases q
                  intro k hk
                  have := List.all_eq_true.1 hok.1 k hk
                  simpa only [Bool.and_eq_true] using this
                · exact ihx hok.2 q
            intro k hk t x hx hnk
            obtain ⟨f1, f2⟩ := hf ed hfree hx0 k hk
            rcases hI.from' t x hx with ⟨j, oj, h4, h5, h6, h7⟩ | h4
            · have := List.all_eq_true.1 f1 j (List.mem_range.2 (by simpa using (List.getElem?_eq_some_iff.1 h4).1))
              have hji : j ≠ i := fun q => by rw [q, hiu] at h5; cases h5
              have hbf : Bef l.toArray j i = false := by
                cases hb : Bef l.toArray j i
                · rfl
                · exact (hlb j h5 hb).elim
              rw [beq_no hji, hbf, h4] at this
              simp only [Option.bind_some, h6, h7, Bool.false_or, Bool.or_eq_true] at this
              rcases this with q | q
              · exact absurd (hasN_iff.1 q) hnk
              · exact q
            · have hmem : (t, x) ∈ fr := by
                have : ∀ (fr : Fr), getF fr t = some x → (t, x) ∈ fr := by
                  intro fr
                  induction fr with
                  | nil => intro h; simp [getF] at h
                  | cons y r ihf =>
                    obtain ⟨q, z⟩ := y
                    intro h
                    by_cases hq : q = t
                    · subst hq; rw [getF_cons_same] at h; cases h; exact List.mem_cons_self ..
                    · rw [getF_cons_other hq] at h; exact List.mem_cons_of_mem _ (ihf h)
                exact this fr h4
              have := List.all_eq_true.1 f2 (t, x) hmem
              simp only [Bool.or_eq_true] at this
              rcases this with q | q
              · exact absurd (hasN_iff.1 q) hnk
              · exact q
          refine .inl (wp_of_does (heff frc hext hfr2 S G a w hn hsf) ?_)
          rintro v w' ⟨G', hs2, hv⟩
          have hi2 := hinv (edAt ed i).2 (fun _ => rfl) (fun q => absurd hiE q)
          have hs3 := hs2.weakenO hle
          refine ih (listed.setIfInBounds i true) _ obT G' _ w' hsz2 hul hcl2 (by rw [hDe]; exact hM2) (by rw [hDe]; exact hobT) hi2 ?_
          cases hdo : o.dst with
          | none => exact hs3
          | some d0 =>
            have hv2 := hv d0 hdo
            have hput := hs2.put (d := d0) (by rw [hn]; exact g2 d0 hdo) hv2
            exact hput.weakenO hle
  have hlist0 : ∀ j, (Array.replicate l.length false).getD j false = false := by
    intro j
    simp only [Array.getD_eq_getD_getElem?]
    rcases Nat.lt_or_ge j l.length with h' | h'
    · simp [h']
    · simp [h']
  have hf0 : (E.filter fun j => (Array.replicate l.length false).getD j false) = [] := by
    rw [List.filter_eq_nil_iff]; intro e _; rw [hlist0]; simp
  have hu0 : unl (Array.replicate l.length false) l.length = l.length := by
    unfold unl
    have : (List.range l.length).countP (fun i => !(Array.replicate l.length false).getD i false) = (List.range l.length).length := by
      rw [List.countP_eq_length]; intro i _; rw [hlist0]; rfl
    rw [this, List.length_range]
  have := key l.length (Array.replicate l.length false) fr ob0 G a _ (by simp) hu0 (fun j o ho hl => by rw [hlist0] at hl; cases hl) (by rw [hf0]; exact memM_mem b6) (by rw [hf0]; exact h0) ⟨fun j o d s _ h4 _ => (by rw [hlist0] at h4; cases h4), fun t s h3 => .inr h3, fun t s h3 _ _ => h3⟩ (hs.ext hxw)
  simpa using this
end
end Go.AL
namespace Go.AL
open Go Go.RowKit
set_option linter.unusedVariables false
section
variable {P : Program} {nt : Nat}
def WalkT (P : Program) (nt : Nat) (l : List Oper) (fr : Fr) (E : List Nat) (ed : Ed) (K : Sv → Mo → Prop) : List (Nat × List Nat) → Sv → Mo → Prop
  | [], svs, M => K svs M
  | (i, D) :: ts, svs, M => ∃ o ob s, l[i]? = some o ∧ lookM M D = some ob ∧ usesDone l svs o = true ∧ (lookV svs i = none ∨ lookV svs i = some s) ∧
      ((hasN E i = false ∧ Neu P o (keepF (frOf l svs fr) (usesC o.op)) ob (fun s' => s' = s) ∧ WalkT P nt l fr E ed K ts ((i, s) :: svs) M) ∨
       (hasN E i = true ∧ ∃ ob', EffR P nt o (keepF (frOf l svs fr) (usesC o.op)) (edAt ed i).1 (edAt ed i).2 ob ob' s ∧ lookM M (insD i D) = none ∧ WalkT P nt l fr E ed K ts ((i, s) :: svs) ((insD i D, ob') :: M)))
def CheckT (P : Program) (nt : Nat) (l : List Oper) (fr : Fr) (E : List Nat) (ed : Ed) (svs : Sv) (M : Mo) : List (Nat × List Nat) → Prop
  | [] => True
  | (i, D) :: ts => (∃ o ob s, l[i]? = some o ∧ lookM M D = some ob ∧ usesDone l svs o = true ∧ lookV svs i = some s ∧
      ((hasN E i = false ∧ Neu P o (keepF (frOf l svs fr) (usesC o.op)) ob (fun s' => s' = s)) ∨
       (hasN E i = true ∧ ∃ ob' obT, EffR P nt o (keepF (frOf l svs fr) (usesC o.op)) (edAt ed i).1 (edAt ed i).2 ob ob' s ∧ lookM M (insD i D) = some obT ∧ obIn2 obT ob'))) ∧ CheckT P nt l fr E ed svs M ts
def TaskOk (P : Program) (nt : Nat) (l : List Oper) (fr : Fr) (E : List Nat) (ed : Ed) (svs : Sv) (M : Mo) (p : Nat × List Nat) : Prop :=
  ∃ ob s, lookM M p.2 = some ob ∧ lookV svs p.1 = some s ∧ Task P nt l fr svs E ed p.1 ob s (fun ob' => ∃ obT, lookM M (insD p.1 p.2) = some obT ∧ obIn2 obT ob')
theorem lookV_ext {svs : Sv} {i : Nat} {s : SV} (h : lookV svs i = none ∨ lookV svs i = some s) {j : Nat} {x : SV} (hj : lookV svs j = some x) : lookV ((i, s) :: svs) j = some x := by
  show cond (Nat.beq i j) _ _ = _
  by_cases hij : i = j
  · subst hij
    rw [Nat.beq_refl]
    rcases h with h | h
    · rw [h] at hj; cases hj
    · rw [h] at hj; exact hj
  · rw [beq_no hij]; exact hj
theorem sameL_refl : ∀ (l : List Nat), sameL l l = true
  | [] => rfl
  | a :: l => by simp [sameL, Nat.beq_refl, sameL_refl l]
theorem lookM_ext {M : Mo} {D0 : List Nat} {o0 : Obs} (h : lookM M D0 = none) {D : List Nat} {ob : Obs} (hD : lookM M D = some ob) : lookM ((D0, o0) :: M) D = some ob := by
  show cond (sameL D0 D) _ _ = _
  cases hs : sameL D0 D
  · exact hD
  · rw [sameL_eq hs] at h; rw [h] at hD; cases hD
theorem UIn2.mono {l : List Oper} {svs svs' : Sv} {fr : Fr} {o : Oper} {U : Fr} (h : UIn2 l svs fr o U) (hm : ∀ j x, lookV svs j = some x → lookV svs' j = some x) : UIn2 l svs' fr o U := fun t s ht => by
  obtain ⟨h1, h2⟩ := h t s ht
  refine ⟨h1, ?_⟩
  rcases h2 with ⟨j, o', h3, h4, h5⟩ | h2
  · exact .inl ⟨j, o', h3, h4, hm j s h5⟩
  · exact .inr h2
theorem walk_get {l : List Oper} {fr : Fr} {E : List Nat} {ed : Ed} {K : Sv → Mo → Prop} : ∀ {ts : List (Nat × List Nat)} {svs : Sv} {M : Mo}, WalkT P nt l fr E ed K ts svs M →
    ∃ svs' M', (∀ j x, lookV svs j = some x → lookV svs' j = some x) ∧ (∀ D ob, lookM M D = some ob → lookM M' D = some ob) ∧ K svs' M' ∧ ∀ p ∈ ts, TaskOk P nt l fr E ed svs' M' p
  | [], svs, M, h => ⟨svs, M, fun _ _ h => h, fun _ _ h => h, h, fun p hp => by simp at hp⟩
  | (i, D) :: ts, svs, M, h => by
    obtain ⟨o, ob, s, h1, h2, h3, h4, h5⟩ := h
    have hself : lookV ((i, s) :: svs) i = some s := by show cond (Nat.beq i i) _ _ = _; rw [Nat.beq_refl]; rfl
    rcases h5 with ⟨h6, h7, h8⟩ | ⟨h6, ob', h7, h9, h8⟩
    · obtain ⟨svs', M', g1, g2, g3, g4⟩ := walk_get h8
      refine ⟨svs', M', fun j x hj => g1 j x (lookV_ext h4 hj), g2, g3, fun p hp => ?_⟩
      rcases List.mem_cons.1 hp with rfl | hp
      · exact ⟨ob, s, g2 _ _ h2, g1 _ _ hself, o, _, h1, (uIn2_of h3).mono (fun j x hj => g1 j x (lookV_ext h4 hj)), .inl ⟨h6, h7⟩⟩
      · exact g4 p hp
    · obtain ⟨svs', M', g1, g2, g3, g4⟩ := walk_get h8
      have hM : lookM ((insD i D, ob') :: M) (insD i D) = some ob' := by show cond (sameL _ _) _ _ = _; rw [sameL_refl]; rfl
      refine ⟨svs', M', fun j x hj => g1 j x (lookV_ext h4 hj), fun D' ob2 hD => g2 _ _ (lookM_ext h9 hD), g3, fun p hp => ?_⟩
      rcases List.mem_cons.1 hp with rfl | hp
      · exact ⟨ob, s, g2 _ _ (lookM_ext h9 h2), g1 _ _ hself, o, _, h1, (uIn2_of h3).mono (fun j x hj => g1 j x (lookV_ext h4 hj)), .inr ⟨h6, ob', h7, ob', g2 _ _ hM, fun _ _ h => h⟩⟩
      · exact g4 p hp
theorem check_get {l : List Oper} {fr : Fr} {E : List Nat} {ed : Ed} {svs : Sv} {M : Mo} : ∀ {ts : List (Nat × List Nat)}, CheckT P nt l fr E ed svs M ts → ∀ p ∈ ts, TaskOk P nt l fr E ed svs M p
  | [], _, p, hp => by simp at hp
  | (i, D) :: ts, h, p, hp => by
    obtain ⟨⟨o, ob, s, h1, h2, h3, h4, h5⟩, h6⟩ := h
    rcases List.mem_cons.1 hp with rfl | hp
    · rcases h5 with ⟨g1, g2⟩ | ⟨g1, ob', obT, g2, g3, g4⟩
      · exact ⟨ob, s, h2, h4, o, _, h1, uIn2_of h3, .inl ⟨g1, g2⟩⟩
      · exact ⟨ob, s, h2, h4, o, _, h1, uIn2_of h3, .inr ⟨g1, ob', g2, obT, g3, g4⟩⟩
    · exact check_get h6 p hp
def killsOf (ed : Ed) : List Nat := ed.flatMap fun p => p.2.2
def edOk (E : List Nat) (ed : Ed) : Bool := E.all fun e => ed.any fun p => Nat.beq p.1 e
theorem edAt_mem : ∀ {ed : Ed} {e : Nat}, (ed.any fun p => Nat.beq p.1 e) = true → (e, edAt ed e) ∈ ed
  | [], _, h => by simp at h
  | (i, x) :: r, e, h => by
    by_cases hie : i = e
    · subst hie
      have : edAt ((i, x) :: r) i = x := by show cond (Nat.beq i i) _ _ = _; rw [Nat.beq_refl]; rfl
      rw [this]; exact List.mem_cons_self ..
    · have h1 : edAt ((i, x) :: r) e = edAt r e := by show cond (Nat.beq i e) _ _ = _; rw [beq_no hie]; rfl
      rw [h1]
      simp only [List.any_cons, beq_no hie, Bool.false_or] at h
      exact List.mem_cons_of_mem _ (edAt_mem h)
def Fin2 (P : Program) (nt : Nat) (l : List Oper) (fr : Fr) (E : List Nat) (ed : Ed) (T2 : List (Nat × List Nat)) (Q : Post) (svs : Sv) (M : Mo) : Prop :=
  (free2 l l.toArray svs fr ed && (List.range l.length).all fun j => (lookV svs j).isSome) = true ∧ CheckT P nt l fr E ed svs M T2 ∧ ∃ obE, lookM M E = some obE ∧ Q .normal (dropK (killsOf ed) (frOf l svs fr)) obE
theorem c_region_ord {id : Nat} {l : List Oper} {fr : Fr} {ob0 : Obs} {Q : Post} (E : List Nat) (Ms : List (List Nat)) (ed : Ed) (T1 T2 : List (Nat × List Nat)) (hm : P.follows .mixedOrders = true)
    (hB : (conf2 nt l E Ms ed (T1 ++ T2) && edOk E ed) = true) (h : WalkT P nt l fr E ed (Fin2 P nt l fr E ed T2 Q) T1 [] [([], ob0)]) : WpC P nt (.region id l.toArray true) fr ob0 Q := by
  simp only [Bool.and_eq_true] at hB
  obtain ⟨svs, M, h1, h2, ⟨h3, h4, obE, h5, h6⟩, h7⟩ := walk_get h
  simp only [Bool.and_eq_true] at h3
  refine c_core E Ms ed (T1 ++ T2) svs M hm hB.1 (fun e he => ⟨edAt ed e, edAt_mem (List.all_eq_true.1 hB.2 e he), rfl⟩) h3.1 (h2 [] ob0 rfl) (fun p hp => ?_) h5 (fun t s ht => ?_) h6
  · rcases List.mem_append.1 hp with hp | hp
    · exact h7 p hp
    · exact check_get h4 p hp
  · obtain ⟨hk, h8⟩ := getF_dropK.1 ht
    refine ⟨fun e he hin => hk ?_, ?_⟩
    · have := edAt_mem (List.all_eq_true.1 hB.2 e he)
      exact List.mem_flatMap.2 ⟨_, this, hin⟩
    · rcases frOf_get h8 with ⟨j, o, g1, g2, g3⟩ | ⟨g1, g2⟩
      · exact .inl ⟨j, o, g2, g3, g1⟩
      · refine .inr ⟨fun hin => ?_, g1⟩
        obtain ⟨j, o, g3, g4⟩ := dstL_mem hin
        have := List.all_eq_true.1 h3.2 j (List.mem_range.2 (List.getElem?_eq_some_iff.1 g3).1)
        exact g2 j o (fun e => by rw [e] at this; cases this) g3 g4
theorem w_neu {l : List Oper} {fr : Fr} {E : List Nat} {ed : Ed} {K : Sv → Mo → Prop} {i : Nat} {D : List Nat} {ts : List (Nat × List Nat)} {svs : Sv} {M : Mo} {o : Oper} {ob : Obs} {s : SV} (ho : l[i]? = some o) (hM : lookM M D = some ob) (hu : usesDone l svs o = true)
    (hv : lookV svs i = none) (ht : hasN E i = false) (h : Neu P o (keepF (frOf l svs fr) (usesC o.op)) ob (fun s' => s' = s)) (k : WalkT P nt l fr E ed K ts ((i, s) :: svs) M) : WalkT P nt l fr E ed K ((i, D) :: ts) svs M :=
  ⟨o, ob, s, ho, hM, hu, .inl hv, .inl ⟨ht, h, k⟩⟩
theorem w_eff {l : List Oper} {fr : Fr} {E : List Nat} {ed : Ed} {K : Sv → Mo → Prop} {i : Nat} {D : List Nat} {ts : List (Nat × List Nat)} {svs : Sv} {M : Mo} {o : Oper} {ob ob' : Obs} {s : SV} (ho : l[i]? = some o) (hM : lookM M D = some ob) (hu : usesDone l svs o = true)
    (hv : lookV svs i = none) (ht : hasN E i = true) (h : EffR P nt o (keepF (frOf l svs fr) (usesC o.op)) (edAt ed i).1 (edAt ed i).2 ob ob' s) (hn : lookM M (insD i D) = none) (k : WalkT P nt l fr E ed K ts ((i, s) :: svs) ((insD i D, ob') :: M)) : WalkT P nt l fr E ed K ((i, D) :: ts) svs M :=
  ⟨o, ob, s, ho, hM, hu, .inl hv, .inr ⟨ht, ob', h, hn, k⟩⟩
theorem w_nil {l : List Oper} {fr : Fr} {E : List Nat} {ed : Ed} {T2 : List (Nat × List Nat)} {Q : Post} {svs : Sv} {M : Mo} {obE : Obs} (h1 : (free2 l l.toArray svs fr ed && (List.range l.length).all fun j => (lookV svs j).isSome) = true) (h2 : lookM M E = some obE)
    (h3 : CheckT P nt l fr E ed svs M T2) (h4 : Q .normal (dropK (killsOf ed) (frOf l svs fr)) obE) : WalkT P nt l fr E ed (Fin2 P nt l fr E ed T2 Q) [] svs M := ⟨h1, h3, obE, h2, h4⟩
theorem x_neu {l : List Oper} {fr : Fr} {E : List Nat} {ed : Ed} {i : Nat} {D : List Nat} {ts : List (Nat × List Nat)} {svs : Sv} {M : Mo} {o : Oper} {ob : Obs} {s : SV} (ho : l[i]? = some o) (hM : lookM M D = some ob) (hu : usesDone l svs o = true)
    (hv : lookV svs i = some s) (ht : hasN E i = false) (h : Neu P o (keepF (frOf l svs fr) (usesC o.op)) ob (fun s' => s' = s)) (k : CheckT P nt l fr E ed svs M ts) : CheckT P nt l fr E ed svs M ((i, D) :: ts) :=
  ⟨⟨o, ob, s, ho, hM, hu, hv, .inl ⟨ht, h⟩⟩, k⟩
theorem x_nil {l : List Oper} {fr : Fr} {E : List Nat} {ed : Ed} {svs : Sv} {M : Mo} : CheckT P nt l fr E ed svs M [] := trivial
theorem opvU {U frc : Fr} (hU : FrExt U frc) {x : Operand} {s : SV} (h : opv U x = some s) : opv frc x = some s := by
  cases x with
  | tmp t =>
    have h : getT U t = some s := h
    obtain ⟨h1, h2⟩ := getT_spec h
    show getT frc t = some s
    unfold getT
    have : Nat.blt t 1000000 = true := by simpa using h1
    rw [this]; exact hU t s h2
  | _ => exact h
theorem r_eff {U : Fr} {op : Op} {ty : TypeId} {pos : String} {af : Array Edge} {ob ob' : Obs} (h : ∀ frc, FrExt U frc → Eff P ⟨none, op, ty, pos, af, none⟩ frc ob frc ob') : EffR P nt ⟨none, op, ty, pos, af, none⟩ U [] [] ob ob' .any := by
  intro frc hU _ S G a w hn hs
  have := h frc hU S G a w hs
  have hdk : dropK [] frc = frc := by unfold dropK; exact List.filter_eq_self.2 fun p _ => rfl
  have imp : ∀ (v : Value) (w' : World), (∃ G', Sim P S frc ob' G' a w') → ∃ G', Sim P S (dropK [] frc) ob' G' a w' ∧ ∀ d, (none : Option Tmp) = some d → SV.rep (rdOf (Mut S ob' G') w') G' .any v := fun v w' ⟨G', h⟩ => ⟨G', by rw [hdk]; exact h, fun d hd => by cases hd⟩
  unfold Does at this ⊢
  generalize (execOp a.eval _).run P w = r at *
  cases r with
  | ok n w' =>
    cases n <;> simp only at this ⊢ <;> try exact this.elim
    case value v => exact imp v w' this
    case skip => exact imp undef w' this
    case enter f args => exact this.mono fun e w'' ⟨v, he, hv⟩ => ⟨v, he, imp v w'' hv⟩
  | halt x w' => exact this
theorem r_turn {U : Fr} {k : Nat} {kills : List Nat} {o : Oper} {ob ob' : Obs} {s : SV} (h : ∀ frc, FrExt U frc → EffV P o frc ob s (Fr.forget k frc) ob') : EffR P nt o U [k] kills ob ob' s := by
  intro frc hU hfree S G a w hn hs
  have := h frc hU S G a w hs
  have imp : ∀ (v : Value) (w' : World), (∃ G', Sim P S (Fr.forget k frc) ob' G' a w' ∧ s.rep (rdOf (Mut S ob' G') w') G' v) → ∃ G', Sim P S (dropK kills frc) ob' G' a w' ∧ ∀ d, o.dst = some d → s.rep (rdOf (Mut S ob' G') w') G' v := fun v w' ⟨G', h, hr⟩ => ⟨G', h.weaken (fun t x ht => by
    obtain ⟨hk, ht⟩ := getF_dropK.1 ht
    rw [getF_forget, ht]
    simp [SV.forget_free (hfree k (by simp) t x ht hk)]), fun _ _ => hr⟩
  unfold Does at this ⊢
  generalize (execOp a.eval _).run P w = r at *
  cases r with
  | ok n w' =>
    cases n <;> simp only at this ⊢ <;> try exact this.elim
    case value v => exact imp v w' this
    case skip => exact imp undef w' this
    case enter f args => exact this.mono fun e w'' ⟨v, he, hv⟩ => ⟨v, he, imp v w'' hv⟩
  | halt x w' => exact this
end
end Go.AL
namespace Go.AL
open Go Go.RowKit
set_option linter.unusedVariables false
section
variable {P : Program} {nt : Nat} {fr : Fr} {ob : Obs}
end
end Go.AL
namespace Go.AL
open Go Go.RowKit
set_option linter.unusedVariables false
section
variable {P : Program} {nt : Nat} {fr gf : Fr} {ob : Obs}
end
end Go.AL
namespace Go.AL
open Go Go.RowKit
set_option linter.unusedVariables false
section
variable {P : Program} {nt : Nat} {fr : Fr} {ob : Obs} {dst : Option Tmp} {ty : TypeId} {pos : String} {af : Array Edge} {gd : Option (Nat × Bool)}
theorem Sim.retold {S : Ctx} {G : Gh} {a : Act} {w : World} (h : Sim P S fr ob G a w) {k : Nat} {o o' : Ob} (hk : getO ob k = some o) (hown : ∀ b i, Own (G k) o' b i → Own (G k) o b i)
    (ho : ∀ rd : Rd, ObOk S rd G w (G k) o → ObOk S rd G w (G k) o') : Sim P S fr ((k, o') :: ob) G a w := by
  have hget : ∀ k' o1, getO ((k, o') :: ob) k' = some o1 → ∃ o0, getO ob k' = some o0 ∧ ∀ b i, Own (G k') o1 b i → Own (G k') o0 b i := by
    intro k' o1 hk'
    by_cases hkk : k' = k
    · subst hkk; rw [getO_cons_same] at hk'; cases hk'; exact ⟨_, hk, hown⟩
    · rw [getO_cons_other (Ne.symm hkk)] at hk'; exact ⟨_, hk', fun _ _ ho => ho⟩
  have hrd : ∀ b i z, rdOf (Mut S ob G) w b i z → rdOf (Mut S ((k, o') :: ob) G) w b i z := by
    intro b i z hr
    refine ⟨hr.1, fun hm => hr.2 ?_⟩
    rcases hm with hm | ⟨k', o1, hk', hb⟩
    · exact .inl hm
    · obtain ⟨o0, h0, hi⟩ := hget k' o1 hk'
      exact .inr ⟨k', o0, h0, hi _ _ hb⟩
  refine { h with old := ?_, dis := ?_, obs := ?_, facts := ?_ }
  · intro k' o1 b hk' hb
    obtain ⟨o0, h0, _⟩ := hget k' o1 hk'
    exact h.old k' o0 b h0 hb
  · intro k1 k2 o1 o2 b h1 h2 hb1 hb2
    obtain ⟨oa, ha, _⟩ := hget k1 o1 h1
    obtain ⟨ob', hb', _⟩ := hget k2 o2 h2
    exact h.dis k1 k2 oa ob' b ha hb' hb1 hb2
  · intro k' o1 hk'
    by_cases hkk : k' = k
    · subst hkk; rw [getO_cons_same] at hk'; cases hk'
      exact ho _ ((h.obs k' _ hk).ext hrd (Below.refl _ _))
    · rw [getO_cons_other (Ne.symm hkk)] at hk'
      exact (h.obs k' o1 hk').ext hrd (Below.refl _ _)
  · intro i s hi
    exact SV.rep_mono hrd (h.facts i s hi)
theorem Sim.grow_cell {S : Ctx} {G : Gh} {a : Act} {w : World} (h : Sim P S fr ob G a w) {k b n cap i o ec : Nat} {e : TypeId} {α : Type} {c : α → Nat → Cell} {xs : List α} {v : α} (hk : getO ob k = some (.grow e α ec c xs)) (hg : G k = .slice (some ⟨b, 0, none⟩) n cap) (hv : xs[i]? = some v) (ho : o < ec) :
    ∃ z, w.cell? ⟨b, i * ec + o, none⟩ = some z ∧ (c v o).rep (rdOf (Mut S ob G) w) z := by
  obtain ⟨vs, hown, _, hc⟩ := h.obs k _ hk
  obtain ⟨hi, rfl⟩ := List.getElem?_eq_some_iff.1 hv
  obtain ⟨z, h1, h2⟩ := hc i hi o ho
  have := hown.cells (g := b) (by rw [hg]; rfl) (i * ec + o) z h1
  exact ⟨z, by simpa [Addr.add_lit] using this, h2⟩
theorem n_load_g {x : Operand} {t e : TypeId} {k i o : Nat} {α : Type} {ec : Nat} {c : α → Nat → Cell} {xs : List α} {v : α} [ht : TyOne P t] (hx : opv fr x = some (.s (.one (.mref k ec i o)))) (hk : getO ob k = some (.grow e α ec c xs)) (hv : xs[i]? = some v)
    (ho : Nat.blt o ec = true) : Neu P ⟨dst, .load t x, ty, pos, af, gd⟩ fr ob (fun s' => s' = .s (.one (.p (c v o)))) :=
  neu_same fun S G a w h => by
    obtain ⟨b, n, cap, hg, hu⟩ := opv_one h hx
    obtain ⟨z, hz1, hz2⟩ := h.grow_cell hk hg hv (by simpa using ho)
    refine ⟨z, ?_, hz2⟩
    simp only [execOp, hu]
    exact run_v (by simp [Instr.loadAt, Instr.sureAddr, run_loadVar_one hz1])
theorem ret4 {fn : Func} {t t' t'' t3 : Tmp} {s s' s'' s3 : S1} {p p' p'' p3 : PV} (hr : fn.results = #[.tmp t, .tmp t', .tmp t'', .tmp t3]) (ht : getT fr t = some (.s s)) (hp : s.pv? = some p) (ht' : getT fr t' = some (.s s')) (hp' : s'.pv? = some p')
    (ht'' : getT fr t'' = some (.s s'')) (hp'' : s''.pv? = some p'') (ht3 : getT fr t3 = some (.s s3)) (hp3 : s3.pv? = some p3) : RetOk P fn fr ob [p, p', p'', p3] :=
  fun S G a w h => ⟨.tuple #[a.tmps.getD t undef, a.tmps.getD t' undef, a.tmps.getD t'' undef, a.tmps.getD t3 undef], by simp [results, hr], [_, _, _, _], rfl, slot_pv h ht hp, slot_pv h ht' hp', slot_pv h ht'' hp'', slot_pv h ht3 hp3, trivial⟩
end
end Go.AL
namespace Go.AL
open Go Go.RowKit
set_option linter.unusedVariables false
section
variable {P : Program} {nt : Nat} {fr : Fr} {ob : Obs} {dst : Option Tmp} {ty : TypeId} {pos : String} {af : Array Edge} {gd : Option (Nat × Bool)}
theorem e_adoptG (k : Nat) (α : Type) (c : α → Nat → Cell) {t e : TypeId} {ec bytes : Nat} [ht : TySl P t e ec bytes] (hk : getO ob k = none) (hp : Nat.blt k 1000000 = true) :
    EffV P ⟨dst, .assign (.const (.slice none 0 0)), t, pos, af, gd⟩ fr ob (.s (.one (.mut k))) (Fr.forget k fr) ((k, .grow e α ec c []) :: Obs.forget k ob) := by
  intro S G a w h
  refine does_of_run (w' := w) (v := .slice none 0 0) rfl ?_
  have h6 := h.new (by simpa using hp) (o := .grow e α ec c []) (u := .slice none 0 0) (w1 := w) hk (Below.refl _ _) (fun b hb => by simp [blk] at hb) ⟨[], World.ownsRow_nil w _ _ _, by simp, fun i hi => absurd hi (by simp)⟩
  exact ⟨upd G k (.slice none 0 0), h6, (upd_same _ _ _).symm, rfl⟩
theorem tail_drop {gf : Fr} {ks : List Nat} (hk : (ks.all fun k => Nat.blt k 1000000) = true) (h : Tail gf fr) : Tail gf (dropK ks fr) := fun i s hi hg => by
  refine getF_dropK.2 ⟨fun hin => ?_, h i s hi hg⟩
  have := List.all_eq_true.1 hk i hin
  have : i < 1000000 := by simpa using this
  omega
end
end Go.AL
namespace Go.AL
open Go Go.RowKit
set_option linter.unusedVariables false
section
variable {P : Program} {nt : Nat} {fr : Fr} {ob : Obs} {dst : Option Tmp} {ty : TypeId} {pos : String} {af : Array Edge} {gd : Option (Nat × Bool)}
theorem row_le {xs ec p : Nat} (hp : p < xs) : p * ec + ec ≤ xs * ec := by
  have : (p + 1) * ec ≤ xs * ec := Nat.mul_le_mul_right _ hp
  rw [Nat.add_mul, Nat.one_mul] at this; omega
theorem row_get {ec : Nat} {vs : List Value} {p o : Nat} (ho : o < ec) : ((vs.drop (p * ec)).take ec)[o]? = vs[p * ec + o]? := by
  rw [List.getElem?_take_of_lt ho, List.getElem?_drop]
theorem row_length {ec n : Nat} {vs : List Value} {p : Nat} (hl : vs.length = n * ec) (hp : p < n) : ((vs.drop (p * ec)).take ec).length = ec := by
  have := row_le (ec := ec) hp
  rw [List.length_take, List.length_drop]; omega
theorem Sees.openA (k p : Nat) {e : TypeId} {α : Type} {ec : Nat} {c : α → Nat → Cell} {xs : List α} {v : α} (hk : getO ob k = some (.grow e α ec c xs)) (hv : xs[p]? = some v) :
    Sees P nt fr ob fr ((k, .growA e α ec c xs p ((cellsOf c v 0 ec).map .p)) :: ob) := fun S G a w hn h => by
  obtain ⟨hp, rfl⟩ := List.getElem?_eq_some_iff.1 hv
  refine ⟨G, h.retold hk (fun b i ho => ⟨ho.1, trivial⟩) ?_⟩
  rintro rd ⟨vs, hown, hlen, hc⟩
  refine ⟨vs, hown, hlen, hp, by simp [cellsOf_length], fun i h _ j hj => hc i h j hj, ?_⟩
  refine all2_of_get (by rw [row_length hown.1 hp]; simp [cellsOf_length]) fun j t z h1 h2 => ?_
  rw [List.getElem?_map] at h1
  cases hcc : (cellsOf c xs[p] 0 ec)[j]? with
  | none => simp [hcc] at h1
  | some cc =>
    simp [hcc] at h1
    have hj : j < ec := by have := (List.getElem?_eq_some_iff.1 hcc).1; rw [cellsOf_length] at this; exact this
    obtain ⟨rfl, _⟩ := cellsOf_get c xs[p] ec 0 j cc hcc
    subst h1
    rw [row_get hj] at h2
    obtain ⟨z', h3, h4⟩ := hc p hp j hj
    rw [h3] at h2; cases h2
    simpa [TC.rep] using h4
theorem Sees.closeA (k : Nat) {e : TypeId} {α : Type} {ec : Nat} {c : α → Nat → Cell} {xs : List α} {p : Nat} {ts : List TC} (y : α) (hk : getO ob k = some (.growA e α ec c xs p ts)) (hts : pureL ts = some (cellsOf c y 0 ec)) :
    Sees P nt fr ob fr ((k, .grow e α ec c (xs.set p y)) :: ob) := fun S G a w hn h => by
  refine ⟨G, h.retold hk (fun b i ho => ⟨ho.1, trivial⟩) ?_⟩
  rintro rd ⟨vs, hown, hlen, hp, htl, hc, ha⟩
  refine ⟨vs, by simpa using hown, by simpa using hlen, fun i hi j hj => ?_⟩
  have hi' : i < xs.length := by simpa using hi
  by_cases hip : i = p
  · subst hip
    have hset : (xs.set i y)[i]'hi = y := by simp
    rw [hset]
    have hget : (cellsOf c y 0 ec)[j]? = some (c y j) := by
      have hlt : j < (cellsOf c y 0 ec).length := by rw [cellsOf_length]; exact hj
      rw [List.getElem?_eq_getElem hlt]
      have := cellsOf_get c y ec 0 j _ (List.getElem?_eq_getElem hlt)
      rw [this.1, Nat.zero_add]
    obtain ⟨z, h1, h2⟩ := (pureL_rep hts ha).get _ _ hget
    rw [row_get hj] at h1
    exact ⟨z, h1, h2⟩
  · have hset : (xs.set p y)[i]'hi = xs[i] := by rw [List.getElem_set_ne (Ne.symm hip)]
    rw [hset]
    exact hc i hi' hip j hj
theorem n_len_gA {x : Operand} {t e e' : TypeId} {eb bytes k ec p : Nat} {α : Type} {c : α → Nat → Cell} {xs : List α} {ts : List TC} (hx : opv fr x = some (.s (.one (.mut k)))) (hk : getO ob k = some (.growA e' α ec c xs p ts)) [ht : TySl P t e eb bytes] :
    Neu P ⟨dst, .call ⟨.builtin .len, #[x], #[t]⟩, ty, pos, af, gd⟩ fr ob (fun s' => s' = sInt xs.length) :=
  neu_same fun S G a w h => by
    refine ⟨.int .i64 xs.length, ?_, rfl, rfl⟩
    obtain ⟨hu, _⟩ := opv_one h hx
    obtain ⟨vs, hown, _⟩ := h.obs k _ hk
    rcases hown.2 with ⟨hg, h0⟩ | ⟨g, cap, cur, hg, _⟩
    · rw [hg] at hu
      simp [execOp, resolve, invoke, builtin, hu, Builtin.len_, run_underlying ht.out.1, goInt, h0]
    · rw [hg] at hu
      simp [execOp, resolve, invoke, builtin, hu, Builtin.len_, run_underlying ht.out.1, goInt]
theorem n_indexAddr_gA {x y : Operand} {t e e' : TypeId} {ec bytes k p : Nat} {α : Type} {c : α → Nat → Cell} {xs : List α} {ts : List TC} {ki : IntKind} {i : Int} [ht : TySl P t e ec bytes] (hx : opv fr x = some (.s (.one (.mut k)))) (hk : getO ob k = some (.growA e' α ec c xs p ts))
    (hy : opv fr y = some (sVal (.int ki i))) (h0 : 0 ≤ i) (h1 : i < xs.length) : Neu P ⟨dst, .indexAddr t x y, ty, pos, af, gd⟩ fr ob (fun s' => s' = .s (.one (.mref k ec i.toNat 0))) :=
  neu_same fun S G a w h => by
    obtain ⟨hu, _⟩ := opv_one h hx
    obtain ⟨vs, hown, _⟩ := h.obs k _ hk
    rcases hown.2 with ⟨hg, h2⟩ | ⟨g, cap, cur, hg, _⟩
    · omega
    · rw [hg] at hu
      refine ⟨.pointer (some ⟨g, i.toNat * ec, none⟩), ?_, g, xs.length, cap, hg, rfl⟩
      simp only [execOp, hu, opv_val h hy]
      refine run_v ?_
      have hb : 0 ≤ i ∧ i < (xs.length : Int) := ⟨h0, h1⟩
      simp [Instr.indexAt, run_underlying ht.out.1, asIntOf, hb, run_sizeOf ht.size, Addr.add_lit]
theorem n_load_gA {x : Operand} {t e : TypeId} {k p q o : Nat} {α : Type} {ec : Nat} {c : α → Nat → Cell} {xs : List α} {ts : List TC} {s : TC} [ht : TyOne P t] (hx : opv fr x = some (.s (.one (.mref k ec q o)))) (hk : getO ob k = some (.growA e α ec c xs p ts)) (hq : q = p) (hv : ts[o]? = some s) :
    Neu P ⟨dst, .load t x, ty, pos, af, gd⟩ fr ob (fun s' => s' = .s (.one s)) :=
  neu_same fun S G a w h => by
    subst hq
    obtain ⟨b, m, cap, hg, hu⟩ := opv_one h hx
    obtain ⟨vs, hown, _, hp, htl, _, ha⟩ := h.obs k _ hk
    obtain ⟨z, hz1, hz2⟩ := ha.get _ s hv
    have ho : o < ec := by have := (List.getElem?_eq_some_iff.1 hv).1; omega
    rw [row_get ho] at hz1
    have := hown.cells (g := b) (by rw [hg]; rfl) (q * ec + o) z hz1
    refine ⟨z, ?_, hz2⟩
    simp only [execOp, hu]
    refine run_v ?_
    have hcell : w.cell? ⟨b, q * ec + o, none⟩ = some z := by simpa [Addr.add_lit] using this
    simp [Instr.loadAt, Instr.sureAddr, run_loadVar_one (ht := ht) hcell]
theorem row_set {cur cl : List Value} {N p ec o n : Nat} (hN : p * ec + ec ≤ N) (hN2 : N ≤ cur.length) (hcl : cl.length = n) (ho : o + n ≤ ec) :
    (((cur.take (p * ec + o) ++ cl ++ cur.drop (p * ec + o + n)).take N).drop (p * ec)).take ec
      = (((cur.take N).drop (p * ec)).take ec).take o ++ cl ++ (((cur.take N).drop (p * ec)).take ec).drop (o + cl.length) := by
  subst hcl
  obtain ⟨A, hA⟩ : ∃ A, A = cur.take (p * ec + o) := ⟨_, rfl⟩
  obtain ⟨B, hB⟩ : ∃ B, B = cur.drop (p * ec + o + cl.length) := ⟨_, rfl⟩
  obtain ⟨R, hR⟩ : ∃ R, R = ((cur.take N).drop (p * ec)).take ec := ⟨_, rfl⟩
  have hAl : A.length = p * ec + o := by rw [hA]; simp; omega
  have hRl : R.length = ec := by rw [hR]; simp; omega
  have hRj : ∀ j, j < ec → R[j]? = cur[p * ec + j]? := fun j hj => by rw [hR, row_get hj, List.getElem?_take_of_lt (by omega)]
  rw [← hA, ← hB, ← hR]
  apply List.ext_getElem?
  intro j
  by_cases hj : j < ec
  · rw [row_get hj, List.getElem?_take_of_lt (by omega)]
    by_cases h1 : j < o
    · have e1 : (A ++ cl ++ B)[p * ec + j]? = A[p * ec + j]? := by rw [List.append_assoc]; exact List.getElem?_append_left (by omega)
      have e2 : (R.take o ++ cl ++ R.drop (o + cl.length))[j]? = (R.take o)[j]? := by rw [List.append_assoc]; exact List.getElem?_append_left (by rw [List.length_take]; omega)
      rw [e1, e2, hA, List.getElem?_take_of_lt (by omega), List.getElem?_take_of_lt h1, hRj j hj]
    · by_cases h2 : j < o + cl.length
      · have e1 : (A ++ cl ++ B)[p * ec + j]? = cl[p * ec + j - A.length]? := by
          rw [List.getElem?_append_left (by rw [List.length_append]; omega)]; exact List.getElem?_append_right (by omega)
        have e2 : (R.take o ++ cl ++ R.drop (o + cl.length))[j]? = cl[j - (R.take o).length]? := by
          rw [List.getElem?_append_left (by rw [List.length_append, List.length_take]; omega)]; exact List.getElem?_append_right (by rw [List.length_take]; omega)
        rw [e1, e2, hAl, List.length_take]
        congr 1; omega
      · have e1 : (A ++ cl ++ B)[p * ec + j]? = B[p * ec + j - (A ++ cl).length]? := List.getElem?_append_right (by rw [List.length_append]; omega)
        have e2 : (R.take o ++ cl ++ R.drop (o + cl.length))[j]? = (R.drop (o + cl.length))[j - (R.take o ++ cl).length]? := List.getElem?_append_right (by rw [List.length_append, List.length_take]; omega)
        rw [e1, e2, hB, List.getElem?_drop, List.getElem?_drop, List.length_append, List.length_append, List.length_take, hAl]
        rw [show p * ec + o + cl.length + (p * ec + j - (p * ec + o + cl.length)) = p * ec + j by omega, show o + cl.length + (j - (min o R.length + cl.length)) = j by omega, hRj j hj]
  · rw [List.getElem?_eq_none (by rw [List.length_take]; omega), List.getElem?_eq_none (by simp only [List.length_append, List.length_take, List.length_drop]; omega)]
theorem e_store_gA {t e : TypeId} {x yo : Operand} {k p q o n : Nat} {α : Type} {ec : Nat} {c : α → Nat → Cell} {xs : List α} {ts : List TC} {s : S1} (hsz : (P.info? t).map (·.size) = some n) (hx : opv fr x = some (.s (.one (.mref k ec q o)))) (hk : getO ob k = some (.growA e α ec c xs p ts)) (hq : q = p)
    (hy : opv fr yo = some (.s s)) (hcst : constOk yo = true) (hn : s.cells.length = n) (ho : Nat.ble (o + n) ec = true) :
    Eff P ⟨none, .store t x yo, ty, pos, af, gd⟩ fr ob fr ((k, .growA e α ec c xs p (setTs ts o s.cells)) :: ob) := by
  intro S G a w h
  subst hq
  obtain ⟨b, m, cap, hg, hu⟩ := opv_one h hx
  obtain ⟨vs, hown, hlen, hlt, htl, hc, ha⟩ := h.obs k _ hk
  have hl := hown.1
  rcases hown.2 with ⟨hg0, h2⟩ | ⟨b', cap', cur, hg', hB, hh, hcap, hmax, hcs, htake⟩
  · omega
  rw [hg] at hg'; cases hg'
  have hr : (SV.s s).rep (rdOf (Mut S ob G) w) G (a.eval yo) := opv_rep h hy hcst
  have hcells := S1.rep_cells hr
  have hcl : (a.eval yo).cells.size = n := by rw [← hn, hcells.length]; simp
  have hle : o + n ≤ ec := by simpa using ho
  have hi1 : q * ec + ec ≤ xs.length * ec := row_le hlt
  have hi2 : xs.length * ec ≤ cur.size := by rw [hcs]; exact Nat.mul_le_mul_right _ hcap
  have hh' : w.heap[b]? = some (.cells cur.toList.toArray e (0, 0)) := by rw [Array.toArray_toList]; exact hh
  obtain ⟨w', hrun, hos, htape, hout, hsize, hother, hheap⟩ := run_storeVar (P := P) (t := t) (w := w) (b := b) (o := q * ec + o) (v := a.eval yo) (by rw [hsz, hcl]) hh' (cells_one hcells) (by rw [hcl]; simp; omega)
  unfold Does
  have he : (execOp a.eval ⟨none, .store t x yo, ty, pos, af, gd⟩).run P w = .ok .skip w' := by
    simp [execOp, hu, Instr.storeAt, Instr.sureAddr, hrun]
  rw [he]
  have hbk : blk (G k) = some b := by rw [hg]; rfl
  refine ⟨G, h.write hk hbk (fun i => ⟨hbk, trivial⟩) (fun i => ⟨hbk, trivial⟩) hos htape hout (Nat.le_of_eq hsize.symm) (fun j _ => hother j) ?_⟩
  intro rd hrd
  have hul : (a.eval yo).cells.toList.length = n := by simpa using hcl
  have hl1 : (cur.toList.take (q * ec + o)).length = q * ec + o := by simp; omega
  have hl2 : (cur.toList.take (q * ec + o) ++ (a.eval yo).cells.toList).length = q * ec + o + n := by rw [List.length_append, hl1, hul]
  have hl3 : (cur.toList.take (q * ec + o) ++ (a.eval yo).cells.toList ++ cur.toList.drop (q * ec + o + (a.eval yo).cells.size)).length = cur.size := by
    rw [List.length_append, hl2, List.length_drop, hcl]; simp; omega
  refine ⟨(cur.toList.take (q * ec + o) ++ (a.eval yo).cells.toList ++ cur.toList.drop (q * ec + o + (a.eval yo).cells.size)).take (xs.length * ec), ⟨by simp only [List.length_take, hl3]; omega, .inr ⟨b, cap, _, by rw [hg], hB, hheap, hcap, hmax, by simp only [List.size_toArray]; rw [hl3, hcs], by simp⟩⟩, hlen, hlt, by rw [setTs_length (by rw [hn, htl]; exact hle)]; exact htl, ?_, ?_⟩
  · intro i hi' hiq j hj
    have hpe : i * ec + j < xs.length * ec := by have := row_le (ec := ec) hi'; omega
    rw [List.getElem?_take_of_lt hpe]
    have hcur : vs[i * ec + j]? = cur[i * ec + j]? := by rw [← htake, List.getElem?_take_of_lt hpe]; simp
    have hsame : (cur.toList.take (q * ec + o) ++ (a.eval yo).cells.toList ++ cur.toList.drop (q * ec + o + (a.eval yo).cells.size))[i * ec + j]? = vs[i * ec + j]? := by
      rw [hcur]
      rcases Nat.lt_or_gt_of_ne hiq with h1 | h1
      · have := row_le (ec := ec) h1
        rw [List.append_assoc, List.getElem?_append_left (by rw [hl1]; omega), List.getElem?_take_of_lt (by omega)]; simp
      · have := row_le (ec := ec) h1
        rw [List.getElem?_append_right (by rw [hl2]; omega), hl2, List.getElem?_drop, hcl]
        have : q * ec + o + n + (i * ec + j - (q * ec + o + n)) = i * ec + j := by omega
        rw [this]; simp
    rw [hsame]
    obtain ⟨z, hz1, hz2⟩ := hc i hi' hiq j hj
    exact ⟨z, hz1, Cell.rep_mono hrd _ _ hz2⟩
  · rw [hcl, row_set hi1 (by simpa using hi2) hul hle, htake]
    exact (All2.setTs o ha hcells).mono (fun _ _ => TC.rep_mono hrd)
theorem Sim.freezeG {S : Ctx} {G : Gh} {a : Act} {w : World} (h : Sim P S fr ob G a w) {k : Nat} {α : Type} {ec : Nat} {c : α → Nat → Cell} {xs : List α} {e : TypeId} (hk : getO ob k = some (.grow e α ec c xs)) (hec : 0 < ec) :
    Sim P S (Fr.mapS (SV.freeze k α ec c xs) fr) (Obs.mapO (Ob.freeze k α ec c xs) (Obs.drop k ob)) G a w := by
  have hd := h.drop k
  obtain ⟨vs, hown, hlen, hc⟩ := h.obs k _ hk
  have hget : ∀ k' o, getO (Obs.mapO (Ob.freeze k α ec c xs) (Obs.drop k ob)) k' = some o → ∃ o0, getO (Obs.drop k ob) k' = some o0 ∧ o = o0.freeze k α ec c xs := by
    intro k' o hk'
    rw [getO_mapO] at hk'
    cases hg' : getO (Obs.drop k ob) k' with
    | none => simp [hg'] at hk'
    | some o0 => simp [hg'] at hk'; exact ⟨o0, rfl, hk'.symm⟩
  have hownf : ∀ (u : Value) (o : Ob) (b i : Nat), Own u (o.freeze k α ec c xs) b i ↔ Own u o b i := by intro u o b i; cases o <;> simp [Own, Ob.freeze]
  have hmut : ∀ b i, Mut S (Obs.mapO (Ob.freeze k α ec c xs) (Obs.drop k ob)) G b i → Mut S (Obs.drop k ob) G b i := by
    intro b i hm
    rcases hm with hm | ⟨k', o, hk', hb⟩
    · exact .inl hm
    · obtain ⟨o0, h0, rfl⟩ := hget k' o hk'
      exact .inr ⟨k', o0, h0, (hownf _ _ _ _).1 hb⟩
  have hrd : ∀ b i z, rdOf (Mut S (Obs.drop k ob) G) w b i z → rdOf (Mut S (Obs.mapO (Ob.freeze k α ec c xs) (Obs.drop k ob)) G) w b i z := fun b i z hr => ⟨hr.1, fun hm => hr.2 (hmut b i hm)⟩
  have hrd0 : ∀ b i z, rdOf (Mut S ob G) w b i z → rdOf (Mut S (Obs.drop k ob) G) w b i z := by
    intro b i z hr
    refine ⟨hr.1, fun hm => hr.2 ?_⟩
    rcases hm with hm | ⟨k', o', hk', hb⟩
    · exact .inl hm
    · refine .inr ⟨k', o', ?_, hb⟩
      by_cases hkk : k' = k
      · subst hkk; rw [getO_drop_same] at hk'; cases hk'
      · rwa [getO_drop_other hkk] at hk'
  have hlist : (Cell.list α ec c xs).rep (rdOf (Mut S (Obs.mapO (Ob.freeze k α ec c xs) (Obs.drop k ob)) G) w) (G k) := by
    refine ownsRow_list hown hec hlen ?_ (fun i hi j hj => let ⟨z, h1, h2⟩ := hc i hi j hj; ⟨z, h1, Cell.rep_mono (fun _ _ _ hr => hrd _ _ _ (hrd0 _ _ _ hr)) _ _ h2⟩)
    intro g hg j z hj hcell
    refine ⟨hcell, fun hm => ?_⟩
    rcases hmut _ _ hm with hm | ⟨k', o', hk', hb, _⟩
    · have := h.m0 _ _ hm
      rcases h.old k _ g hk hg with h1 | h1
      · omega
      · exact h.m0io _ _ hm h1.1
    · by_cases hkk : k' = k
      · subst hkk; rw [getO_drop_same] at hk'; cases hk'
      · rw [getO_drop_other hkk] at hk'
        exact hkk (h.dis k' k o' _ g hk' hk hb hg)
  exact { hd with
    old := fun k' o b hk' => let ⟨o0, h0, _⟩ := hget k' o hk'; hd.old k' o0 b h0
    dis := fun k1 k2 o1 o2 b h1 h2 => let ⟨oa, ha, _⟩ := hget k1 o1 h1; let ⟨ob', hb', _⟩ := hget k2 o2 h2; hd.dis k1 k2 oa ob' b ha hb'
    obs := fun k' o hk' => by
      obtain ⟨o0, h0, rfl⟩ := hget k' o hk'
      have hob := (hd.obs k' o0 h0).ext hrd (Below.refl _ _)
      cases o0 with
      | box ts => obtain ⟨b', vs', t', h1, h2, h3⟩ := hob; exact ⟨b', vs', t', h1, h2, h3.map (TC.freeze k α ec c xs) fun _ _ => TC.rep_freeze hlist⟩
      | tbx e ts => obtain ⟨b', vs', h1, h2, h3⟩ := hob; exact ⟨b', vs', h1, h2, h3.map (TC.freeze k α ec c xs) fun _ _ => TC.rep_freeze hlist⟩
      | tarr n ec' ts => obtain ⟨b', vs', t', h1, hl, h2, hn, h3⟩ := hob; exact ⟨b', vs', t', h1, hl, h2, by simpa using hn, h3.map (TC.freeze k α ec c xs) fun _ _ => TC.rep_freeze hlist⟩
      | arr => exact hob
      | spare => exact hob
      | grow => exact hob
      | map => exact hob
      | growA e' α' ec' c' xs' p ts => obtain ⟨vs, h1, h2, h3, h4, h5, h6⟩ := hob; exact ⟨vs, h1, h2, h3, by simpa using h4, h5, h6.map (TC.freeze k α ec c xs) fun _ _ => TC.rep_freeze hlist⟩
      | growT e' n' ec' ts => obtain ⟨vs, h1, h2, h3, h4⟩ := hob; exact ⟨vs, h1, h2, by simpa using h3, h4.map (TC.freeze k α ec c xs) fun _ _ => TC.rep_freeze hlist⟩
    facts := fun i s hi => by
      rw [getF_mapS] at hi
      cases hg' : getF fr i with
      | none => simp [hg'] at hi
      | some s0 =>
        simp [hg'] at hi; subst hi
        exact SV.rep_freeze hlist (SV.rep_mono hrd (hd.facts i s0 hg')) }
theorem Sees.freezeG {k : Nat} {α : Type} {ec : Nat} {c : α → Nat → Cell} {xs : List α} {e : TypeId} (hk : getO ob k = some (.grow e α ec c xs)) (hec : Nat.blt 0 ec = true) :
    Sees P nt fr ob (Fr.mapS (SV.freeze k α ec c xs) fr) (Obs.mapO (Ob.freeze k α ec c xs) (Obs.drop k ob)) := fun S G a w hn h => ⟨G, h.freezeG hk (by simpa using hec)⟩
end
end Go.AL
namespace Go.AL
open Go Go.RowKit
set_option linter.unusedVariables false
section
variable {P : Program} {nt : Nat} {fr : Fr} {ob : Obs}
theorem Sees.reA (k : Nat) {e : TypeId} {α : Type} {ec : Nat} {c : α → Nat → Cell} {xs : List α} {p : Nat} {ts : List TC} (xs' : List α) (hk : getO ob k = some (.growA e α ec c xs p ts)) (hl : xs'.length = xs.length) (hx : ∀ i, i ≠ p → xs'[i]? = xs[i]?) :
    Sees P nt fr ob fr ((k, .growA e α ec c xs' p ts) :: ob) := fun S G a w hn h => by
  refine ⟨G, h.retold hk (fun b i ho => ⟨ho.1, trivial⟩) ?_⟩
  rintro rd ⟨vs, hown, hlen, hp, htl, hc, ha⟩
  refine ⟨vs, by rw [hl]; exact hown, by rw [hl]; exact hlen, by rw [hl]; exact hp, htl, fun i hi hip j hj => ?_, ha⟩
  have hi' : i < xs.length := by rw [← hl]; exact hi
  obtain ⟨z, h1, h2⟩ := hc i hi' hip j hj
  refine ⟨z, h1, ?_⟩
  have := hx i hip
  rw [List.getElem?_eq_getElem hi, List.getElem?_eq_getElem hi'] at this
  rw [Option.some.inj this]; exact h2
theorem Sees.fewer {ob' : Obs} (ho : ∀ k o, getO ob' k = some o → getO ob k = some o) : Sees P nt fr ob fr ob' := fun S G a w hn hs => ⟨G, hs.weakenO ho⟩
theorem Sees.recell (k : Nat) {e : TypeId} {α : Type} {ec : Nat} {c : α → Nat → Cell} {xs : List α} (c' : α → Nat → Cell) (hk : getO ob k = some (.grow e α ec c xs)) (hc : ∀ x ∈ xs, ∀ j, j < ec → ∀ (rd : Rd) u, (c x j).rep rd u → (c' x j).rep rd u) :
    Sees P nt fr ob fr ((k, .grow e α ec c' xs) :: ob) := fun S G a w hn h => by
  refine ⟨G, h.retold hk (fun b i ho => ⟨ho.1, trivial⟩) ?_⟩
  rintro rd ⟨vs, hown, hlen, hh⟩
  refine ⟨vs, hown, hlen, fun i hi j hj => ?_⟩
  obtain ⟨z, h1, h2⟩ := hh i hi j hj
  exact ⟨z, h1, hc _ (List.getElem_mem hi) j hj _ _ h2⟩
theorem Sees.adoptBG (k : Nat) (α : Type) (ec : Nat) (c : α → Nat → Cell) (e : TypeId) {kb o : Nat} {ts : List TC} (hb : getO ob kb = some (.box ts)) (hts : ts[o]? = some (.p (.v (.slice none 0 0)))) (hf : (frFree k fr && obFree k ob) = true) :
    Sees P nt fr ob fr ((kb, .box (ts.set o (.mut k))) :: (k, .grow e α ec c []) :: ob) := by
  simp only [Bool.and_eq_true] at hf
  obtain ⟨h1, h2⟩ := hf
  obtain ⟨h4, h5, hp⟩ := ob_free h2
  intro S G a w hn h
  have h6 := h.new hp (o := .grow e α ec c []) (u := .slice none 0 0) (w1 := w) h5 (Below.refl _ _) (fun b hb => by simp [blk] at hb) ⟨[], World.ownsRow_nil w _ _ _, by simp, fun i hi => absurd hi (by simp)⟩
  rw [fr_free h1, h4] at h6
  have hkb : k ≠ kb := fun he => by rw [he, hb] at h5; cases h5
  have hb' : getO ((k, Ob.grow e α ec c []) :: ob) kb = some (.box ts) := by rw [getO_cons_other hkb]; exact hb
  obtain ⟨b, vs, t, hg, hh, ha⟩ := h6.obs kb _ hb'
  have hbk : blk (upd G k (.slice none 0 0) kb) = some b := by rw [hg]; rfl
  refine ⟨_, h6.retell hb' hbk (fun i => ⟨hbk, trivial⟩) (fun i => ⟨hbk, trivial⟩) ?_⟩
  rintro rd ⟨b', vs', t', hg', hh', ha'⟩
  refine ⟨b', vs', t', hg', hh', All2.setL o (fun z hz => ?_) ha'⟩
  obtain ⟨z', hz1, hz2⟩ := ha'.get o _ hts
  rw [hz] at hz1; cases hz1
  rw [hz2.1]
  exact ⟨(upd_same _ _ _).symm, rfl⟩
theorem Sees.adoptA (k : Nat) (α : Type) (ec : Nat) (c : α → Nat → Cell) (e : TypeId) {kb o : Nat} {e' : TypeId} {β : Type} {eb : Nat} {cb : β → Nat → Cell} {xs : List β} {p : Nat} {ts : List TC} (hb : getO ob kb = some (.growA e' β eb cb xs p ts)) (hts : ts[o]? = some (.p (.v (.slice none 0 0)))) (hf : (frFree k fr && obFree k ob) = true) :
    Sees P nt fr ob fr ((kb, .growA e' β eb cb xs p (ts.set o (.mut k))) :: (k, .grow e α ec c []) :: ob) := by
  simp only [Bool.and_eq_true] at hf
  obtain ⟨h1, h2⟩ := hf
  obtain ⟨h4, h5, hp⟩ := ob_free h2
  intro S G a w hn h
  have h6 := h.new hp (o := .grow e α ec c []) (u := .slice none 0 0) (w1 := w) h5 (Below.refl _ _) (fun b hb => by simp [blk] at hb) ⟨[], World.ownsRow_nil w _ _ _, by simp, fun i hi => absurd hi (by simp)⟩
  rw [fr_free h1, h4] at h6
  have hkb : k ≠ kb := fun he => by rw [he, hb] at h5; cases h5
  have hb' : getO ((k, Ob.grow e α ec c []) :: ob) kb = some (.growA e' β eb cb xs p ts) := by rw [getO_cons_other hkb]; exact hb
  refine ⟨_, h6.retold hb' (fun b i ho => ⟨ho.1, trivial⟩) ?_⟩
  rintro rd ⟨vs, hown, hlen, hp', htl, hc, ha⟩
  refine ⟨vs, hown, hlen, hp', by simpa using htl, hc, All2.setL o (fun z hz => ?_) ha⟩
  obtain ⟨z', hz1, hz2⟩ := ha.get o _ hts
  rw [hz] at hz1; cases hz1
  rw [hz2.1]
  exact ⟨(upd_same _ _ _).symm, rfl⟩
end
end Go.AL
namespace Go.AL
open Go Go.RowKit
set_option linter.unusedVariables false
section
variable {P : Program} {nt : Nat} {fr : Fr} {ob : Obs} {dst : Option Tmp} {ty : TypeId} {pos : String} {af : Array Edge} {gd : Option (Nat × Bool)}
end
end Go.AL
namespace Go.AL
open Go Go.RowKit
set_option linter.unusedVariables false
section
variable {P : Program} {fr : Fr} {ob : Obs}
end
end Go.AL
namespace Go.AL
open Go Go.RowKit
set_option linter.unusedVariables false
section
variable {P : Program} {nt : Nat} {fr : Fr} {ob : Obs} {dst : Option Tmp} {ty : TypeId} {pos : String} {af : Array Edge} {gd : Option (Nat × Bool)}
end
end Go.AL
namespace Go.AL
open Go Go.RowKit
set_option linter.unusedVariables false
def TC.refs : TC → List Nat
  | .buf k _ _ _ _ => [k]
  | .ref k _ => [k]
  | .mut k => [k]
  | .mref k _ _ _ => [k]
  | .msl k _ _ _ => [k]
  | .clo _ nf nc => nf.map (·.1) ++ nc.map (·.1)
  | _ => []
def S1.refs : S1 → List Nat
  | .one t => t.refs
  | .agg ts => ts.flatMap TC.refs
def SV.refs : SV → List Nat
  | .s x => x.refs
  | .tup l => l.flatMap S1.refs
  | _ => []
def Ob.refs : Ob → List Nat
  | .box ts => ts.flatMap TC.refs
  | .tbx _ ts => ts.flatMap TC.refs
  | .tarr _ _ ts => ts.flatMap TC.refs
  | .growA _ _ _ _ _ _ ts => ts.flatMap TC.refs
  | .growT _ _ _ ts => ts.flatMap TC.refs
  | _ => []
def frRefs : Fr → List Nat
  | [] => []
  | (_, s) :: r => s.refs ++ frRefs r
def obRefs : Obs → List Nat
  | [] => []
  | (_, o) :: r => o.refs ++ obRefs r
theorem refAt_congr {G G' : Gh} : ∀ {l : List (Nat × Nat)} {us : List Value}, (∀ k ∈ l.map (·.1), G' k = G k) → All2 (RefAt G) l us → All2 (RefAt G') l us
  | [], [], _, _ => trivial
  | [], _ :: _, _, h => h.elim
  | _ :: _, [], _, h => h.elim
  | p :: l, u :: us, hk, h => by
    obtain ⟨⟨b, h1, h2⟩, h3⟩ := h
    exact ⟨⟨b, by rw [hk p.1 (by simp)]; exact h1, h2⟩, refAt_congr (fun k hm => hk k (by simp at hm ⊢; exact .inr hm)) h3⟩
theorem TC.rep_congr {rd : Rd} {G G' : Gh} : ∀ {t : TC} {u : Value}, (∀ k ∈ t.refs, G' k = G k) → t.rep rd G u → t.rep rd G' u
  | .p _, _, _, h => h
  | .eref _ _ _ _ _, _, _, h => h
  | .any, _, _, h => h
  | .full _ _ _ _, _, _, h => h
  | .buf k _ _ _ _, _, hk, h => ⟨by rw [hk k (by simp [TC.refs])]; exact h.1, h.2⟩
  | .ref k _, _, hk, h => by simp only [TC.rep]; rw [hk k (by simp [TC.refs])]; exact h
  | .mut k, _, hk, h => by simp only [TC.rep]; rw [hk k (by simp [TC.refs])]; exact h
  | .mref k _ _ _, _, hk, h => by simp only [TC.rep]; rw [hk k (by simp [TC.refs])]; exact h
  | .msl k _ _ _, _, hk, h => by simp only [TC.rep]; rw [hk k (by simp [TC.refs])]; exact h
  | .clo _ nf nc, _, hk, ⟨vs, ws, h1, h2, h3⟩ => ⟨vs, ws, h1, refAt_congr (fun k hm => hk k (by simp only [TC.refs, List.mem_append]; exact .inl hm)) h2, refAt_congr (fun k hm => hk k (by simp only [TC.refs, List.mem_append]; exact .inr hm)) h3⟩
theorem all2_congr {rd : Rd} {G G' : Gh} : ∀ {ts : List TC} {vs : List Value}, (∀ k ∈ ts.flatMap TC.refs, G' k = G k) → All2 (TC.rep rd G) ts vs → All2 (TC.rep rd G') ts vs
  | [], [], _, _ => trivial
  | [], _ :: _, _, h => h.elim
  | _ :: _, [], _, h => h.elim
  | t :: ts, v :: vs, hs, h => ⟨TC.rep_congr (fun k hm => hs k (by rw [List.flatMap_cons]; exact List.mem_append.2 (.inl hm))) h.1, all2_congr (fun k hm => hs k (by rw [List.flatMap_cons]; exact List.mem_append.2 (.inr hm))) h.2⟩
theorem S1.rep_congr {rd : Rd} {G G' : Gh} : ∀ {t : S1} {u : Value}, (∀ k ∈ t.refs, G' k = G k) → t.rep rd G u → t.rep rd G' u
  | .one t, u, hs, h => TC.rep_congr (t := t) hs h
  | .agg ts, u, hs, ⟨vs, h1, h2⟩ => ⟨vs, h1, all2_congr hs h2⟩
theorem all2_congr1 {rd : Rd} {G G' : Gh} : ∀ {ts : List S1} {vs : List Value}, (∀ k ∈ ts.flatMap S1.refs, G' k = G k) → All2 (S1.rep rd G) ts vs → All2 (S1.rep rd G') ts vs
  | [], [], _, _ => trivial
  | [], _ :: _, _, h => h.elim
  | _ :: _, [], _, h => h.elim
  | t :: ts, v :: vs, hs, h => ⟨S1.rep_congr (fun k hm => hs k (by rw [List.flatMap_cons]; exact List.mem_append.2 (.inl hm))) h.1, all2_congr1 (fun k hm => hs k (by rw [List.flatMap_cons]; exact List.mem_append.2 (.inr hm))) h.2⟩
theorem SV.rep_congr {rd : Rd} {G G' : Gh} : ∀ {t : SV} {u : Value}, (∀ k ∈ t.refs, G' k = G k) → t.rep rd G u → t.rep rd G' u
  | .s t, u, hs, h => S1.rep_congr (t := t) hs h
  | .tup ts, u, hs, ⟨vs, h1, h2⟩ => ⟨vs, h1, all2_congr1 hs h2⟩
  | .any, _, _, _ => trivial
  | .un, _, _, h => h
theorem ObOk.congr {S : Ctx} {rd : Rd} {G G' : Gh} {w : World} {u : Value} {o : Ob} (hs : ∀ k ∈ o.refs, G' k = G k) (h : ObOk S rd G w u o) : ObOk S rd G' w u o := by
  cases o with
  | box ts => obtain ⟨b, vs, t, h1, h2, h3⟩ := h; exact ⟨b, vs, t, h1, h2, all2_congr hs h3⟩
  | tbx e ts => obtain ⟨b, vs, h1, h2, h3⟩ := h; exact ⟨b, vs, h1, h2, all2_congr hs h3⟩
  | tarr n ec ts => obtain ⟨b, vs, t, h1, h2, h3, h4, h5⟩ := h; exact ⟨b, vs, t, h1, h2, h3, h4, all2_congr hs h5⟩
  | growA e α ec c xs p ts => obtain ⟨vs, h1, h2, h3, h4, h5, h6⟩ := h; exact ⟨vs, h1, h2, h3, h4, h5, all2_congr hs h6⟩
  | growT e n ec ts => obtain ⟨vs, h1, h2, h3, h4⟩ := h; exact ⟨vs, h1, h2, h3, all2_congr hs h4⟩
  | arr α ec c xs => exact h
  | map κ kf kvs => exact h
  | spare n ec e => exact h
  | grow e α ec c xs => exact h
theorem frRefs_get : ∀ {fr : Fr} {i : Nat} {s : SV}, getF fr i = some s → ∀ k ∈ s.refs, k ∈ frRefs fr
  | [], i, s, h, _, _ => by cases h
  | (j, x) :: r, i, s, h, k, hm => by
    unfold getF at h
    unfold frRefs
    cases hb : Nat.beq j i
    · rw [hb] at h; exact List.mem_append.2 (.inr (frRefs_get h k hm))
    · rw [hb] at h; cases h; exact List.mem_append.2 (.inl hm)
theorem obRefs_get : ∀ {ob : Obs} {i : Nat} {o : Ob}, getO ob i = some o → ∀ k ∈ o.refs, k ∈ obRefs ob
  | [], i, s, h, _, _ => by cases h
  | (j, x) :: r, i, s, h, k, hm => by
    unfold getO at h
    unfold obRefs
    cases hb : Nat.beq j i
    · rw [hb] at h; exact List.mem_append.2 (.inr (obRefs_get h k hm))
    · rw [hb] at h; cases h; exact List.mem_append.2 (.inl hm)
theorem getO_apps : ∀ {a b : Obs} {k : Nat}, getO (a ++ b) k = match getO a k with | some o => some o | none => getO b k
  | [], b, k => rfl
  | (j, x) :: r, b, k => by
    show (bif Nat.beq j k then some x else getO (r ++ b) k) = (match (bif Nat.beq j k then some x else getO r k) with | some o => some o | none => getO b k)
    cases Nat.beq j k
    · exact getO_apps (a := r)
    · rfl
def newOk (rs : List S1) (ob' : Obs) (fr : Fr) (ob : Obs) : Bool :=
  (rs.flatMap S1.refs ++ obRefs ob').all (fun k => (getO ob' k).isSome) && (frRefs fr ++ obRefs ob).all (fun k => (getO ob' k).isNone) && ob.all (fun p => (getO ob' p.1).isNone)
theorem getO_mem : ∀ {ob : Obs} {k : Nat} {o : Ob}, getO ob k = some o → ∃ p ∈ ob, p.1 = k
  | [], k, o, h => by cases h
  | (j, x) :: r, k, o, h => by
    unfold getO at h
    cases hb : Nat.beq j k
    · rw [hb] at h; obtain ⟨p, h1, h2⟩ := getO_mem h; exact ⟨p, List.mem_cons_of_mem _ h1, h2⟩
    · exact ⟨_, List.mem_cons_self, by simpa using hb⟩
theorem ownsRow_low {w : World} {B B' : Nat} {e : TypeId} {ec n : Nat} {v : Value} {xs : List Value} (hB : B ≤ B') (h : w.ownsRow B' e ec v n xs) : w.ownsRow B e ec v n xs :=
  ⟨h.1, h.2.imp id fun ⟨b, cap, cur, hg, hb, r⟩ => ⟨b, cap, cur, hg, Nat.le_trans hB hb, r⟩⟩
theorem ObOk.low {S S' : Ctx} {rd : Rd} {G : Gh} {w : World} {u : Value} {o : Ob} (hB : S.B ≤ S'.B) (h : ObOk S' rd G w u o) : ObOk S rd G w u o := by
  cases o with
  | box ts => exact h
  | tbx e ts => exact h
  | tarr n ec ts => exact h
  | arr α ec c xs => exact h
  | map κ kf kvs => exact h
  | spare n ec e => obtain ⟨vs, h1⟩ := h; exact ⟨vs, ownsRow_low hB h1⟩
  | grow e α ec c xs => obtain ⟨vs, h1, h2⟩ := h; exact ⟨vs, ownsRow_low hB h1, h2⟩
  | growA e α ec c xs p ts => obtain ⟨vs, h1, h2⟩ := h; exact ⟨vs, ownsRow_low hB h1, h2⟩
  | growT e n ec ts => obtain ⟨vs, h1, h2⟩ := h; exact ⟨vs, ownsRow_low hB h1, h2⟩
section
variable {P : Program} {nt : Nat} {ops : Array Oper} {rest : List Oper} {fr : Fr} {ob : Obs} {Q : Post} {d : Nat}
theorem l_new {f : FuncId} {xs : List Operand} {ats : Array TypeId} {ty : TypeId} {pos : String} {af : Array Edge} {args : List S1} {ks : List Nat} {post : List S1 → Obs → Prop}
    (hf : Met P f args [] [] ks post) (ha : argsS fr xs = some args) (hc : xs.all constOk = true) (hst : (args.flatMap S1.refs).isEmpty = true) (hd : Nat.blt d nt = true)
    (kk : ∀ rs ob', post rs ob' → newOk rs ob' fr ob = true ∧ WpL P nt ops rest ((d, resS rs) :: fr) (ob' ++ ob) Q) : WpL P nt ops (⟨some d, .call ⟨.value (.func f), xs.toArray, ats⟩, ty, pos, af, none⟩ :: rest) fr ob Q := by
  intro S G a w hn h
  have hvals := argsS_rep h xs args ha hc
  let S' : Ctx := { S with w0 := w, M0 := fun b i => Mut S ob G b i, io := fun _ => False }
  have hSB : S'.B = w.heap.size := rfl
  have hhigh : High ([] : Fr) := fun i s hi => by cases hi
  have hgrd : Grd P (fun _ => False) w := by
    obtain ⟨wg, h1, h2, h3⟩ := h.grd
    refine ⟨wg, h1, Nat.le_trans h2 h.size, fun j hj => ?_⟩
    obtain ⟨h4, h5⟩ := h3 j hj
    exact ⟨(h.keep j (Nat.lt_of_lt_of_le hj h2) h5).trans h4, fun e => e⟩
  have hs : Sim P S' [] [] G a w := { nt := h.nt, ntb := h.ntb, defers := h.defers, os := rfl, tape := rfl, output := rfl, size := Nat.le_refl _, keep := fun _ _ _ => rfl, m0 := fun b i hm => h.mut_lt hm, m0io := fun _ _ _ e => e, grd := hgrd, pin := h.pin, old := fun _ _ _ e => (by cases e), dis := fun _ _ _ _ _ e => (by cases e), obs := fun _ _ e => (by cases e), facts := fun _ _ e => (by cases e) }
  have hrd0 : ∀ b i z, rdOf (Mut S ob G) w b i z → rdOf (Mut S' [] G) w b i z := fun b i z hr => ⟨hr.1, fun hm => hr.2 (by
    rcases hm with hm | ⟨k, o, hk, _⟩
    · exact hm
    · cases hk)⟩
  have hcalls := hf.2 hhigh S' G a w _ hs (hvals.mono fun _ _ => S1.rep_mono hrd0)
  refine wpList_plain rfl fun K hK => wp_of_does (K := fun v w' => ∃ rs ob' G', post rs ob' ∧ ResRepS (rdOf (Mut S' ob' G') w') G' rs v ∧ Sim P S' (fForgets ks []) ob' G' a w') ?_ ?_
  · have he : (execOp a.eval ⟨some d, .call ⟨.value (.func f), xs.toArray, ats⟩, ty, pos, af, none⟩).run P w = .ok (.enter f (xs.map a.eval).toArray) w := by
      have := run_callFunc (P := P) (f := f) (args := (xs.map a.eval).toArray) (w := w) hf.1
      have hm : xs.toArray.map a.eval = (xs.map a.eval).toArray := by simp
      simp only [execOp, resolve, Act.eval, Deferred.ofValue, Sem.run_bind, Sem.run_pure, Result.andThen_ok, invoke]
      rw [show (#[] : Array Value) ++ Array.map a.eval xs.toArray ++ #[] = (xs.map a.eval).toArray by rw [← hm]; simp]
      exact this
    unfold Does
    rw [he]
    refine hcalls.mono ?_
    rintro e w' ⟨v, rs, ob', G', rfl, hpost, hres, hs'⟩
    exact ⟨v, rfl, rs, ob', G', hpost, hres, hs'⟩
  · rintro v w' ⟨rs, ob', G', hp, hres, hs'⟩
    obtain ⟨hnew, hk3⟩ := kk rs ob' hp
    simp only [newOk, Bool.and_eq_true, List.all_eq_true, List.mem_append] at hnew
    obtain ⟨⟨n1, n2⟩, n3⟩ := hnew
    have hdj : ∀ {k o}, getO ob k = some o → getO ob' k = none := fun {k o} hk => by
      obtain ⟨p, p1, p2⟩ := getO_mem hk
      have := n3 p p1
      rw [p2] at this; simpa using this
    obtain ⟨H, hH⟩ : ∃ H : Gh, H = fun k => match getO ob' k with | some _ => G' k | none => G k := ⟨_, rfl⟩
    have hH1 : ∀ {k}, (getO ob' k).isSome = true → H k = G' k := fun {k} hk => by
      rw [hH]; dsimp only
      cases hg : getO ob' k with
      | none => rw [hg] at hk; cases hk
      | some o => rfl
    have hH2 : ∀ {k}, (getO ob' k).isNone = true → H k = G k := fun {k} hk => by
      rw [hH]; dsimp only
      cases hg : getO ob' k with
      | none => rfl
      | some o => rw [hg] at hk; cases hk
    have hlt : d < S.nt := by rw [hn]; simpa using hd
    have hsz : w.heap.size ≤ w'.heap.size := hs'.size
    have hkeep : ∀ k, k < w.heap.size → w'.heap[k]? = w.heap[k]? := fun k hk => hs'.keep k hk (fun e => e)
    have hold : ∀ k o b, getO ob' k = some o → blk (G' k) = some b → w.heap.size ≤ b := fun k o b h1 h2 => by
      rcases hs'.old k o b h1 h2 with h3 | h3
      · exact h3
      · exact h3.1.elim
    have hcase : ∀ {k o}, getO (ob' ++ ob) k = some o → (getO ob' k = some o ∧ H k = G' k) ∨ (getO ob k = some o ∧ H k = G k) := fun {k o} hk => by
      rw [getO_apps] at hk
      cases hg : getO ob' k with
      | some o' => rw [hg] at hk; exact .inl ⟨hk, hH1 (by rw [hg]; rfl)⟩
      | none => rw [hg] at hk; exact .inr ⟨hk, hH2 (by rw [hg]; rfl)⟩
    have hrd1 : ∀ b i z, rdOf (Mut S' ob' G') w' b i z → rdOf (Mut S (ob' ++ ob) H) w' b i z := fun b i z hr => ⟨hr.1, fun hm => hr.2 (by
      rcases hm with hm | ⟨k, o, hk, hb⟩
      · exact .inl (.inl hm)
      · rcases hcase hk with ⟨k1, e⟩ | ⟨k1, e⟩
        · rw [e] at hb; exact .inr ⟨k, o, k1, hb⟩
        · rw [e] at hb; exact .inl (.inr ⟨k, o, k1, hb⟩))⟩
    have hrd2 : ∀ b i z, rdOf (Mut S ob G) w b i z → rdOf (Mut S (ob' ++ ob) H) w' b i z := fun b i z hr => by
      have hlt : b < w.heap.size := World.block_lt_of_cell? w _ hr.1
      refine ⟨by rw [World.cell?_of_block (w := w) (a := ⟨b, i, none⟩) (hkeep b hlt)]; exact hr.1, fun hm => ?_⟩
      rcases hm with hm | ⟨k, o, hk, hb⟩
      · exact hr.2 (.inl hm)
      · rcases hcase hk with ⟨k1, e⟩ | ⟨k1, e⟩
        · rw [e] at hb; have := hold k o b k1 hb.1; omega
        · rw [e] at hb; exact hr.2 (.inr ⟨k, o, k1, hb⟩)
    have hbelow : Below w.heap.size w w' := ⟨hs'.os, hs'.tape, hs'.output, hsz, fun k hk => hkeep k hk⟩
    have hsim : Sim P S fr (ob' ++ ob) H a w' := by
      refine { nt := h.nt, ntb := h.ntb, defers := h.defers, os := hs'.os.trans h.os, tape := hs'.tape.trans h.tape, output := hs'.output.trans h.output, size := Nat.le_trans h.size hsz, keep := fun k hk hio => (hkeep k (Nat.lt_of_lt_of_le hk h.size)).trans (h.keep k hk hio), m0 := h.m0, m0io := h.m0io, grd := h.grd, pin := fun k hk => ?_, old := fun k o b h1 h2 => ?_, dis := fun k k' o o' b h1 h2 h3 h4 => ?_, obs := fun k o hk => ?_, facts := fun i s hi => ?_ }
      · cases hg : getO ob' k with
        | some o => rw [hH1 (by rw [hg]; rfl)]; exact hs'.pin k hk
        | none => rw [hH2 (by rw [hg]; rfl)]; exact h.pin k hk
      · rcases hcase h1 with ⟨k1, e⟩ | ⟨k1, e⟩
        · rw [e] at h2; exact .inl (Nat.le_trans h.size (hold k o b k1 h2))
        · rw [e] at h2; exact h.old k o b k1 h2
      · rcases hcase h1 with ⟨k1, e1⟩ | ⟨k1, e1⟩ <;> rcases hcase h2 with ⟨k2, e2⟩ | ⟨k2, e2⟩ <;> rw [e1] at h3 <;> rw [e2] at h4
        · exact hs'.dis k k' o o' b k1 k2 h3 h4
        · have := hold k o b k1 h3
          have := (h.obs k' o' k2).blk_lt _ h4
          omega
        · have := hold k' o' b k2 h4
          have := (h.obs k o k1).blk_lt _ h3
          omega
        · exact h.dis k k' o o' b k1 k2 h3 h4
      · rcases hcase hk with ⟨k1, e⟩ | ⟨k1, e⟩
        · rw [e]
          exact (((hs'.obs k o k1).low (S := S) (by rw [hSB]; exact h.size)).ext hrd1 (Below.refl _ _)).congr fun j hj => hH1 (n1 j (.inr (obRefs_get k1 j hj)))
        · rw [e]
          exact ((h.obs k o k1).ext hrd2 hbelow).congr fun j hj => hH2 (n2 j (.inr (obRefs_get k1 j hj)))
      · exact SV.rep_congr (fun j hj => hH2 (n2 j (.inl (frRefs_get hi j hj)))) (SV.rep_mono hrd2 (h.facts i s hi))
    have hres' : (resS rs).rep (rdOf (Mut S (ob' ++ ob) H) w') H v := by
      refine SV.rep_congr (fun j hj => hH1 (n1 j (.inl ?_))) (SV.rep_mono hrd1 hres)
      revert hj
      match rs with
      | [] => intro hj; cases hj
      | [r] => intro hj; simpa [resS, SV.refs] using hj
      | r :: r2 :: rest => intro hj; exact hj
    exact hK _ _ (hk3 S H _ w' hn (hsim.put hlt hres'))
end
end Go.AL
namespace Go.AL
open Go Go.RowKit
set_option linter.unusedVariables false
section
variable {P : Program} {dst : Option Tmp} {ty : TypeId} {pos : String} {af : Array Edge} {gd : Option (Nat × Bool)} {fr : Fr} {ob : Obs}
theorem e_makeCap (k : Nat) {t e : TypeId} {ec bytes : Nat} {x y : Operand} {kx ky : IntKind} {n : Int} (α : Type) (c : α → Nat → Cell) [ht : TySl P t e ec bytes]
    (hx : opv fr x = some (sVal (.int kx 0))) (hy : opv fr y = some (sVal (.int ky n))) (h0 : 0 ≤ n) (hn : n ≤ 1073741824) (hk : getO ob k = none) (hp : k < 1000000) :
    EffV P ⟨dst, .makeSlice t x y, ty, pos, af, gd⟩ fr ob (.s (.one (.buf k α ec c []))) (Fr.forget k fr) ((k, .spare 0 ec e) :: Obs.forget k ob) := by
  intro S G a w h
  obtain ⟨hts, hinfo, hec, hby, hzero⟩ := ht.out
  cases hi : P.info? e with
  | none => simp [hi] at hinfo
  | some i =>
  simp [hi] at hinfo
  obtain ⟨hsz, hbytes⟩ := hinfo
  cases hzz : i.zero with
  | none => simp [hi, hzz] at hzero
  | some z =>
  simp [hi, hzz] at hzero
  have hbig : (i.bytes : Int) * n ≤ 281474976710656 := by
    have h1 : (i.bytes : Int) ≤ 4096 := by omega
    have h2 : (i.bytes : Int) * n ≤ 4096 * 1073741824 := by
      have : i.bytes * n.toNat ≤ 4096 * 1073741824 := Nat.mul_le_mul (by omega) (by omega)
      have h3 : ((i.bytes * n.toNat : Nat) : Int) ≤ ((4096 * 1073741824 : Nat) : Int) := by exact_mod_cast this
      rw [Int.natCast_mul] at h3
      have h4 : (n.toNat : Int) = n := by omega
      rw [h4] at h3
      omega
    omega
  have hr := run_make (P := P) w t e i z hts hi hzz kx ky 0 n (Int.le_refl _) h0 hbig (by omega)
  rw [hsz] at hr
  refine does_of_run (w' := w.alloc (.cells (madeCells z.cells (n.toNat * ec)) e)) (v := .slice (some ⟨w.heap.size, 0, none⟩) 0 n.toNat) ?_ ?_
  · simp only [execOp, opv_val h hx, opv_val h hy]
    exact run_v hr
  · have hxw : Below w.heap.size w (w.alloc (.cells (madeCells z.cells (n.toNat * ec)) e)) := (Below.refl _ _).alloc (Nat.le_refl _) _
    have hu : ∀ b, blk (.slice (some ⟨w.heap.size, 0, none⟩) 0 n.toNat) = some b → w.heap.size ≤ b := by intro b hb; simp [blk] at hb; omega
    have hown : (w.alloc (.cells (madeCells z.cells (n.toNat * ec)) e)).ownsRow S.B e ec (.slice (some ⟨w.heap.size, 0, none⟩) 0 n.toNat) 0 [] := World.ownsRow_made w _ _ h.size (by unfold maxLen; omega) (size_madeCells _ _)
    refine ⟨upd G k (.slice (some ⟨w.heap.size, 0, none⟩) 0 n.toNat), h.new hp hk (o := .spare 0 ec e) hxw hu ⟨[], hown⟩, (upd_same _ _ _).symm, ?_⟩
    simp only [Cell.rep]
    exact ⟨_, _, rfl, ⟨Nat.zero_le _, fun h => by cases h⟩, (show (0 : Nat) < 4611686018427387904 by decide), .inl rfl⟩
theorem f_makeCap (k : Nat) {t e : TypeId} {ec bytes : Nat} {x y : Operand} {kx ky : IntKind} {n : Int} (α : Type) (c : α → Nat → Cell) [ht : TySl P t e ec bytes]
    (hx : opv fr x = some (sVal (.int kx 0))) (hy : opv fr y = some (sVal (.int ky n))) (h0 : 0 ≤ n) (hn : n ≤ 1073741824) (hf : (frFree k fr && obFree k ob) = true) :
    EffV P ⟨dst, .makeSlice t x y, ty, pos, af, gd⟩ fr ob (.s (.one (.buf k α ec c []))) fr ((k, .spare 0 ec e) :: ob) := by
  simp only [Bool.and_eq_true] at hf
  obtain ⟨h1, h2⟩ := hf
  obtain ⟨h4, h5, hp⟩ := ob_free h2
  have := e_makeCap (P := P) (dst := dst) (ty := ty) (pos := pos) (af := af) (gd := gd) (fr := fr) (ht := ht) k α c hx hy h0 hn h5 hp
  rwa [fr_free h1, h4] at this
end
end Go.AL
namespace Go.AL
open Go Go.RowKit
set_option linter.unusedVariables false
section
variable {P : Program} {nt : Nat} {ops : Array Oper} {rest : List Oper} {fr : Fr} {ob : Obs} {Q : Post} {d : Nat}
end
end Go.AL
namespace Go.AL
open Go Go.RowKit
set_option linter.unusedVariables false
section
variable {P : Program} {nt : Nat} {ops : Array Oper}
def StepG (P : Program) (nt : Nat) (ops : Array Oper) (o : Oper) (φ : Fa) (ob : Obs) (K : Fa → Obs → Prop) : Prop :=
  Wanted ops φ o true ∧ ∀ S G a w, S.nt = nt → SimF P S φ ob G a w → Does P o a w (fun v w' => ∃ φ' ob' G', K φ' ob' ∧ SimF P S φ' ob' G' (a.put o.dst v) w')
def StepTG (P : Program) (nt : Nat) (ops : Array Oper) (T i : Nat) (φ : Fa) (ob : Obs) (K : Fa → Obs → Prop) : Prop :=
  ∃ o, ops[i]? = some o ∧ cond (tn T i o) (StepG P nt ops o φ ob K) (∃ s d, o.dst = some d ∧ YieldsN P nt ops o φ ob s ∧ K (putF φ d s) ob)
def AnyTG (P : Program) (nt : Nat) (ops : Array Oper) (T : Nat) (K : Fa → Obs → Prop) : Nat → Array Bool → Fa → Obs → Prop
  | 0, listed, φ, ob => Region.ready .any ops listed = [] ∧ K φ ob
  | fuel + 1, listed, φ, ob => (Region.ready .any ops listed = [] → K φ ob) ∧ ∀ i ∈ Region.ready .any ops listed, StepTG P nt ops T i φ ob (AnyTG P nt ops T K fuel (listed.setIfInBounds i true))
theorem anyTG_sound {T : Nat} {K : Fa → Obs → Prop} {S : Ctx} {Q : Exit → Act → World → Prop} (hn : S.nt = nt) (hdst : ∀ (j t : Nat), (ops[j]?).bind (fun o => o.dst) = some t → t < nt) (hK : ∀ φ ob G a w, K φ ob → SimF P S φ ob G a w → Q .normal a w) :
    ∀ (fuel : Nat) (listed : Array Bool) (φ : Fa) (ob : Obs) (G : Gh) (a : Act) (w : World), AnyTG P nt ops T K fuel listed φ ob → SimF P S φ ob G a w → wpAny P .any ops Q fuel listed a w
  | 0, _, φ, ob, G, a, w, h, hs => ⟨h.1, hK φ ob G a w h.2 hs⟩
  | fuel + 1, listed, φ, ob, G, a, w, h, hs => by
    refine ⟨fun h0 => hK φ ob G a w (h.1 h0) hs, fun i hi => ?_⟩
    obtain ⟨o, ho, hstep⟩ := h.2 i hi
    unfold wpOp
    simp only [ho]
    cases ht : tn T i o with
    | true =>
      rw [ht] at hstep
      obtain ⟨hg, hstep⟩ := hstep
      rw [if_pos (wanted_of hn hs hg hdst)]
      refine .inl (wp_of_does (hstep S G a w hn hs) ?_)
      rintro v w' ⟨φ', ob', G', hK', hs'⟩
      exact anyTG_sound hn hdst hK fuel _ φ' ob' G' _ w' hK' hs'
    | false =>
      rw [ht] at hstep
      obtain ⟨s, d, hd, ⟨d', hd', hlt, hy⟩, hK'⟩ := hstep
      rw [hd] at hd'; cases hd'
      rcases hy with ⟨hw, fr0, hfr, hneu⟩ | ⟨hw, rfl⟩
      · rw [wanted_of hn hs hw hdst, if_pos rfl]
        refine .inl (wp_of_does (hneu S G a w (hs.sub fun i s hi => (hfr i s hi).1)) ?_)
        rintro v w' ⟨hx, s', rfl, hv⟩
        rw [hd]
        exact anyTG_sound hn hdst hK fuel _ _ ob G _ w' hK' ((hs.ext hx).put (by rw [hn]; exact hlt) hv)
      · rw [wanted_of hn hs hw hdst, if_neg (by simp), hd]
        exact anyTG_sound hn hdst hK fuel _ _ ob G _ w hK' (hs.put (by rw [hn]; exact hlt) rfl)
theorem anyTG_of {T : Nat} {K : Fa → Obs → Prop} : ∀ (fuel : Nat) (listed : Array Bool) (φ : Fa) (ob : Obs), listed.getD T false = true → AnyD P nt ops K fuel listed φ ob → AnyTG P nt ops T K fuel listed φ ob
  | 0, _, _, _, _, h => h
  | fuel + 1, listed, φ, ob, hT, h => by
    refine ⟨h.1, fun i hi => ?_⟩
    obtain ⟨o, ho, hstep⟩ := h.2 i hi
    have hiT : i ≠ T := fun e => by subst e; have := ready_unlisted hi; rw [hT] at this; cases this
    have hnext : (listed.setIfInBounds i true).getD T false = true := by
      simp only [Array.getD_eq_getD_getElem?] at hT ⊢
      rwa [Array.getElem?_setIfInBounds_ne hiT]
    refine ⟨o, ho, ?_⟩
    have ht : tn T i o = turns o.op := by unfold tn; rw [beq_no hiT]; rfl
    rw [ht]
    cases htn : turns o.op with
    | true =>
      rw [htn] at hstep
      refine ⟨by unfold Wanted; rw [hstep.1], fun S G a w hn hs => ?_⟩
      have hd := hstep.2 S G a w hn hs
      unfold Does at hd ⊢
      have imp : ∀ v w', (∃ φ' ob' G', AnyD P nt ops K fuel (listed.setIfInBounds i true) φ' ob' ∧ SimF P S φ' ob' G' (a.put o.dst v) w') → (∃ φ' ob' G', AnyTG P nt ops T K fuel (listed.setIfInBounds i true) φ' ob' ∧ SimF P S φ' ob' G' (a.put o.dst v) w') := by
        rintro v w' ⟨φ', ob', G', hA, hs'⟩
        exact ⟨_, ob', G', anyTG_of fuel _ _ _ hnext hA, hs'⟩
      generalize (execOp a.eval o).run P w = r at *
      cases r with
      | ok n w' =>
        cases n <;> simp only at hd ⊢ <;> try exact hd.elim
        case value v => exact imp _ _ hd
        case skip => exact imp _ _ hd
        case enter f args => exact hd.mono fun e w'' ⟨v, he, hv⟩ => ⟨v, he, imp _ _ hv⟩
      | halt x w' => exact hd
    | false =>
      rw [htn] at hstep
      obtain ⟨s, d, hd, hy, HK⟩ := hstep
      exact ⟨s, d, hd, hy, anyTG_of fuel _ _ _ hnext HK⟩
theorem anyTG_first {T : Nat} {K : Fa → Obs → Prop} {i d : Nat} {oi : Oper} {s : SV} (hi : ops[i]? = some oi) (hti : tn T i oi = false) (hdi : oi.dst = some d) :
    ∀ (fuel : Nat) (listed : Array Bool) (φ : Fa) (ob : Obs), Closed ops listed →
      (∀ j oj, ops[j]? = some oj → j ≠ i → listed.getD j true = false → tn T j oj = true → Bef ops j i = true) →
      (∀ j oj, ops[j]? = some oj → j ≠ i → listed.getD j true = false → tn T j oj = false → (∃ e ∈ oj.after.toList, Region.binds .any e = true ∧ e.on = i) ∨ apartB ops oi oj = true) →
      i ∈ Region.ready .any ops listed → YieldsN P nt ops oi φ ob s →
      AnyTG P nt ops T K fuel (listed.setIfInBounds i true) (putF φ d s) ob → AnyTG P nt ops T K (fuel + 1) listed φ ob := by
  have hself : ∀ (fuel : Nat) (listed : Array Bool) (φ : Fa) (ob : Obs), YieldsN P nt ops oi φ ob s → AnyTG P nt ops T K fuel (listed.setIfInBounds i true) (putF φ d s) ob → StepTG P nt ops T i φ ob (AnyTG P nt ops T K fuel (listed.setIfInBounds i true)) := by
    intro fuel listed φ ob hy H
    exact ⟨oi, hi, by rw [hti]; exact ⟨s, d, hdi, hy, H⟩⟩
  intro fuel
  induction fuel with
  | zero =>
    intro listed φ ob hc hE hN hr hy H
    refine ⟨fun h => (by rw [h] at hr; cases hr), fun j hj => ?_⟩
    by_cases hji : j = i
    · subst hji; exact hself 0 listed φ ob hy H
    · have := ready_mono hj hji
      rw [H.1] at this
      cases this
  | succ fuel ih =>
    intro listed φ ob hc hE hN hr hy H
    refine ⟨fun h => (by rw [h] at hr; cases hr), fun j hj => ?_⟩
    by_cases hji : j = i
    · subst hji; exact hself (fuel + 1) listed φ ob hy H
    · obtain ⟨hjun, oj, hoj, hall⟩ := mem_ready.1 hj
      have hiun := ready_unlisted hr
      cases htj : tn T j oj with
      | true =>
        have hb := hE j oj hoj hji hjun htj
        have := bef_listed hc j hb (fun o ho e he hbd => by rw [hoj] at ho; cases ho; exact hall e (Array.mem_toList_iff.1 he) hbd)
        rw [hiun] at this; cases this
      | false =>
        have hap : apartB ops oi oj = true := by
          rcases hN j oj hoj hji hjun htj with ⟨e, he, hbd, hon⟩ | h
          · have := hall e (Array.mem_toList_iff.1 he) hbd
            rw [hon] at this
            have h2 : listed.getD i false = true := this
            rw [hiun] at h2; cases h2
          · exact h
        obtain ⟨o', ho', hstep⟩ := H.2 j (ready_mono hj hji)
        rw [hoj] at ho'; cases ho'
        rw [htj] at hstep
        obtain ⟨sj, dj, hdj, hyj, HK⟩ := hstep
        simp only [apartB, hdi, hdj, Bool.and_eq_true, Bool.not_eq_true', List.contains_eq_mem, decide_eq_false_iff_not] at hap
        obtain ⟨⟨h1, h2⟩, h3⟩ := hap
        have h3 : d ≠ dj := fun e => by subst e; simp at h3
        refine ⟨oj, hoj, by
          rw [htj]
          refine ⟨sj, dj, hdj, hyj.unput h1, ?_⟩
          refine ih (listed.setIfInBounds j true) _ ob (closed_set hc hj) ?_ ?_ (ready_mono hr (Ne.symm hji)) (hy.put h2) ?_
          · intro k ok hk hki hun htk
            refine hE k ok hk hki ?_ htk
            by_cases hjk : j = k
            · subst hjk; exact hjun
            · rwa [getD_set_ne true hjk] at hun
          · intro k ok hk hki hun htk
            refine hN k ok hk hki ?_ htk
            by_cases hjk : j = k
            · subst hjk; exact hjun
            · rwa [getD_set_ne true hjk] at hun
          · rw [Array.setIfInBounds_comm _ _ hji, ← putF_comm h3]
            exact HK⟩
theorem anyTG_lex {T fuel : Nat} {K : Fa → Obs → Prop} {E : Fr → Obs → Prop} : ∀ (l : List Oper) (k : Nat) (listed : Array Bool) (fr : Fr) (ob : Obs), (∀ j, j < l.length → l[j]? = ops[k + j]?) → Closed ops listed → lexOkT ops T l.length k listed = true →
    (∀ fr ob, Closed ops (listN l.length k listed) → E fr ob → AnyTG P nt ops T K fuel (listN l.length k listed) (getF fr) ob) → LexD P nt ops E l fr ob → AnyTG P nt ops T K (fuel + l.length) listed (getF fr) ob
  | [], k, listed, fr, ob, hl, hc, hB, hE, h => hE fr ob hc h
  | o :: l, k, listed, fr, ob, hl, hc, hB, hE, h => by
    have h0 : ops[k]? = some o := by simpa using (hl 0 (by simp)).symm
    simp only [List.length_cons, lexOkT, h0, Bool.and_eq_true, Bool.not_eq_true'] at hB
    obtain ⟨⟨⟨hr, hnt⟩, hf⟩, hB'⟩ := hB
    have hr' : k ∈ Region.ready .any ops listed := by simpa using hr
    have hl' : ∀ j, j < l.length → l[j]? = ops[k + 1 + j]? := fun j hj => by have := hl (j + 1) (by simpa using hj); simpa [Nat.add_assoc, Nat.add_comm 1 j] using this
    have ht : turns o.op = false := by
      cases hto : turns o.op
      · rfl
      · simp [tn, hto] at hnt
    simp only [LexD] at h
    rw [ht] at h
    simp only [cond] at h
    obtain ⟨s, d, hd, hy, hL⟩ := h
    have hall : ∀ j oj, ops[j]? = some oj → j ≠ k → listed.getD j true = false → cond (tn T j oj) (Bef ops j k) (oj.after.toList.any (fun e => Region.binds .any e && Nat.beq e.on k) || apartB ops o oj) = true := by
      intro j oj hoj hjk hun
      have hlt : j < ops.size := (Array.getElem?_eq_some_iff.1 hoj).1
      have := List.all_eq_true.1 hf j (List.mem_range.2 hlt)
      rw [beq_no hjk, hun, hoj] at this
      simp only [Bool.false_or] at this
      exact this
    show AnyTG P nt ops T K (fuel + (l.length + 1)) listed (getF fr) ob
    rw [← Nat.add_assoc]
    refine anyTG_first h0 hnt hd (fuel + l.length) listed _ ob hc ?_ ?_ hr' hy ?_
    · intro j oj hoj hjk hun htj
      have := hall j oj hoj hjk hun
      rw [htj] at this; exact this
    · intro j oj hoj hjk hun htj
      have := hall j oj hoj hjk hun
      rw [htj] at this
      simp only [cond, Bool.or_eq_true, List.any_eq_true, Bool.and_eq_true] at this
      rcases this with ⟨e, he, hb, hon⟩ | h
      · exact .inl ⟨e, he, hb, Nat.eq_of_beq_eq_true hon⟩
      · exact .inr h
    · rw [← getF_cons_putF]
      exact anyTG_lex l (k + 1) _ _ ob hl' (closed_set hc hr') hB' hE hL
theorem c_region_turnG {id : Nat} {l : List Oper} (n : Nat) {oc : Oper} {fr : Fr} {ob : Obs} {Q : Post} (hm : P.follows .mixedOrders = true) (hB : turnOk nt l n = true) (hc : l[n]? = some oc)
    (h : LexD P nt l.toArray (fun fr ob => StepG P nt l.toArray oc (getF fr) ob (fun φ' ob' => ∃ fr', φ' = getF fr' ∧ LexD P nt l.toArray (fun fr ob => Q .normal fr ob) (l.drop (n + 1)) fr' ob')) (l.take n) fr ob) : WpC P nt (.region id l.toArray true) fr ob Q := by
  intro S G a w hn hs
  unfold turnOk at hB
  simp only [Bool.and_eq_true] at hB
  obtain ⟨⟨⟨⟨⟨⟨⟨b1, b2⟩, b3⟩, b4⟩, b5⟩, b6⟩, b13⟩, b14⟩ := hB
  have hlen : n + 1 ≤ l.length := Nat.le_of_ble_eq_true b3
  have htl : (l.take n).length = n := Nat.eq_of_beq_eq_true b4
  have hdst : ∀ (j t : Nat), (l.toArray[j]?).bind (fun o => o.dst) = some t → t < nt := by
    intro j t ht
    cases ho : l.toArray[j]? with
    | none => simp [ho] at ht
    | some o =>
      simp [ho] at ht
      have hmem : o ∈ l := by
        rw [List.getElem?_toArray] at ho
        exact List.mem_of_getElem? ho
      have := List.all_eq_true.1 b2 o (by simpa using hmem)
      rw [ht] at this
      simpa using this
  refine wp_region_any hm ?_
  have hcl : Closed l.toArray (Array.replicate l.length false) := by
    intro j o ho hl
    simp only [Array.getD_eq_getD_getElem?] at hl
    rcases Nat.lt_or_ge j l.length with h' | h'
    · simp [h'] at hl
    · simp [h'] at hl
  have hoc : l.toArray[n]? = some oc := by rw [List.getElem?_toArray]; exact hc
  have htnc : tn n n oc = true := by unfold tn; rw [Nat.beq_refl]; rfl
  have key : AnyTG P nt l.toArray n (fun φ ob => ∃ fr', φ = getF fr' ∧ Q .normal fr' ob) ((l.drop (n + 1)).length + 1 + (l.take n).length) (Array.replicate l.length false) (getF fr) ob := by
    refine anyTG_lex (l.take n) 0 _ fr ob (fun j hj => ?_) hcl (by rw [htl]; exact b1) (fun fr ob hcl2 hE => ?_) h
    · rw [Nat.zero_add, List.getElem?_toArray, List.getElem?_take_of_lt (by rw [htl] at hj; exact hj)]
    · rw [htl] at hcl2 ⊢
      have r6 : n ∈ Region.ready .any l.toArray (listN n 0 (Array.replicate l.length false)) := by simpa using b6
      have hcl3 := closed_set hcl2 r6
      refine ⟨fun he => (by rw [he] at r6; cases r6), fun j hjr => ?_⟩
      have hjn : j = n := Nat.eq_of_beq_eq_true (List.all_eq_true.1 b5 j hjr)
      subst hjn
      refine ⟨oc, hoc, ?_⟩
      rw [htnc]
      refine ⟨hE.1, fun S G a w hn hs => does_imp (hE.2 S G a w hn hs) ?_⟩
      rintro v w' ⟨φ', ob', G', ⟨fr', rfl, hL⟩, hs'⟩
      exact ⟨_, ob', G', anyTG_of _ _ _ _ b13 (anyD_lex (l.drop (j + 1)) (j + 1) _ fr' ob' (fun i => by rw [List.getElem?_drop, List.getElem?_toArray]) hcl3 b14 hL), hs'⟩
  have hx : Below w.heap.size w { w with drawn := w.drawn + 1 } := ⟨rfl, rfl, rfl, Nat.le_refl _, fun _ _ => rfl⟩
  have hs' : SimF P S (getF fr) ob G a { w with drawn := w.drawn + 1 } := (simF_iff.2 hs).ext hx
  have := anyTG_sound (Q := PostOf P S Q) hn hdst (fun φ ob' G' a' w' ⟨fr', he, hq⟩ hsf => ⟨fr', ob', G', hq, simF_iff.1 (he ▸ hsf)⟩) _ _ _ ob G a _ key hs'
  have hfuel : (l.drop (n + 1)).length + 1 + (l.take n).length = l.length := by rw [List.length_drop, htl]; omega
  rw [hfuel] at this
  simpa using this
theorem stepG_run {op : Op} {ty : TypeId} {pos : String} {af : Array Edge} {d j t : Nat} {b x : Bool} {fr : Fr} {ob : Obs} {K : Fa → Obs → Prop} (ht : (ops[j]?).bind (·.dst) = some t) (hx : getF fr t = some (.s (.one (.p (.v (.bool x)))))) (hb : x = b)
    (h : StepE P nt ops ⟨some d, op, ty, pos, af, none⟩ (getF fr) ob K) : StepG P nt ops ⟨some d, op, ty, pos, af, some (j, b)⟩ (getF fr) ob K :=
  ⟨⟨t, _, ht, hx, by have := Wants.val (b := b) x; rwa [show (x == b) = true by simp [hb]] at this⟩, h.2⟩
end
end Go.AL
namespace Go.AL
open Go Go.RowKit
set_option linter.unusedVariables false
section
variable {P : Program} {nt : Nat} {ops : Array Oper} {rest : List Oper} {fr : Fr} {ob : Obs} {K : Fr → Obs → Prop} {d : Nat}
theorem d_go {op : Op} {ty : TypeId} {pos : String} {af : Array Edge} {j t : Nat} {b x : Bool} (hj : (ops[j]?).bind (·.dst) = some t) (hx : getF fr t = some (.s (.one (.p (.v (.bool x)))))) (hb : x = b) (ht : turns op = false)
    (k : LexD P nt ops K (⟨some d, op, ty, pos, af, none⟩ :: rest) fr ob) : LexD P nt ops K (⟨some d, op, ty, pos, af, some (j, b)⟩ :: rest) fr ob := by
  simp only [LexD, ht, cond] at k ⊢
  obtain ⟨s, e, he, ⟨e', he', hlt, hy⟩, hL⟩ := k
  have hw : Wanted ops (getF fr) (⟨some d, op, ty, pos, af, some (j, b)⟩ : Oper) true := ⟨t, _, hj, hx, by have := Wants.val (b := b) x; rwa [show (x == b) = true by simp [hb]] at this⟩
  rcases hy with ⟨_, fr0, h1, h2⟩ | ⟨hw2, _⟩
  · exact ⟨s, e, he, ⟨e', he', hlt, .inl ⟨hw, fr0, fun i q hi => ⟨(h1 i q hi).1, List.mem_append.2 (.inr (by
      have := (h1 i q hi).2
      unfold uses at this
      simpa [guardT] using this))⟩, h2⟩⟩, hL⟩
  · unfold Wanted at hw2; cases hw2
end
end Go.AL
namespace Go.AL
open Go Go.RowKit
set_option linter.unusedVariables false
section
variable {P : Program} {nt : Nat} {fr : Fr} {ob : Obs} {dst : Option Tmp} {ty : TypeId} {pos : String} {af : Array Edge} {gd : Option (Nat × Bool)}
end
end Go.AL
namespace Go.AL
open Go Go.RowKit
set_option linter.unusedVariables false
section
variable {P : Program} {nt : Nat} {fr : Fr} {ob : Obs} {dst : Option Tmp} {ty : TypeId} {pos : String} {af : Array Edge} {gd : Option (Nat × Bool)}
end
end Go.AL
namespace Go.AL
open Go Go.RowKit
set_option linter.unusedVariables false
section
variable {P : Program} {nt : Nat} {fr gf : Fr} {ob : Obs}
theorem TC.forget_comm (k q : Nat) (t : TC) : (t.forget q).forget k = (t.forget k).forget q := by
  cases t with
  | p c => rfl
  | buf k' α ec c xs => cases hb : Nat.beq k' k <;> cases hq : Nat.beq k' q <;> simp [TC.forget, hb, hq]
  | ref k' o => cases hb : Nat.beq k' k <;> cases hq : Nat.beq k' q <;> simp [TC.forget, hb, hq]
  | eref α ec c x o => rfl
  | «mut» k' => cases hb : Nat.beq k' k <;> cases hq : Nat.beq k' q <;> simp [TC.forget, hb, hq]
  | mref k' ec i o => cases hb : Nat.beq k' k <;> cases hq : Nat.beq k' q <;> simp [TC.forget, hb, hq]
  | any => rfl
  | clo f nf nc => cases hb : (anyK k nf || anyK k nc) <;> cases hq : (anyK q nf || anyK q nc) <;> simp [TC.forget, hb, hq]
  | msl k' ec o n => cases hb : Nat.beq k' k <;> cases hq : Nat.beq k' q <;> simp [TC.forget, hb, hq]
  | full α ec c xs => rfl
theorem S1.forget_comm (k q : Nat) (s : S1) : (s.forget q).forget k = (s.forget k).forget q := by
  cases s with
  | one t => simp only [S1.forget, TC.forget_comm k q t]
  | agg ts => simp only [S1.forget, List.map_map]; congr 1; exact List.map_congr_left fun t _ => TC.forget_comm k q t
theorem SV.forget_comm (k q : Nat) (s : SV) : (s.forget q).forget k = (s.forget k).forget q := by
  cases s with
  | s x => simp only [SV.forget, S1.forget_comm k q x]
  | tup l => simp only [SV.forget, List.map_map]; congr 1; exact List.map_congr_left fun t _ => S1.forget_comm k q t
  | any => rfl
  | un => rfl
theorem Fr.forget_comm (k q : Nat) (fr : Fr) : Fr.forget k (Fr.forget q fr) = Fr.forget q (Fr.forget k fr) := by
  unfold Fr.forget
  rw [List.map_map, List.map_map]
  exact List.map_congr_left fun p _ => by simp only [Function.comp]; rw [SV.forget_comm]
end
end Go.AL
namespace Go.AL
open Go Go.RowKit
set_option linter.unusedVariables false
section
variable {P : Program} {nt : Nat} {fr : Fr} {ob : Obs}
def TC.ren (j k : Nat) : TC → TC
  | .buf k' α ec c xs => cond (Nat.beq k' j) (.buf k α ec c xs) (.buf k' α ec c xs)
  | .ref k' off => cond (Nat.beq k' j) (.ref k off) (.ref k' off)
  | .mut k' => cond (Nat.beq k' j) (.mut k) (.mut k')
  | .mref k' ec i off => cond (Nat.beq k' j) (.mref k ec i off) (.mref k' ec i off)
  | .msl k' ec off n => cond (Nat.beq k' j) (.msl k ec off n) (.msl k' ec off n)
  | t => t
def Ob.ren (j k : Nat) : Ob → Ob
  | .box ts => .box (ts.map (TC.ren j k))
  | .tbx e ts => .tbx e (ts.map (TC.ren j k))
  | .tarr n ec ts => .tarr n ec (ts.map (TC.ren j k))
  | .growA e α ec c xs p ts => .growA e α ec c xs p (ts.map (TC.ren j k))
  | .growT e n ec ts => .growT e n ec (ts.map (TC.ren j k))
  | o => o
theorem TC.rep_ren {rd : Rd} {G : Gh} {j k : Nat} (hG : G k = G j) : ∀ {t : TC} {u : Value}, t.rep rd G u → (t.ren j k).rep rd G u
  | .p c, u, h => h
  | .buf k' α ec c xs, u, h => by
    simp only [TC.ren]
    cases hb : Nat.beq k' j
    · exact h
    · have e : k' = j := Nat.eq_of_beq_eq_true hb
      subst e
      simp only [cond, TC.rep]; rw [hG]; exact h
  | .ref k' off, u, h => by
    simp only [TC.ren]
    cases hb : Nat.beq k' j
    · exact h
    · have e : k' = j := Nat.eq_of_beq_eq_true hb
      subst e
      simp only [cond, TC.rep]; rw [hG]; exact h
  | .eref _ _ _ _ _, u, h => h
  | .mut k', u, h => by
    simp only [TC.ren]
    cases hb : Nat.beq k' j
    · exact h
    · have e : k' = j := Nat.eq_of_beq_eq_true hb
      subst e
      simp only [cond, TC.rep]; rw [hG]; exact h
  | .mref k' ec i off, u, h => by
    simp only [TC.ren]
    cases hb : Nat.beq k' j
    · exact h
    · have e : k' = j := Nat.eq_of_beq_eq_true hb
      subst e
      simp only [cond, TC.rep]; rw [hG]; exact h
  | .any, u, h => h
  | .clo _ _ _, _, h => h
  | .msl k' ec off n, u, h => by
    simp only [TC.ren]
    cases hb : Nat.beq k' j
    · exact h
    · have e : k' = j := Nat.eq_of_beq_eq_true hb
      subst e
      simp only [cond, TC.rep]; rw [hG]; exact h
  | .full _ _ _ _, u, h => h
theorem ObOk.ren {S : Ctx} {rd : Rd} {G : Gh} {w : World} {u : Value} {j k : Nat} {o : Ob} (hG : G k = G j) (h : ObOk S rd G w u o) : ObOk S rd G w u (o.ren j k) := by
  cases o with
  | box ts => obtain ⟨b, vs, t, h1, h2, h3⟩ := h; exact ⟨b, vs, t, h1, h2, h3.map (TC.ren j k) fun _ _ => TC.rep_ren hG⟩
  | tbx e ts => obtain ⟨b, vs, h1, h2, h3⟩ := h; exact ⟨b, vs, h1, h2, h3.map (TC.ren j k) fun _ _ => TC.rep_ren hG⟩
  | tarr n ec ts => obtain ⟨b, vs, t, h1, hl, h2, hn, h3⟩ := h; exact ⟨b, vs, t, h1, hl, h2, by simpa using hn, h3.map (TC.ren j k) fun _ _ => TC.rep_ren hG⟩
  | arr α ec c xs => exact h
  | spare n ec e => exact h
  | grow e α ec c xs => exact h
  | map κ kf kvs => exact h
  | growA e α ec c xs p ts => obtain ⟨vs, h1, h2, h3, h4, h5, h6⟩ := h; exact ⟨vs, h1, h2, h3, by simpa using h4, h5, h6.map (TC.ren j k) fun _ _ => TC.rep_ren hG⟩
  | growT e n ec ts => obtain ⟨vs, h1, h2, h3, h4⟩ := h; exact ⟨vs, h1, h2, by simpa using h3, h4.map (TC.ren j k) fun _ _ => TC.rep_ren hG⟩
end
end Go.AL
namespace Go.AL
open Go Go.RowKit
set_option linter.unusedVariables false
section
variable {P : Program} {nt : Nat} {fr gf : Fr} {ob : Obs}
theorem TC.free_forget (k : Nat) (t : TC) : (t.forget k).free k = true := by
  cases t with
  | p c => rfl
  | buf k' α ec c xs => cases hb : Nat.beq k' k <;> simp [TC.forget, TC.free, hb]
  | ref k' o => cases hb : Nat.beq k' k <;> simp [TC.forget, TC.free, hb]
  | eref α ec c x o => rfl
  | «mut» k' => cases hb : Nat.beq k' k <;> simp [TC.forget, TC.free, hb]
  | mref k' ec i o => cases hb : Nat.beq k' k <;> simp [TC.forget, TC.free, hb]
  | any => rfl
  | clo f nf nc =>
    simp only [TC.forget]
    cases hb : (anyK k nf || anyK k nc)
    · rw [Bool.or_eq_false_iff] at hb; simp [TC.free, hb.1, hb.2]
    · rfl
  | msl k' ec o n => cases hb : Nat.beq k' k <;> simp [TC.forget, TC.free, hb]
  | full α ec c xs => rfl
theorem S1.free_forget (k : Nat) (s : S1) : (s.forget k).free k = true := by
  cases s with
  | one t => exact TC.free_forget k t
  | agg ts =>
    show (ts.map (TC.forget k)).all (TC.free k) = true
    rw [List.all_map, List.all_eq_true]
    exact fun t _ => TC.free_forget k t
theorem SV.free_forget (k : Nat) (s : SV) : (s.forget k).free k = true := by
  cases s with
  | s x => exact S1.free_forget k x
  | tup l =>
    show (l.map (S1.forget k)).all (S1.free k) = true
    rw [List.all_map, List.all_eq_true]
    exact fun t _ => S1.free_forget k t
  | any => rfl
  | un => rfl
end
end Go.AL
namespace Go.AL
open Go Go.RowKit
set_option linter.unusedVariables false
section
variable {P : Program}
end
end Go.AL
namespace Go.AL
open Go Go.RowKit
set_option linter.unusedVariables false
section
variable {P : Program} {nt : Nat} {fr : Fr} {ob : Obs} {dst : Option Tmp} {ty : TypeId} {pos : String} {af : Array Edge} {gd : Option (Nat × Bool)}
end
end Go.AL
