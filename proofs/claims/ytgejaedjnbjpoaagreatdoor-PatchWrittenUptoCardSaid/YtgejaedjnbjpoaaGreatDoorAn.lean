/- The abstract logic, its third part. No project text. -/
import Derived.Test.YtgejaedjnbjpoaaGreatDoorAm
import Derived.Laws.StructEq
import Derived.Laws.Cover3
import Derived.MapKept
attribute [local semireducible] Go.AL.Neu Go.AL.Eff Go.AL.EffV Go.AL.WpL Go.AL.WpC Go.AL.FnOk Go.AL.LexD Go.AL.Sees Go.AL.RetOk Go.AL.FnIo Go.AL.Met Go.AL.RetS
namespace Go.AL
open Go Go.RowKit
set_option linter.unusedVariables false
section
variable {P : Program} {nt : Nat} {ops : Array Oper}
def EffU (P : Program) (o : Oper) (U : Fr) (ob ob' : Obs) : Prop :=
 ∀ S G a w, Sim P S U ob G a w → Does P o a w (fun _ w' => ∃ G', ∀ fr, Sim P S fr ob G a w → Sim P S fr ob' G' a w')
theorem u0 {t : TypeId} {x y : Operand} {k o n : Nat} {ts : List TC} {s : S1} {fr : Fr} {ob : Obs} {ty : TypeId} {pos : String} {af : Array Edge} {gd : Option (Nat × Bool)} (hsz : (P.info? t).map (·.size) = some n) (hx : opv fr x = some (.s (.one (.ref k o)))) (hk : D4 ob k = some (.box ts)) (hy : opv fr y = some (.s s)) (hc : L3 y = true)
  (hn : s.cells.length = n) (hfit : Nat.ble (o + n) ts.length = true) : EffU P ⟨none, .store t x y, ty, pos, af, gd⟩ fr ob ((k, .box (setTs ts o s.cells)) :: ob) := by
 intro S G a w h
 obtain ⟨b, hg, hu⟩ := H6 h hx
 obtain ⟨b', vs, tt, hg', hh, ha⟩ := h.box hk
 rw [hg] at hg'; cases hg'
 have hr : (SV.s s).rep (F3 (Mut S ob G) w) G (a.eval y) := T3 h hy hc
 have hcells := S1.rep_cells hr
 have hlen : (a.eval y).cells.size = n := by rw [← hn, hcells.length]; simp
 have hle : o + n ≤ ts.length := by simpa using hfit
 have hone : ∀ u ∈ (a.eval y).cells.toList, u.oneCell' = true := by
  intro u hu
  have : ∀ (ts : List TC) (vs : List Value), All2 (TC.rep (F3 (Mut S ob G) w) G) ts vs → ∀ u ∈ vs, u.oneCell' = true := by
   intro ts
   induction ts with
   | nil => intro vs h u hu; cases vs with | nil => cases hu | cons => exact h.elim
   | cons t ts ih =>
    intro vs h u hu
    cases vs with
    | nil => exact h.elim
    | cons v vs =>
     rcases List.mem_cons.1 hu with rfl | hu
     ·exact TC.rep_one h.1
     ·exact ih vs h.2 u hu
  exact this _ _ hcells u hu
 obtain ⟨w', hrun, hos, htape, hout, hsize, hother, hheap⟩ := V4 (P := P) (t := t) (w := w) (b := b) (o := o) (v := a.eval y) (by rw [hsz, hlen]) hh hone (by rw [hlen, ← ha.length]; exact hle)
 unfold Does
 have he : (execOp a.eval ⟨none, .store t x y, ty, pos, af, gd⟩).run P w = .ok .skip w' := by
  simp [execOp, hu, Instr.storeAt, Instr.sureAddr, hrun]
 rw [he]
 have hbk : blk (G k) = some b := by rw [hg]; rfl
 refine ⟨G, fun fr2 h2 => h2.write hk hbk (fun i => ⟨hbk, trivial⟩) (fun i => ⟨hbk, trivial⟩) hos htape hout (Nat.le_of_eq hsize.symm) (fun j _ => hother j) ?_⟩
 intro rd hrd
 refine ⟨b, _, tt, hg, hheap, ?_⟩
 have hd : vs.drop (o + (a.eval y).cells.size) = vs.drop (o + s.cells.length) := by rw [hlen, hn]
 unfold setTs
 rw [hd]
 exact (((ha.take o).append hcells).append (ha.drop _)).mono fun _ _ => TC.rep_mono hrd
def Told (U : Fr) (φ : Fa) : Prop := ∀ t s, D6 U t = some s → φ t = some s
theorem told_unput {U : Fr} {φ : Fa} {d : Nat} {s : SV} (hd : D6 U d = none) (h : Told U (S5 φ d s)) : Told U φ := fun t s' ht => by
 have h1 := h t s' ht
 unfold S5 at h1
 by_cases he : t = d
 ·subst he; rw [hd] at ht; cases ht
 ·rwa [if_neg he] at h1
theorem effU_step {o : Oper} {U : Fr} {ob ob' : Obs} {φ : Fa} (h : EffU P o U ob ob') (hg : o.guard = none) (hd : o.dst = none) (hφ : Told U φ) : StepE P nt ops o φ ob (fun φ' ob'' => φ' = φ ∧ ob'' = ob') := by
 refine ⟨hg, fun S G a w hn hs => does_imp (h S G a w (hs.sub hφ)) ?_⟩
 rintro v w' ⟨G', hG⟩
 refine ⟨φ, ob', G', ⟨rfl, rfl⟩, ?_⟩
 rw [hd]
 refine ⟨hG [] hs.1, fun i s hi => ?_⟩
 have h1 : Sim P S [(i, s)] ob G a w := hs.sub fun j t hj => by
  by_cases he : i = j
  ·subst he; rw [D5] at hj; cases hj; exact hi
  ·rw [C8 he] at hj; simp [D6] at hj
 exact (hG _ h1).facts i s (by rw [D5])
def AnyC (P : Program) (nt : Nat) (ops : Array Oper) (T : Nat) (U : Fr) (ob ob' : Obs) (E : Array Bool → Fa → Prop) : Nat → Array Bool → Fa → Prop
 | 0, listed, φ => (T ∈ Region.ready .any ops listed → Told U φ) ∧ T ∈ Region.ready .any ops listed ∧ (∀ j ∈ Region.ready .any ops listed, j = T) ∧ E listed φ
 | fuel + 1, listed, φ => (T ∈ Region.ready .any ops listed → Told U φ) ∧ (∃ p, p < T ∧ p ∈ Region.ready .any ops listed) ∧ ∀ i ∈ Region.ready .any ops listed, i ≠ T →
   ∃ o s d, ops[i]? = some o ∧ o.dst = some d ∧ turns o.op = false ∧ YieldsN P nt ops o φ ob s ∧ YieldsN P nt ops o φ ob' s ∧ AnyC P nt ops T U ob ob' E fuel (listed.setIfInBounds i true) (S5 φ d s)
theorem AnyC.told {T : Nat} {U : Fr} {ob ob' : Obs} {E : Array Bool → Fa → Prop} {fuel : Nat} {listed : Array Bool} {φ : Fa} (h : AnyC P nt ops T U ob ob' E fuel listed φ) : T ∈ Region.ready .any ops listed → Told U φ := by
 cases fuel <;> exact h.1
theorem anyC_first {T : Nat} {U : Fr} {ob ob' : Obs} {E : Array Bool → Fa → Prop} {i d : Nat} {oi oT : Oper} {s : SV} (hi : ops[i]? = some oi) (hoT : ops[T]? = some oT) (hti : turns oi.op = false) (hdi : oi.dst = some d) (hiT : i < T)
  (hU : Bef ops T i = true ∨ D6 U d = none) :
  ∀ (fuel : Nat) (listed : Array Bool) (φ : Fa), Closed ops listed →
   (∀ j oj, ops[j]? = some oj → j ≠ i → j ≠ T → listed.getD j true = false → Bef ops j i = true ∨ (turns oj.op = false ∧ W5 ops oi oj = true)) →
   i ∈ Region.ready .any ops listed → YieldsN P nt ops oi φ ob s → YieldsN P nt ops oi φ ob' s →
   AnyC P nt ops T U ob ob' E fuel (listed.setIfInBounds i true) (S5 φ d s) → AnyC P nt ops T U ob ob' E (fuel + 1) listed φ := by
 have hto : ∀ (fuel : Nat) (listed : Array Bool) (φ : Fa), Closed ops listed → i ∈ Region.ready .any ops listed → AnyC P nt ops T U ob ob' E fuel (listed.setIfInBounds i true) (S5 φ d s) → T ∈ Region.ready .any ops listed → Told U φ := by
  intro fuel listed φ hc hr H hT
  rcases hU with hb | hn
  ·obtain ⟨hTun, oj, hoj, hall⟩ := mem_ready.1 hT
   have := Q1 hc T hb (fun o ho e he hbd => by rw [hoj] at ho; cases ho; exact hall e (Array.mem_toList_iff.1 he) hbd)
   have hiun := K2 hr
   rw [hiun] at this; cases this
  ·exact told_unput hn (H.told (ready_mono hT (by omega)))
 intro fuel
 induction fuel with
 | zero =>
  intro listed φ hc hN hr hy hy2 H
  refine ⟨hto 0 listed φ hc hr H, ⟨i, hiT, hr⟩, fun j hj hjT => ?_⟩
  by_cases hji : j = i
  ·subst hji; exact ⟨oi, s, d, hi, hdi, hti, hy, hy2, H⟩
  ·exact absurd (H.2.2.1 j (ready_mono hj hji)) hjT
 | succ fuel ih =>
  intro listed φ hc hN hr hy hy2 H
  refine ⟨hto (fuel + 1) listed φ hc hr H, ⟨i, hiT, hr⟩, fun j hj hjT => ?_⟩
  by_cases hji : j = i
  ·subst hji; exact ⟨oi, s, d, hi, hdi, hti, hy, hy2, H⟩
  ·obtain ⟨hjun, oj, hoj, hall⟩ := mem_ready.1 hj
   have hiun := K2 hr
   obtain ⟨htj, hap⟩ : turns oj.op = false ∧ W5 ops oi oj = true := by
    rcases hN j oj hoj hji hjT hjun with hb | h
    ·have := Q1 hc j hb (fun o ho e he hbd => by rw [hoj] at ho; cases ho; exact hall e (Array.mem_toList_iff.1 he) hbd)
     rw [hiun] at this; cases this
    ·exact h
   obtain ⟨o', sj, dj, ho', hdj, _, hyj, hyj2, HK⟩ := H.2.2 j (ready_mono hj hji) hjT
   rw [hoj] at ho'; cases ho'
   simp only [W5, hdi, hdj, Bool.and_eq_true, Bool.not_eq_true', List.contains_eq_mem, decide_eq_false_iff_not] at hap
   obtain ⟨⟨h1, h2⟩, h3⟩ := hap
   have h3 : d ≠ dj := fun e => by subst e; simp at h3
   refine ⟨oj, sj, dj, hoj, hdj, htj, hyj.unput h1, hyj2.unput h1, ?_⟩
   refine ih (listed.setIfInBounds j true) _ (K1 hc hj) ?_ (ready_mono hr (Ne.symm hji)) (hy.put h2) (hy2.put h2) ?_
   ·intro m om hm hmi hmT hun
    refine hN m om hm hmi hmT ?_
    by_cases hjm : j = m
    ·subst hjm; exact hjun
    ·rwa [getD_set_ne true hjm] at hun
   ·rw [Array.setIfInBounds_comm _ _ hji, ← o9 h3]
    exact HK
theorem anyC_after {T : Nat} {U : Fr} {ob ob' : Obs} {E : Array Bool → Fa → Prop} {K : Fa → Obs → Prop} {fuel2 : Nat}
  (hpost : ∀ j oj, ops[j]? = some oj → (∃ e ∈ oj.after.toList, Region.binds .any e = true ∧ e.on = T) → ∀ p, p < T → Bef ops j p = true)
  (hE : ∀ listed φ, Closed ops (listed.setIfInBounds T true) → (listed.setIfInBounds T true).getD T false = true → E listed φ → x7 P nt ops T K fuel2 (listed.setIfInBounds T true) φ ob') :
  ∀ (fuel : Nat) (listed : Array Bool) (φ : Fa), Closed ops listed → T ∈ Region.ready .any ops listed → AnyC P nt ops T U ob ob' E fuel listed φ →
   x7 P nt ops T K (fuel2 + fuel) (listed.setIfInBounds T true) φ ob'
 | 0, listed, φ, hc, hT, h => by
  have hTl : (listed.setIfInBounds T true).getD T false = true := by
   have := (mem_ready.1 hT).1
   have hlt : T < listed.size := by
    rcases Nat.lt_or_ge T listed.size with h' | h'
    ·exact h'
    ·simp only [Array.getD_eq_getD_getElem?] at this
     rw [Array.getElem?_eq_none h'] at this; simp at this
   simp [Array.getD_eq_getD_getElem?, hlt]
  exact hE _ φ (K1 hc hT) hTl h.2.2.2
 | fuel + 1, listed, φ, hc, hT, h => by
  obtain ⟨p, hp, hpr⟩ := h.2.1
  have hc2 := K1 hc hT
  have hpT : p ≠ T := by omega
  refine ⟨fun he => (by have := ready_mono hpr hpT; rw [he] at this; cases this), fun i hi => ?_⟩
  have hiT : i ≠ T := fun e => by
   subst e
   have := K2 hi
   have hlt : i < listed.size := by
    have := (mem_ready.1 hT).1
    rcases Nat.lt_or_ge i listed.size with h' | h'
    ·exact h'
    ·simp only [Array.getD_eq_getD_getElem?] at this
     rw [Array.getElem?_eq_none h'] at this; simp at this
   simp [Array.getD_eq_getD_getElem?, hlt] at this
  have hir : i ∈ Region.ready .any ops listed := by
   obtain ⟨hiun, oi, hoi, hall⟩ := mem_ready.1 hi
   refine mem_ready.2 ⟨by rwa [getD_set_ne true (Ne.symm hiT)] at hiun, oi, hoi, fun e he hb => ?_⟩
   have h1 := hall e he hb
   by_cases heT : e.on = T
   ·exfalso
    have hb2 := hpost i oi hoi ⟨e, Array.mem_toList_iff.2 he, hb, heT⟩ p hp
    have := Q1 hc2 i hb2 (fun o ho e he hbd => by rw [hoi] at ho; cases ho; exact hall e (Array.mem_toList_iff.1 he) hbd)
    have hpu := K2 (ready_mono hpr hpT)
    rw [hpu] at this; cases this
   ·simp only [Array.getD_eq_getD_getElem?] at h1 ⊢
    rwa [Array.getElem?_setIfInBounds_ne (Ne.symm heT)] at h1
  obtain ⟨o, s, d, ho, hd, ht, _, hy2, HK⟩ := h.2.2 i hir hiT
  refine ⟨o, ho, ?_⟩
  have htn : tn T i o = false := by unfold tn; rw [O5 hiT, ht]; rfl
  rw [htn]
  refine ⟨s, d, hd, hy2, ?_⟩
  rw [Array.setIfInBounds_comm _ _ (Ne.symm hiT)]
  exact anyC_after hpost hE fuel _ _ (K1 hc hir) (ready_mono hT (Ne.symm hiT)) HK
theorem anyC_before {T : Nat} {U : Fr} {ob ob' : Obs} {E : Array Bool → Fa → Prop} {K : Fa → Obs → Prop} {fuel2 : Nat} {oT : Oper} (hoT : ops[T]? = some oT) (hA : EffU P oT U ob ob') (hg : oT.guard = none) (hd : oT.dst = none)
  (hpost : ∀ j oj, ops[j]? = some oj → (∃ e ∈ oj.after.toList, Region.binds .any e = true ∧ e.on = T) → ∀ p, p < T → Bef ops j p = true)
  (hE : ∀ listed φ, Closed ops (listed.setIfInBounds T true) → (listed.setIfInBounds T true).getD T false = true → E listed φ → x7 P nt ops T K fuel2 (listed.setIfInBounds T true) φ ob') :
  ∀ (fuel : Nat) (listed : Array Bool) (φ : Fa), Closed ops listed → AnyC P nt ops T U ob ob' E fuel listed φ → x7 P nt ops T K (fuel2 + fuel + 1) listed φ ob := by
 have hTn : tn T T oT = true := by unfold tn; rw [Nat.beq_refl]; rfl
 have hstep : ∀ (fuel : Nat) (listed : Array Bool) (φ : Fa), Closed ops listed → T ∈ Region.ready .any ops listed → AnyC P nt ops T U ob ob' E fuel listed φ → StepT P nt ops T T φ ob (x7 P nt ops T K (fuel2 + fuel) (listed.setIfInBounds T true)) := by
  intro fuel listed φ hc hT h
  refine ⟨oT, hoT, ?_⟩
  rw [hTn]
  have h1 : StepE P nt ops oT φ ob (fun φ' ob'' => φ' = φ ∧ ob'' = ob') := effU_step hA hg hd (h.told hT)
  refine ⟨h1.1, fun S G a w hn hs => does_imp (h1.2 S G a w hn hs) ?_⟩
  rintro v w' ⟨φ', ob', G', ⟨rfl, rfl⟩, hs'⟩
  exact ⟨_, _, G', anyC_after hpost hE fuel listed _ hc hT h, hs'⟩
 intro fuel
 induction fuel with
 | zero =>
  intro listed φ hc h
  refine ⟨fun he => (by have := h.2.1; rw [he] at this; cases this), fun i hi => ?_⟩
  have hiT := h.2.2.1 i hi
  subst hiT
  exact hstep 0 listed φ hc hi h
 | succ fuel ih =>
  intro listed φ hc h
  obtain ⟨p, hp, hpr⟩ := h.2.1
  refine ⟨fun he => (by rw [he] at hpr; cases hpr), fun i hi => ?_⟩
  by_cases hiT : i = T
  ·subst hiT; exact hstep (fuel + 1) listed φ hc hi h
  ·obtain ⟨o, s, d, ho, hd, ht, hy, _, HK⟩ := h.2.2 i hi hiT
   refine ⟨o, ho, ?_⟩
   have htn : tn T i o = false := by unfold tn; rw [O5 hiT, ht]; rfl
   rw [htn]
   exact ⟨s, d, hd, hy, ih _ _ (K1 hc hi) HK⟩
def LexC (P : Program) (nt : Nat) (ops : Array Oper) (U : Fr) (ob ob' : Obs) (E : Fr → Prop) : List Oper → Fr → Prop
 | [], fr => FrIn fr U ∧ E fr
 | o :: l, fr => ∃ s d, o.dst = some d ∧ YieldsN P nt ops o (D6 fr) ob s ∧ YieldsN P nt ops o (D6 fr) ob' s ∧ LexC P nt ops U ob ob' E l ((d, s) :: fr)
def lexOkC (ops : Array Oper) (T : Nat) (ks : List Nat) : Nat → Nat → Array Bool → Bool
 | 0, _, listed => (Region.ready .any ops listed).contains T && (Region.ready .any ops listed).all fun j => Nat.beq j T
 | fuel + 1, k, listed =>
  (match ops[k]? with
   | some o => (Region.ready .any ops listed).contains k && !(turns o.op) && Nat.blt k T && (Bef ops T k || match o.dst with | some d => !(ks.contains d) | none => false) &&
    ((List.range ops.size).all fun j => Nat.beq j k || Nat.beq j T || listed.getD j true || match ops[j]? with
     | some oj => Bef ops j k || (!(turns oj.op) && W5 ops o oj)
     | none => true)
   | none => false) && lexOkC ops T ks fuel (k + 1) (listed.setIfInBounds k true)
theorem getF_keys {U : Fr} {d : Nat} (h : (U.map (·.1)).contains d = false) : D6 U d = none := by
 induction U with
 | nil => rfl
 | cons x r ih =>
  obtain ⟨i, s⟩ := x
  simp only [List.map_cons, List.contains_cons, Bool.or_eq_false_iff] at h
  have hne : i ≠ d := fun e => by subst e; simp at h
  rw [C8 hne]
  exact ih h.2
theorem anyC_lex {T : Nat} {U : Fr} {ob ob' : Obs} {E : Fr → Prop} {L : Array Bool} {oT : Oper} (hoT : ops[T]? = some oT) : ∀ (l : List Oper) (k : Nat) (listed : Array Bool) (fr : Fr), (∀ j, j < l.length → l[j]? = ops[k + j]?) → Closed ops listed → lexOkC ops T (U.map (·.1)) l.length k listed = true → listN l.length k listed = L →
  LexC P nt ops U ob ob' E l fr → AnyC P nt ops T U ob ob' (fun L' φ => L' = L ∧ ∃ fr', φ = D6 fr' ∧ E fr') l.length listed (D6 fr)
 | [], k, listed, fr, hl, hc, hB, hL, h => by
  simp only [List.length_nil, lexOkC, Bool.and_eq_true] at hB
  exact ⟨fun _ t s ht => FrIn.spec h.1 t s ht, by simpa using hB.1, fun j hj => Nat.eq_of_beq_eq_true (List.all_eq_true.1 hB.2 j hj), hL, fr, rfl, h.2⟩
 | o :: l, k, listed, fr, hl, hc, hB, hL, h => by
  have h0 : ops[k]? = some o := by simpa using (hl 0 (by simp)).symm
  simp only [List.length_cons, lexOkC, h0, Bool.and_eq_true, Bool.not_eq_true'] at hB
  obtain ⟨⟨⟨⟨⟨hr, hnt⟩, hkT⟩, hbu⟩, hf⟩, hB'⟩ := hB
  have hr' : k ∈ Region.ready .any ops listed := by simpa using hr
  have hl' : ∀ j, j < l.length → l[j]? = ops[k + 1 + j]? := fun j hj => by have := hl (j + 1) (by simpa using hj); simpa [Nat.add_assoc, Nat.add_comm 1 j] using this
  obtain ⟨s, d, hd, hy, hy2, hL2⟩ := h
  have hU : Bef ops T k = true ∨ D6 U d = none := by
   rw [hd] at hbu
   rcases Bool.or_eq_true _ _ ▸ hbu with hb | hb
   ·exact .inl hb
   ·exact .inr (getF_keys (by simpa using hb))
  refine anyC_first h0 hoT hnt hd (by simpa using hkT) hU l.length listed _ hc ?_ hr' hy hy2 ?_
  ·intro j oj hoj hjk hjT hun
   have hlt : j < ops.size := (Array.getElem?_eq_some_iff.1 hoj).1
   have := List.all_eq_true.1 hf j (List.mem_range.2 hlt)
   rw [O5 hjk, O5 hjT, hun, hoj] at this
   simp only [Bool.false_or, Bool.or_eq_true, Bool.and_eq_true, Bool.not_eq_true'] at this
   exact this
  ·rw [← U6]
   exact anyC_lex hoT l (k + 1) _ _ hl' (K1 hc hr') hB' hL hL2
def storeOk (nt : Nat) (l : List Oper) (n : Nat) (ks : List Nat) : Bool :=
 let ops := l.toArray
 let L0 := Array.replicate l.length false
 let L := listN n 0 L0
 lexOkC ops n ks n 0 L0 && dstsIn nt ops && Nat.ble (n + 1) l.length && Nat.beq (l.take n).length n &&
  ((List.range ops.size).all fun j => match ops[j]? with | some oj => !(oj.after.toList.any fun e => Region.binds .any e && Nat.beq e.on n) || (List.range n).all fun p => Bef ops j p | none => true) &&
  lexOk ops (l.drop (n + 1)).length (n + 1) (L.setIfInBounds n true)
theorem c_region_store {id : Nat} {l : List Oper} (n : Nat) {oT : Oper} (U : Fr) {fr : Fr} {ob ob' : Obs} {Q : Post} (hm : P.follows .mixedOrders = true) (hB : storeOk nt l n (U.map (·.1)) = true) (hc : l[n]? = some oT) (hA : EffU P oT U ob ob') (hg : oT.guard = none) (hdT : oT.dst = none)
  (h : LexC P nt l.toArray U ob ob' (fun fr => LexD P nt l.toArray (fun fr ob => Q .normal fr ob) (l.drop (n + 1)) fr ob') (l.take n) fr) : WpC P nt (.region id l.toArray true) fr ob Q := by
 intro S G a w hn hs
 unfold storeOk at hB
 simp only [Bool.and_eq_true] at hB
 obtain ⟨⟨⟨⟨⟨b1, b2⟩, b3⟩, b4⟩, b6⟩, b8⟩ := hB
 have hlen : n + 1 ≤ l.length := Nat.le_of_ble_eq_true b3
 have htl : (l.take n).length = n := Nat.eq_of_beq_eq_true b4
 have hdst : ∀ (j t : Nat), (l.toArray[j]?).bind (fun o => o.dst) = some t → t < nt := by
  intro j t ht
  cases ho : l.toArray[j]? with
  | none => simp [ho] at ht
  | some o =>
   simp [ho] at ht
   have hmem : o ∈ l := by
    rw [List.getElem?_toArray] at ho
    exact List.mem_of_getElem? ho
   have := List.all_eq_true.1 b2 o (by simpa using hmem)
   rw [ht] at this
   simpa using this
 refine wp_region_any hm ?_
 have hcl : Closed l.toArray (Array.replicate l.length false) := by
  intro j o ho hl
  simp only [Array.getD_eq_getD_getElem?] at hl
  rcases Nat.lt_or_ge j l.length with h' | h'
  ·simp [h'] at hl
  ·simp [h'] at hl
 have hoc : l.toArray[n]? = some oT := by rw [List.getElem?_toArray]; exact hc
 have hpost : ∀ j oj, l.toArray[j]? = some oj → (∃ e ∈ oj.after.toList, Region.binds .any e = true ∧ e.on = n) → ∀ p, p < n → Bef l.toArray j p = true := by
  rintro j oj hoj ⟨e, he, hb, hon⟩ p hp
  have hlt : j < l.toArray.size := (Array.getElem?_eq_some_iff.1 hoj).1
  have h1 := List.all_eq_true.1 b6 j (List.mem_range.2 hlt)
  rw [hoj] at h1
  have h1 : ((!(oj.after.toList.any fun e => Region.binds .any e && Nat.beq e.on n)) || (List.range n).all fun p => Bef l.toArray j p) = true := h1
  have h2 : (oj.after.toList.any fun e => Region.binds .any e && Nat.beq e.on n) = true := List.any_eq_true.2 ⟨e, he, by rw [hb, hon, Nat.beq_refl]; rfl⟩
  rw [h2] at h1
  simp only [Bool.not_true, Bool.false_or] at h1
  exact List.all_eq_true.1 h1 p (List.mem_range.2 hp)
 have key : x7 P nt l.toArray n (fun φ ob => ∃ fr', φ = D6 fr' ∧ Q .normal fr' ob) ((l.drop (n + 1)).length + (l.take n).length + 1) (Array.replicate l.length false) (D6 fr) ob := by
  refine anyC_before hoc hA hg hdT hpost ?_ (l.take n).length _ _ hcl (anyC_lex hoc (L := listN n 0 (Array.replicate l.length false)) (l.take n) 0 _ fr (fun j hj => ?_) hcl (by rw [htl]; exact b1) (by rw [htl]) h)
  ·rintro listed φ hcl2 hTl ⟨rfl, fr', rfl, hL⟩
   exact anyT_of _ _ _ _ hTl (anyD_lex (l.drop (n + 1)) (n + 1) _ _ _ (fun i => by rw [List.getElem?_drop, List.getElem?_toArray]) hcl2 b8 hL)
  ·rw [Nat.zero_add, List.getElem?_toArray, List.getElem?_take_of_lt (by rw [htl] at hj; exact hj)]
 have hx : Below w.heap.size w { w with drawn := w.drawn + 1 } := ⟨rfl, rfl, rfl, Nat.le_refl _, fun _ _ => rfl⟩
 have hs' : SimF P S (D6 fr) ob G a { w with drawn := w.drawn + 1 } := (simF_iff.2 hs).ext hx
 have := p5 (Q := PostOf P S Q) hn hdst (fun φ ob' G' a' w' ⟨fr', he, hq⟩ hsf => ⟨fr', ob', G', hq, simF_iff.1 (he ▸ hsf)⟩) _ _ _ ob G a _ key hs'
 have hfuel : (l.drop (n + 1)).length + (l.take n).length + 1 = l.length := by rw [List.length_drop, htl]; omega
 rw [hfuel] at this
 simpa using this
theorem s_nil {U : Fr} {ob ob' : Obs} {E : Fr → Prop} {fr : Fr} (hf : FrIn fr U) (h : E fr) : LexC P nt ops U ob ob' E [] fr := ⟨hf, h⟩
theorem s_neu {d : Nat} {U : Fr} {ob ob' : Obs} {E : Fr → Prop} {fr : Fr} {rest : List Oper} {op : Op} {ty : TypeId} {pos : String} {af : Array Edge} {s : SV} (h : Neu P ⟨some d, op, ty, pos, af, none⟩ (P3 fr (usesOp op)) ob (fun s' => s' = s)) (hd : Nat.blt d nt = true)
  (h2 : Neu P ⟨some d, op, ty, pos, af, none⟩ (P3 fr (usesOp op)) ob' (fun s' => s' = s)) (kk : LexC P nt ops U ob ob' E rest ((d, s) :: fr)) : LexC P nt ops U ob ob' E (⟨some d, op, ty, pos, af, none⟩ :: rest) fr :=
 ⟨s, d, rfl, yields_neu h hd, yields_neu h2 hd, kk⟩
theorem n_pick_t {fr : Fr} {ob : Obs} {dst : Option Tmp} {ty : TypeId} {pos : String} {af : Array Edge} {gd : Option (Nat × Bool)} {c x y : Operand} {b p : Bool} (hc : opv fr c = some (P4 b)) (hb : b = true) (hx : opv fr x = some (P4 p)) :
  Neu P ⟨dst, .pick c x y, ty, pos, af, gd⟩ fr ob (fun s' => s' = P4 p) :=
 E7 fun S G a w h => by
  have := G8 h hc
  subst hb
  exact ⟨.bool p, by simp [execOp, this, asBool, G8 h hx], rfl, rfl⟩
theorem T6 {fr : Fr} {ob : Obs} {dst : Option Tmp} {ty : TypeId} {pos : String} {af : Array Edge} {gd : Option (Nat × Bool)} {c x y : Operand} {b p : Bool} (hc : opv fr c = some (P4 b)) (hb : b = false) (hx : opv fr y = some (P4 p)) :
  Neu P ⟨dst, .pick c x y, ty, pos, af, gd⟩ fr ob (fun s' => s' = P4 p) :=
 E7 fun S G a w h => by
  have := G8 h hc
  subst hb
  exact ⟨.bool p, by simp [execOp, this, asBool, G8 h hx], rfl, rfl⟩
end
end Go.AL
namespace Go.AL
open Go Go.RowKit
theorem retc3 {P : Program} {fn : Func} {fr : Fr} {ob : Obs} {t t' t'' : Tmp} {k n : Nat} {tt : TypeId} {ts : List TC} {cs : List Cell} {s' s'' : S1} {p' p'' : PV} [TyAgg P tt n] (hr : fn.results = #[.cell t tt, .tmp t', .tmp t'']) (ht : Z8 fr t = some (.s (.one (.ref k 0)))) (hk : D4 ob k = some (.box ts)) (hn : ts.length = n) (hp : pureL ts = some cs)
  (ht' : Z8 fr t' = some (.s s')) (hp' : s'.pv? = some p') (ht'' : Z8 fr t'' = some (.s s'')) (hp'' : s''.pv? = some p'') : RetOk P fn fr ob [.agg cs, p', p''] :=
 fun S G a w h => by
  obtain ⟨b, vs, h1, h2, h3⟩ := box_pv h (tt := tt) ht hk hn hp
  rw [Array.getD_eq_getD_getElem?] at h1
  exact ⟨_, by simp [results, hr, h1, asAddr, h2], [_, _, _], rfl, h3, Y8 h ht' hp', Y8 h ht'' hp'', trivial⟩
end Go.AL
namespace Go.AL
open Go Go.RowKit
set_option linter.unusedVariables false
inductive CK | int (k : IntKind) | str | bool
def ckOf (P : Program) (t : TypeId) : Option CK :=
 match P.underlying t with
 | some (.int k) => some (.int k)
 | some .string => some .str
 | some .bool => some .bool
 | _ => none
def cmpFs (P : Program) : Nat → List Field → List CK → Bool
 | _, [], [] => true
 | i, f :: fs, k :: ks => f.name != "_" && (f.offset == i && ((match ckOf P f.type, k with | some (.int k), .int k' => decide (k = k') | some .str, .str => true | some .bool, .bool => true | _, _ => false) && cmpFs P (i + 1) fs ks))
 | _, _, _ => false
class TyCmp (P : Program) (t : TypeId) (ks : outParam (List CK)) : Prop where
 out : P.underlying t = some (.struct (P.fieldsOf t)) ∧ (cmpFs P 0 (P.fieldsOf t).toList ks && (!P.stoodInHeld t && !P.eqGuardType P.depth t)) = true
section
variable {P : Program} {dst : Option Tmp} {ty : TypeId} {pos : String} {af : Array Edge} {gd : Option (Nat × Bool)} {fr : Fr} {ob : Obs}
end
end Go.AL
namespace Go.AL
open Go Go.RowKit
set_option linter.unusedVariables false
theorem j5 {listed : Array Bool} {e j : Nat} (h : e ≠ j) : (listed.setIfInBounds e true).getD j false = listed.getD j false := by
 simp only [Array.getD_eq_getD_getElem?, Array.getElem?_setIfInBounds_ne h]
def V1 : Op → List Nat
 | .store _ x y => tmO x ++ tmO y
 | .box _ x => tmO x
 | op => usesOp op
def i7 (sv : List SV) (i : Nat) : SV := sv.getD i .any
def allFr : List Oper → List SV → Fr → Fr
 | o :: l, s :: sv, fr => match o.dst with
  | some d => (d, s) :: allFr l sv fr
  | none => allFr l sv fr
 | _, _, fr => fr
abbrev Xe := List (Nat × Bool × (Nat × Ob))
def xAt : Xe → Nat → Option (Bool × (Nat × Ob))
 | [], _ => none
 | (i, x) :: r, e => cond (Nat.beq i e) (some x) (xAt r e)
def obD (xe : Xe) (ob : Obs) : List Nat → Obs
 | [] => ob
 | e :: D => match xAt xe e with
  | some x => x.2 :: obD xe ob D
  | none => obD xe ob D
def insD (e : Nat) : List Nat → List Nat
 | [] => [e]
 | d :: D => cond (Nat.blt d e) (e :: d :: D) (d :: insD e D)
def V6 (l : List Nat) (e : Nat) : Bool := l.any (Nat.beq e)
theorem hasN_iff {l : List Nat} {e : Nat} : V6 l e = true ↔ e ∈ l := by
 unfold V6
 rw [List.any_eq_true]
 exact ⟨fun ⟨x, h, he⟩ => by rw [Nat.eq_of_beq_eq_true he]; exact h, fun h => ⟨e, h, Nat.beq_refl e⟩⟩
def possD (ops : Array Oper) (E : List Nat) (i : Nat) (D : List Nat) : Bool := !(V6 D i) && ((E.all fun j => !(Bef ops i j) || V6 D j) && D.all fun j => !(Bef ops j i))
def u5 : List Nat → List Nat → Bool
 | [], [] => true
 | a :: l, b :: m => Nat.beq a b && u5 l m
 | _, _ => false
theorem sameL_eq : ∀ {l m : List Nat}, u5 l m = true → l = m
 | [], [], _ => rfl
 | [], _ :: _, h => by simp [u5] at h
 | _ :: _, [], h => by simp [u5] at h
 | a :: l, b :: m, h => by
  simp only [u5, Bool.and_eq_true] at h
  rw [Nat.eq_of_beq_eq_true h.1, sameL_eq h.2]
def memM (M : List (List Nat)) (D : List Nat) : Bool := M.any (u5 D)
theorem memM_mem {M : List (List Nat)} {D : List Nat} (h : memM M D = true) : D ∈ M := by
 obtain ⟨x, h1, h2⟩ := List.any_eq_true.1 h
 rw [sameL_eq h2]; exact h1
def lexD (E : List Nat) (i : Nat) : List Nat := E.filter fun e => Nat.blt e i
def desc : List Nat → Bool
 | [] => true
 | a :: l => l.all (fun b => Nat.blt b a) && desc l
def Z9 : List Oper → List Nat
 | [] => []
 | o :: l => match o.dst with
  | some d => d :: Z9 l
  | none => Z9 l
def nodupB : List Nat → Bool
 | [] => true
 | a :: l => !(V6 l a) && nodupB l
def confOk (nt : Nat) (l : List Oper) (E : List Nat) (M : List (List Nat)) (req : List (Nat × List Nat)) : Bool :=
 let ops := l.toArray
 let n := l.length
 (l.all fun o => o.guard.isNone && match o.dst with | some d => Nat.blt d nt | none => true) &&
 ((List.range n).all fun i => match ops[i]? with
  | some o => (turns o.op == V6 E i) && ((turns o.op || o.dst.isSome) && (((V1 o.op).all fun u => (List.range n).all fun j => match ops[j]? with
    | some oj => (match oj.dst with | some d => !(Nat.beq d u) || Bef ops i j | none => true)
    | none => true) &&
   ((List.range n).all fun j => !(Bef ops i j) || Nat.blt j i) && ((o.after.toList.all fun e => !(Region.binds .any e) || Nat.blt e.on i) && (M.all fun D => !(possD ops E i D) || (u5 D (lexD E i) || req.any fun p => Nat.beq p.1 i && u5 p.2 D)))))
  | none => false) &&
 nodupB (Z9 l) && desc E && (E.all fun e => Nat.blt e n) && memM M [] && (M.all fun D => E.all fun e => !(possD ops E e D) || memM M (insD e D))
section
variable {P : Program} {nt : Nat}
def EffQ (P : Program) (nt : Nat) (ops : Array Oper) (o : Oper) (U : Fr) (new : Bool) (ob : Obs) (x : Nat × Ob) (s : SV) : Prop :=
 ∀ φ, Told U φ → (new = true → FreeF x.1 φ) → StepE P nt ops o φ ob (fun φ' ob'' => φ' = (match o.dst with | some d => S5 φ d s | none => φ) ∧ ob'' = x :: ob)
theorem q_alloc {ops : Array Oper} {U : Fr} {k : Nat} {e : TypeId} {z : Value} [hz : TyZero P e z] {ty : TypeId} {pos : String} {af : Array Edge} {al : Nat} {ob : Obs} (h2 : M7 k ob = true) (hd : Nat.blt al nt = true) :
  EffQ P nt ops ⟨some al, .alloc e, ty, pos, af, none⟩ U true ob (k, .box (z.cells.toList.map fun c => .p (.v c))) (.s (.one (.ref k 0))) :=
 fun φ _ hf => alloc_step (hf rfl) h2 hd
theorem q_store {ops : Array Oper} {U : Fr} {op : Op} {ty : TypeId} {pos : String} {af : Array Edge} {ob : Obs} {x : Nat × Ob} (h : EffU P ⟨none, op, ty, pos, af, none⟩ U ob (x :: ob)) : EffQ P nt ops ⟨none, op, ty, pos, af, none⟩ U false ob x .any :=
 fun φ hU _ => effU_step h rfl rfl hU
def UIn (l : List Oper) (sv : List SV) (fr : Fr) (o : Oper) (U : Fr) : Prop :=
 ∀ t s, D6 U t = some s → t ∈ V1 o.op ∧ ((∃ j o', l[j]? = some o' ∧ o'.dst = some t ∧ s = i7 sv j) ∨ (t ∉ Z9 l ∧ D6 fr t = some s))
def ObG (P : Program) (nt : Nat) (l : List Oper) (sv : List SV) (xe : Xe) (fr : Fr) (ob : Obs) (i : Nat) (D : List Nat) : Prop :=
 ∃ o U, l[i]? = some o ∧ UIn l sv fr o U ∧ ((turns o.op = false ∧ Neu P o U (obD xe ob D) (fun s => s = i7 sv i)) ∨
  ∃ new x, xAt xe i = some (new, x) ∧ EffQ P nt l.toArray o U new (obD xe ob D) x (i7 sv i))
def Ob1 (P : Program) (nt : Nat) (l : List Oper) (sv : List SV) (xe : Xe) (fr : Fr) (ob : Obs) (i : Nat) (D : List Nat) : Prop :=
 ∃ o, l[i]? = some o ∧ ((turns o.op = false ∧ Neu P o (P3 (allFr l sv fr) (V1 o.op)) (obD xe ob D) (fun s => s = i7 sv i)) ∨
  ∃ new x, xAt xe i = some (new, x) ∧ EffQ P nt l.toArray o (P3 (allFr l sv fr) (V1 o.op)) new (obD xe ob D) x (i7 sv i))
def Ob1s (P : Program) (nt : Nat) (l : List Oper) (sv : List SV) (xe : Xe) (fr : Fr) (ob : Obs) : List (Nat × List Nat) → Prop
 | [] => True
 | (i, D) :: r => Ob1 P nt l sv xe fr ob i D ∧ Ob1s P nt l sv xe fr ob r
theorem Ob1s.get {l : List Oper} {sv : List SV} {xe : Xe} {fr : Fr} {ob : Obs} : ∀ {r : List (Nat × List Nat)}, Ob1s P nt l sv xe fr ob r → ∀ p ∈ r, Ob1 P nt l sv xe fr ob p.1 p.2
 | [], _, p, hp => by simp at hp
 | (i, D) :: r, h, p, hp => by
  rcases List.mem_cons.1 hp with rfl | hp
  ·exact h.1
  ·exact Ob1s.get h.2 p hp
def frBut (ops : Array Oper) (e : Nat) (sv : List SV) (fr : Fr) : Fr :=
 (((List.range ops.size).filter fun j => !(Nat.beq j e) && !(Bef ops j e)).map fun j => (j, i7 sv j)) ++ fr
def freeOk (ops : Array Oper) (sv : List SV) (fr : Fr) : Xe → Bool
 | [] => true
 | (e, new, x) :: r => (!new || I3 x.1 (frBut ops e sv fr)) && freeOk ops sv fr r
def keysOk (xe : Xe) (M : List (List Nat)) : Bool :=
 M.all fun D => xe.all fun p => D.all fun e => V6 D p.1 || !(Nat.blt p.1 e) || (match xAt xe e with | some x => !(Nat.beq x.2.1 p.2.2.1) | none => true)
theorem xAt_mem {xe : Xe} {e : Nat} {x : Bool × (Nat × Ob)} (h : xAt xe e = some x) : (e, x) ∈ xe := by
 induction xe with
 | nil => cases h
 | cons y r ih =>
  obtain ⟨i, y⟩ := y
  unfold xAt at h
  cases hb : Nat.beq i e
  ·rw [hb] at h; exact List.mem_cons_of_mem _ (ih h)
  ·rw [hb] at h
   have h : some y = some x := h
   cases h
   rw [Nat.eq_of_beq_eq_true hb]; exact List.mem_cons_self ..
theorem getO_ins {xe : Xe} {ob : Obs} {e : Nat} {new : Bool} {x : Nat × Ob} (he : xAt xe e = some (new, x)) : ∀ {D : List Nat}, (∀ d ∈ D, e < d → ∀ y, xAt xe d = some y → y.2.1 ≠ x.1) → ∀ k o, D4 (obD xe ob (insD e D)) k = some o → D4 (x :: obD xe ob D) k = some o
 | [], _, k, o, h => by
  simp only [insD, obD, he] at h
  exact h
 | d :: D, hk, k, o, h => by
  unfold insD at h
  cases hb : Nat.blt d e
  ·rw [hb] at h
   simp only [cond] at h
   have ih := getO_ins (ob := ob) he (D := D) (fun d' hd' => hk d' (List.mem_cons_of_mem _ hd'))
   have hge : e ≤ d := by
    cases Nat.lt_or_ge d e with
    | inl h' => have : Nat.blt d e = true := by simpa using h'
                rw [this] at hb; cases hb
    | inr h' => exact h'
   unfold obD at h ⊢
   cases hx : xAt xe d with
   | none => rw [hx] at h; exact ih k o h
   | some y =>
    rw [hx] at h
    simp only at h ⊢
    obtain ⟨ny, ky, oy⟩ := y
    obtain ⟨kx, ox⟩ := x
    by_cases hky : ky = k
    ·rw [show ((ny, ky, oy) : Bool × (Nat × Ob)).2 = (ky, oy) from rfl] at h ⊢
     rw [hky, D9] at h
     by_cases hed : e = d
     ·subst hed
      rw [hx] at he
      cases he
      rw [hky, D9]; exact h
     ·have hne := hk d (List.mem_cons_self ..) (by omega) _ hx
      have hne : ky ≠ kx := hne
      rw [C1 (by omega), hky, D9]; exact h
    ·rw [show ((ny, ky, oy) : Bool × (Nat × Ob)).2 = (ky, oy) from rfl] at h ⊢
     rw [C1 hky] at h
     have := ih k o h
     by_cases hkx : kx = k
     ·rw [hkx, D9] at this ⊢; exact this
     ·rw [C1 hkx] at this
      rw [C1 hkx, C1 hky]; exact this
  ·rw [hb] at h
   simp only [cond] at h
   have : obD xe ob (e :: d :: D) = x :: obD xe ob (d :: D) := by
    show (match xAt xe e with | some x => x.2 :: obD xe ob (d :: D) | none => obD xe ob (d :: D)) = _
    rw [he]
   rw [this] at h; exact h
theorem filter_ins {e : Nat} {listed : Array Bool} (hsz : e < listed.size) (hun : listed.getD e false = false) : ∀ {E : List Nat}, desc E = true → e ∈ E → E.filter (fun j => (listed.setIfInBounds e true).getD j false) = insD e (E.filter fun j => listed.getD j false)
 | [], _, he => by simp at he
 | d :: E, hd, he => by
  simp only [desc, Bool.and_eq_true] at hd
  have hlt : ∀ b ∈ E, b < d := fun b hb => by simpa using List.all_eq_true.1 hd.1 b hb
  have hsame : (listed.setIfInBounds e true).getD e false = true := by simp [hsz]
  have hoth : ∀ j, j ≠ e → (listed.setIfInBounds e true).getD j false = listed.getD j false := fun j hj => j5 (Ne.symm hj)
  by_cases hde : d = e
  ·subst hde
   rw [List.filter_cons_of_pos (by exact hsame), List.filter_cons_of_neg (by rw [hun]; simp)]
   have : E.filter (fun j => (listed.setIfInBounds d true).getD j false) = E.filter fun j => listed.getD j false := by
    apply List.filter_congr
    intro j hj
    exact hoth j (by have := hlt j hj; omega)
   rw [this]
   cases hE : E.filter fun j => listed.getD j false with
   | nil => rfl
   | cons a r =>
    have ha : a ∈ E := (List.mem_filter.1 (by rw [hE]; exact List.mem_cons_self ..)).1
    have hba : Nat.blt a d = true := by simpa using hlt a ha
    unfold insD; rw [hba]; rfl
  ·have heE : e ∈ E := (List.mem_cons.1 he).resolve_left (fun q => hde q.symm)
   have ih := filter_ins hsz hun hd.2 heE
   have hed : Nat.blt d e = false := by
    have := hlt e heE
    cases hb : Nat.blt d e
    ·rfl
    ·rw [Nat.blt_eq] at hb; omega
   by_cases hl : listed.getD d false = true
   ·rw [List.filter_cons_of_pos (by rw [hoth d hde]; exact hl), List.filter_cons_of_pos (by exact hl), ih]
    show _ = insD e (d :: _)
    conv => rhs; unfold insD
    rw [hed]; rfl
   ·rw [List.filter_cons_of_neg (by rw [hoth d hde]; exact hl), List.filter_cons_of_neg (by exact hl), ih]
theorem dstL_get : ∀ {l : List Oper} {j : Nat} {o : Oper} {d : Nat}, l[j]? = some o → o.dst = some d → d ∈ Z9 l
 | [], j, o, d, h, _ => by simp at h
 | o' :: l, 0, o, d, h, hd => by
  simp at h; subst h
  unfold Z9; rw [hd]; exact List.mem_cons_self ..
 | o' :: l, j + 1, o, d, h, hd => by
  have := dstL_get (l := l) (j := j) (by simpa using h) hd
  unfold Z9
  split
  ·exact List.mem_cons_of_mem _ this
  ·exact this
theorem dst_unique : ∀ {l : List Oper} {i j : Nat} {o o' : Oper} {d : Nat}, nodupB (Z9 l) = true → l[i]? = some o → l[j]? = some o' → o.dst = some d → o'.dst = some d → i = j
 | [], i, j, o, o', d, _, h, _, _, _ => by simp at h
 | q :: l, 0, 0, _, _, _, _, _, _, _, _ => rfl
 | q :: l, 0, j + 1, o, o', d, hn, h1, h2, h3, h4 => by
  simp at h1; subst h1
  have hm := dstL_get (l := l) (j := j) (by simpa using h2) h4
  unfold Z9 at hn; rw [h3] at hn
  simp only [nodupB, Bool.and_eq_true, Bool.not_eq_true'] at hn
  rw [hasN_iff.2 hm] at hn; exact absurd hn.1 (by simp)
 | q :: l, i + 1, 0, o, o', d, hn, h1, h2, h3, h4 => by
  simp at h2; subst h2
  have hm := dstL_get (l := l) (j := i) (by simpa using h1) h3
  unfold Z9 at hn; rw [h4] at hn
  simp only [nodupB, Bool.and_eq_true, Bool.not_eq_true'] at hn
  rw [hasN_iff.2 hm] at hn; exact absurd hn.1 (by simp)
 | q :: l, i + 1, j + 1, o, o', d, hn, h1, h2, h3, h4 => by
  have : nodupB (Z9 l) = true := by
   unfold Z9 at hn
   split at hn
   ·simp only [nodupB, Bool.and_eq_true] at hn; exact hn.2
   ·exact hn
  exact congrArg (· + 1) (dst_unique this (by simpa using h1) (by simpa using h2) h3 h4)
theorem allFr_get : ∀ {l : List Oper} {sv : List SV} {fr : Fr} {t : Nat} {s : SV}, sv.length = l.length → D6 (allFr l sv fr) t = some s → (∃ j o, l[j]? = some o ∧ o.dst = some t ∧ s = i7 sv j) ∨ (t ∉ Z9 l ∧ D6 fr t = some s)
 | [], [], fr, t, s, _, h => .inr ⟨by simp [Z9], h⟩
 | [], _ :: _, _, _, _, hl, _ => by simp at hl
 | _ :: _, [], _, _, _, hl, _ => by simp at hl
 | o :: l, s0 :: sv, fr, t, s, hl, h => by
  have hrec : D6 (allFr l sv fr) t = some s → (∃ j o', (o :: l)[j]? = some o' ∧ o'.dst = some t ∧ s = i7 (s0 :: sv) j) ∨ (t ∉ Z9 l ∧ D6 fr t = some s) := fun h' => by
   rcases allFr_get (by simpa using hl) h' with ⟨j, o', h1, h2, h3⟩ | h1
   ·exact .inl ⟨j + 1, o', by simpa using h1, h2, by rw [h3]; simp [i7]⟩
   ·exact .inr h1
  unfold allFr at h
  cases hd : o.dst with
  | none =>
   rw [hd] at h
   rcases hrec h with h1 | ⟨h1, h2⟩
   ·exact .inl h1
   ·exact .inr ⟨by unfold Z9; rw [hd]; exact h1, h2⟩
  | some d =>
   rw [hd] at h
   have h : D6 ((d, s0) :: allFr l sv fr) t = some s := h
   by_cases hdt : d = t
   ·subst hdt
    rw [D5] at h
    cases h
    exact .inl ⟨0, o, rfl, hd, rfl⟩
   ·rw [C8 hdt] at h
    rcases hrec h with h1 | ⟨h1, h2⟩
    ·exact .inl h1
    ·refine .inr ⟨?_, h2⟩
     unfold Z9; rw [hd]
     intro q
     rcases List.mem_cons.1 q with q | q
     ·exact hdt q.symm
     ·exact h1 q
theorem SimF.weakO {S : Ctx} {φ : Fa} {ob ob' : Obs} {G : Gh} {a : Act} {w : World} (h : SimF P S φ ob G a w) (ho : ∀ k o, D4 ob' k = some o → D4 ob k = some o) : SimF P S φ ob' G a w := by
 refine ⟨h.1.weakenO ho, fun i s hi => ?_⟩
 have h1 : Sim P S [(i, s)] ob G a w := h.sub fun j t hj => by
  by_cases he : i = j
  ·subst he; rw [D5] at hj; cases hj; exact hi
  ·rw [C8 he] at hj; simp [D6] at hj
 exact (h1.weakenO ho).facts i s (D5 _ _ _)
structure InvC (l : List Oper) (sv : List SV) (fr : Fr) (listed : Array Bool) (φ : Fa) : Prop where
 put : ∀ j o d, l[j]? = some o → listed.getD j false = true → o.dst = some d → φ d = some (i7 sv j)
 from' : ∀ t s, φ t = some s → (∃ j o, l[j]? = some o ∧ listed.getD j false = true ∧ o.dst = some t ∧ s = i7 sv j) ∨ D6 fr t = some s
 old : ∀ t s, D6 fr t = some s → t ∉ Z9 l → φ t = some s
def unl (listed : Array Bool) (n : Nat) : Nat := (List.range n).countP fun i => !(listed.getD i false)
theorem unl_set {listed : Array Bool} {i : Nat} (hs : i < listed.size) (hu : listed.getD i false = false) : ∀ {n : Nat}, i < n → unl (listed.setIfInBounds i true) n + 1 = unl listed n
 | 0, h => by omega
 | n + 1, h => by
  unfold unl
  rw [List.range_succ, List.countP_append, List.countP_append]
  have h1 : ∀ j, j ≠ i → (listed.setIfInBounds i true).getD j false = listed.getD j false := fun j hj => j5 (Ne.symm hj)
  by_cases hin : i < n
  ·have ih := unl_set hs hu hin
   unfold unl at ih
   have e : List.countP (fun i_1 => !(listed.setIfInBounds i true).getD i_1 false) [n] = List.countP (fun i => !listed.getD i false) [n] := by
    simp only [List.countP_cons, List.countP_nil, h1 n (by omega)]
   rw [e]; omega
  ·obtain rfl : i = n := by omega
   have e : List.countP (fun i_1 => !(listed.setIfInBounds i true).getD i_1 false) (List.range i) = List.countP (fun i => !listed.getD i false) (List.range i) := by
    apply List.countP_congr
    intro j hj
    rw [h1 j (by have := List.mem_range.1 hj; omega)]
   rw [e]
   have e2 : (listed.setIfInBounds i true).getD i false = true := by simp [hs]
   simp only [List.countP_cons, List.countP_nil, e2, hu]
   simp
theorem c_region_conf {id : Nat} {l : List Oper} {fr : Fr} {ob : Obs} {Q : Post} (sv : List SV) (xe : Xe) (M : List (List Nat)) (req : List (Nat × List Nat)) (hm : P.follows .mixedOrders = true) (hsv : sv.length = l.length)
  (hB : confOk nt l (xe.map (·.1)) M req = true) (h1 : ∀ i, i < l.length → ObG P nt l sv xe fr ob i (lexD (xe.map (·.1)) i)) (hfree : freeOk l.toArray sv fr xe = true) (hkeys : keysOk xe M = true) (h2 : Ob1s P nt l sv xe fr ob req)
  {fr' : Fr} (hfr' : ∀ t s, D6 fr' t = some s → (∃ j o', l[j]? = some o' ∧ o'.dst = some t ∧ s = i7 sv j) ∨ (t ∉ Z9 l ∧ D6 fr t = some s)) (hQ : Q .normal fr' (obD xe ob (xe.map (·.1)))) : WpC P nt (.region id l.toArray true) fr ob Q := by
 intro S G a w hn hs
 obtain ⟨E, hE⟩ : ∃ E, E = xe.map (·.1) := ⟨_, rfl⟩
 rw [← hE] at hB h1 hQ
 unfold confOk at hB
 simp only [Bool.and_eq_true] at hB
 obtain ⟨⟨⟨⟨⟨⟨b1, b2⟩, b3⟩, b4⟩, b5⟩, b6⟩, b7⟩ := hB
 have hop : ∀ i o, l[i]? = some o → o.guard = none ∧ (∀ d, o.dst = some d → d < nt) ∧ (turns o.op = V6 E i) ∧ (turns o.op = true ∨ ∃ d, o.dst = some d) ∧ (∀ u ∈ V1 o.op, ∀ j oj, l[j]? = some oj → oj.dst = some u → Bef l.toArray i j = true) ∧
   (∀ j, Bef l.toArray i j = true → j < i) ∧ (∀ e ∈ o.after.toList, Region.binds .any e = true → e.on < i) ∧ (∀ D ∈ M, possD l.toArray E i D = true → D = lexD E i ∨ (i, D) ∈ req) := by
  intro i o ho
  have hlt : i < l.length := (List.getElem?_eq_some_iff.1 ho).1
  have hmem : o ∈ l := List.mem_of_getElem? ho
  have q1 := List.all_eq_true.1 b1 o hmem
  have q2 := List.all_eq_true.1 b2 i (List.mem_range.2 hlt)
  simp only [List.getElem?_toArray, ho] at q2
  simp only [Bool.and_eq_true] at q1 q2
  obtain ⟨q3, q4, q5, q6, q7⟩ := q2
  obtain ⟨q8, q9⟩ := q5
  refine ⟨by simpa using q1.1, ?_, by simpa using q3, ?_, ?_, ?_, ?_, ?_⟩
  ·intro d hd
   have := q1.2
   rw [hd] at this
   simpa using this
  ·rcases (Bool.or_eq_true _ _).mp q4 with h | h
   ·exact .inl h
   ·exact .inr (Option.isSome_iff_exists.1 h)
  ·intro u hu j oj hj hd
   have hjlt : j < l.length := (List.getElem?_eq_some_iff.1 hj).1
   have := List.all_eq_true.1 (List.all_eq_true.1 q8 u hu) j (List.mem_range.2 hjlt)
   simp only [hj, hd] at this
   simpa using this
  ·intro j hj
   rcases Nat.lt_or_ge j l.length with hjl | hjl
   ·have := List.all_eq_true.1 q9 j (List.mem_range.2 hjl)
    rw [hj] at this
    simpa using this
   ·-- an operation is behind none that there isn't
    exfalso
    obtain ⟨o1, ho1, e1, he1, hb1, hh⟩ := bef_step hj
    rw [List.getElem?_toArray, ho] at ho1
    cases ho1
    have hlt1 := List.all_eq_true.1 q6 e1 he1
    have hlt1 : e1.on < i := by rw [hb1] at hlt1; simpa using hlt1
    have chain : ∀ m, m < l.length → ∀ j, Bef l.toArray m j = true → j < l.length := by
     intro m
     induction m using Nat.strongRecOn with
     | _ m ih =>
      intro hml j' hj'
      obtain ⟨o2, ho2, e2, he2, hb2, hh2⟩ := bef_step hj'
      rw [List.getElem?_toArray] at ho2
      have r2 := List.all_eq_true.1 b2 m (List.mem_range.2 hml)
      simp only [List.getElem?_toArray, ho2] at r2
      simp only [Bool.and_eq_true] at r2
      have r6 := List.all_eq_true.1 r2.2.2.2.1 e2 he2
      have r6 : e2.on < m := by rw [hb2] at r6; simpa using r6
      rcases hh2 with e3 | ⟨h3, h4⟩
      ·omega
      ·exact ih e2.on r6 (by omega) j' h4
    have := chain i hlt j hj
    omega
  ·intro e he hbe
   have := List.all_eq_true.1 q6 e he
   rw [hbe] at this
   simpa using this
  ·intro D hD hp
   have := List.all_eq_true.1 q7 D hD
   rw [hp] at this
   simp only [Bool.not_true, Bool.false_or, Bool.or_eq_true] at this
   rcases this with h | h
   ·exact .inl (sameL_eq h)
   ·obtain ⟨p, hp1, hp2⟩ := List.any_eq_true.1 h
    simp only [Bool.and_eq_true] at hp2
    have e1 := Nat.eq_of_beq_eq_true hp2.1
    have e2 := sameL_eq hp2.2
    obtain ⟨p1, p2⟩ := p
    simp only at e1 e2
    rw [← e1, ← e2]; exact .inr hp1
 have hob : ∀ i o, l[i]? = some o → ∀ D ∈ M, possD l.toArray E i D = true → ∃ U, UIn l sv fr o U ∧ ((turns o.op = false ∧ Neu P o U (obD xe ob D) (fun s => s = i7 sv i)) ∨
   ∃ new x, xAt xe i = some (new, x) ∧ EffQ P nt l.toArray o U new (obD xe ob D) x (i7 sv i)) := by
  intro i o ho D hD hp
  have hlt : i < l.length := (List.getElem?_eq_some_iff.1 ho).1
  have : ObG P nt l sv xe fr ob i D := by
   rcases (hop i o ho).2.2.2.2.2.2.2 D hD hp with rfl | h
   ·exact h1 i hlt
   ·obtain ⟨o', ho', h⟩ := h2.get _ h
    refine ⟨o', _, ho', fun t s ht => ⟨j4 ht, allFr_get hsv (X4 ht)⟩, h⟩
  obtain ⟨o', U, ho', hU, h⟩ := this
  rw [ho] at ho'; cases ho'
  exact ⟨U, hU, h⟩
 have hdst : ∀ (j t : Nat), (l.toArray[j]?).bind (fun o => o.dst) = some t → t < nt := by
  intro j t ht
  cases ho : l[j]? with
  | none => simp [ho] at ht
  | some o => simp [ho] at ht; exact (hop j o ho).2.1 t ht
 refine wp_region_any hm ?_
 have hxw : Below w.heap.size w { w with drawn := w.drawn + 1 } := ⟨rfl, rfl, rfl, Nat.le_refl _, fun _ _ => rfl⟩
 have hs' : SimF P S (D6 fr) ob G a { w with drawn := w.drawn + 1 } := (simF_iff.2 hs).ext hxw
 have key : ∀ (fuel : Nat) (listed : Array Bool) (φ : Fa) (G : Gh) (a : Act) (w : World), listed.size = l.length → unl listed l.length = fuel → Closed l.toArray listed → (E.filter fun j => listed.getD j false) ∈ M → InvC l sv fr listed φ → SimF P S φ (obD xe ob (E.filter fun j => listed.getD j false)) G a w →
   wpAny P .any l.toArray (PostOf P S Q) fuel listed a w := by
  intro fuel
  induction fuel with
  | zero =>
   intro listed φ G a w hsz hu hc hM hI hsf
   have hall : ∀ j, j < l.length → listed.getD j false = true := by
    intro j hj
    unfold unl at hu
    have := (List.countP_eq_zero.1 hu) j (List.mem_range.2 hj)
    simpa using this
   have hready : Region.ready .any l.toArray listed = [] := by
    cases hr : Region.ready .any l.toArray listed with
    | nil => rfl
    | cons i r =>
     exfalso
     have hi : i ∈ Region.ready .any l.toArray listed := by rw [hr]; exact List.mem_cons_self ..
     have h3 := K2 hi
     obtain ⟨_, o, ho, _⟩ := mem_ready.1 hi
     rw [List.getElem?_toArray] at ho
     rw [hall i (List.getElem?_eq_some_iff.1 ho).1] at h3; cases h3
   refine ⟨hready, ?_⟩
   have hEl : (E.filter fun j => listed.getD j false) = E := by
    rw [List.filter_eq_self]
    intro e he
    exact hall e (by simpa using List.all_eq_true.1 b5 e he)
   rw [hEl] at hsf
   refine ⟨fr', obD xe ob E, G, hQ, simF_iff.1 ⟨hsf.1, fun t s ht => hsf.2 t s ?_⟩⟩
   rcases hfr' t s ht with ⟨j, o, h3, h4, rfl⟩ | ⟨h3, h4⟩
   ·exact hI.put j o t h3 (hall j (List.getElem?_eq_some_iff.1 h3).1) h4
   ·exact hI.old t s h4 h3
  | succ fuel ih =>
   intro listed φ G a w hsz hu hc hM hI hsf
   refine ⟨fun h0 => ?_, fun i hi => ?_⟩
   ·-- some operation is ready
    exfalso
    have hex : ∃ j, j < l.length ∧ listed.getD j false = false := by
     refine Classical.byContradiction fun hno => ?_
     have : unl listed l.length = 0 := by
      unfold unl
      refine List.countP_eq_zero.2 fun j hj => ?_
      have hj := List.mem_range.1 hj
      cases hb : listed.getD j false
      ·exact absurd ⟨j, hj, hb⟩ hno
      ·simp
     omega
    have hmin : ∀ n, (∃ j, j < n ∧ j < l.length ∧ listed.getD j false = false) → ∃ j, j < l.length ∧ listed.getD j false = false ∧ ∀ p, p < j → listed.getD p false = true := by
     intro n
     induction n with
     | zero => rintro ⟨j, hj, _⟩; omega
     | succ n ihn =>
      rintro ⟨j, hj, hjl, hjf⟩
      by_cases hlow : ∃ j', j' < n ∧ j' < l.length ∧ listed.getD j' false = false
      ·exact ihn hlow
      ·refine ⟨j, hjl, hjf, fun p hp => ?_⟩
       cases hb : listed.getD p false
       ·exact absurd ⟨p, by omega, by omega, hb⟩ hlow
       ·rfl
    obtain ⟨j, hj1, hj2⟩ := hex
    obtain ⟨j, hjl, hjf, hjp⟩ := hmin (j + 1) ⟨j, by omega, hj1, hj2⟩
    have ho : l[j]? = some l[j] := List.getElem?_eq_getElem hjl
    have hjr : j ∈ Region.ready .any l.toArray listed := by
     refine mem_ready.2 ⟨?_, l[j], by rw [List.getElem?_toArray]; exact ho, fun e he hb => ?_⟩
     ·have hsz2 : j < listed.size := by omega
      simp only [Array.getD_eq_getD_getElem?, Array.getElem?_eq_getElem hsz2] at hjf ⊢
      simpa using hjf
     ·have := (hop j _ ho).2.2.2.2.2.2.1 e (Array.mem_toList_iff.2 he) hb
      exact hjp _ this
    rw [h0] at hjr; cases hjr
   ·have hiu := K2 hi
    obtain ⟨_, o, ho, hall⟩ := mem_ready.1 hi
    rw [List.getElem?_toArray] at ho
    have hlt : i < l.length := (List.getElem?_eq_some_iff.1 ho).1
    obtain ⟨g1, g2, g3, g4, g5, g6, g7, g8⟩ := hop i o ho
    obtain ⟨D, hD⟩ : ∃ D, D = E.filter fun j => listed.getD j false := ⟨_, rfl⟩
    rw [← hD] at hM hsf
    have hDl : ∀ e, e ∈ D ↔ e ∈ E ∧ listed.getD e false = true := fun e => by rw [hD, List.mem_filter]
    have hbi : ∀ j, Bef l.toArray i j = true → listed.getD j false = true := fun j hj => Q1 hc i hj (fun o' ho' e he hb => by
     rw [List.getElem?_toArray, ho] at ho'; cases ho'
     exact hall e (Array.mem_toList_iff.1 he) hb)
    have hpo : possD l.toArray E i D = true := by
     unfold possD
     simp only [Bool.and_eq_true, Bool.not_eq_true', List.all_eq_true, Bool.or_eq_true]
     refine ⟨?_, fun j hj => ?_, fun j hj => ?_⟩
     ·cases hb : V6 D i
      ·rfl
      ·have := ((hDl i).1 (hasN_iff.1 hb)).2
       rw [hiu] at this; cases this
     ·cases hb : Bef l.toArray i j
      ·exact .inl rfl
      ·exact .inr (hasN_iff.2 ((hDl j).2 ⟨hj, hbi j hb⟩))
     ·cases hb : Bef l.toArray j i
      ·rfl
      ·have hjl := ((hDl j).1 hj).2
       have : listed.getD i false = true := Q1 hc j hb (fun o' ho' e he hbd => hc j o' ho' hjl e he hbd)
       rw [hiu] at this; cases this
    have htoldU : ∀ U, UIn l sv fr o U → Told U φ := by
     intro U hU t s ht
     obtain ⟨hus, h3⟩ := hU t s ht
     rcases h3 with ⟨j, oj, h3, h4, rfl⟩ | ⟨h3, h4⟩
     ·exact hI.put j oj t h3 (hbi j (g5 t hus j oj h3 h4)) h4
     ·exact hI.old t s h4 h3
    have hcl2 := K1 hc hi
    have hsz2 : (listed.setIfInBounds i true).size = l.length := by simpa using hsz
    have hul : unl (listed.setIfInBounds i true) l.length = fuel := by
     have := unl_set (by omega) hiu hlt
     omega
    have hinv : ∀ φ', φ' = (match o.dst with | some d => S5 φ d (i7 sv i) | none => φ) → InvC l sv fr (listed.setIfInBounds i true) φ' := by
     intro φ' hφ
     have hset : ∀ j, (listed.setIfInBounds i true).getD j false = true ↔ j = i ∨ listed.getD j false = true := by
      intro j
      by_cases hj : j = i
      ·subst hj
       simp only [true_or, iff_true]
       simp [show j < listed.size by omega]
      ·rw [j5 (Ne.symm hj)]
       simp [hj]
     cases hdo : o.dst with
     | none =>
      rw [hdo] at hφ
      have hφ : φ' = φ := hφ
      subst hφ
      refine ⟨fun j oj d h3 h4 h5 => ?_, fun t s h3 => ?_, hI.old⟩
      ·rcases (hset j).1 h4 with rfl | h4
       ·rw [ho] at h3; cases h3; rw [hdo] at h5; cases h5
       ·exact hI.put j oj d h3 h4 h5
      ·rcases hI.from' t s h3 with ⟨j, oj, h4, h5, h6⟩ | h4
       ·exact .inl ⟨j, oj, h4, (hset j).2 (.inr h5), h6⟩
       ·exact .inr h4
     | some d0 =>
      rw [hdo] at hφ
      have hφ : φ' = S5 φ d0 (i7 sv i) := hφ
      subst hφ
      refine ⟨fun j oj d h3 h4 h5 => ?_, fun t s h3 => ?_, fun t s h3 h4 => ?_⟩
      ·unfold S5
       rcases (hset j).1 h4 with rfl | h4
       ·rw [ho] at h3; cases h3; rw [hdo] at h5; cases h5; rw [if_pos rfl]
       ·by_cases hdd : d = d0
        ·subst hdd
         have := dst_unique b3 h3 ho h5 hdo
         subst this
         rw [if_pos rfl]
        ·rw [if_neg hdd]; exact hI.put j oj d h3 h4 h5
      ·unfold S5 at h3
       by_cases hdd : t = d0
       ·rw [if_pos hdd] at h3; cases h3
        exact .inl ⟨i, o, ho, (hset i).2 (.inl rfl), by rw [hdd]; exact hdo, rfl⟩
       ·rw [if_neg hdd] at h3
        rcases hI.from' t s h3 with ⟨j, oj, h4, h5, h6⟩ | h4
        ·exact .inl ⟨j, oj, h4, (hset j).2 (.inr h5), h6⟩
        ·exact .inr h4
      ·unfold S5
       have : t ≠ d0 := fun q => h4 (by rw [q]; exact dstL_get ho hdo)
       rw [if_neg this]; exact hI.old t s h3 h4
    unfold wpOp
    simp only [List.getElem?_toArray, ho]
    rw [if_pos (by simp [Region.wanted, g1])]
    obtain ⟨U, hU, hob'⟩ := hob i o ho D hM hpo
    have htold := htoldU U hU
    rcases hob' with ⟨ht, hneu⟩ | ⟨new, x, hx, hq⟩
    ·refine .inl (N6 (hneu S G a w (hsf.sub fun t s ht => htold t s ht)) ?_)
     rintro v w' ⟨hxw2, s, rfl, hv⟩
     have hnE : V6 E i = false := by rw [← g3]; exact ht
     have hDe : (E.filter fun j => (listed.setIfInBounds i true).getD j false) = D := by
      rw [hD]
      apply List.filter_congr
      intro j hj
      have : j ≠ i := fun q => by rw [← q, hasN_iff.2 hj] at hnE; cases hnE
      exact j5 (Ne.symm this)
     obtain ⟨d0, hd0⟩ := g4.resolve_left (by rw [ht]; simp)
     rw [hd0]
     refine ih (listed.setIfInBounds i true) (S5 φ d0 (i7 sv i)) G _ w' hsz2 hul hcl2 (by rw [hDe]; exact hM) (hinv _ (by rw [hd0])) ?_
     rw [hDe]
     exact (hsf.ext hxw2).put (by rw [hn]; exact g2 d0 hd0) hv
    ·have hiE : i ∈ E := by rw [hE]; exact List.mem_map.2 ⟨_, xAt_mem hx, rfl⟩
     have hDe : (E.filter fun j => (listed.setIfInBounds i true).getD j false) = insD i D := by
      rw [hD]; exact filter_ins (by omega) hiu b4 hiE
     have hM2 : insD i D ∈ M := by
      have := List.all_eq_true.1 (List.all_eq_true.1 b7 D hM) i hiE
      rw [hpo] at this
      exact memM_mem (by simpa using this)
     have hfr : new = true → FreeF x.1 φ := by
      intro hnew
      have hf : ∀ (xs : Xe), freeOk l.toArray sv fr xs = true → (i, new, x) ∈ xs → I3 x.1 (frBut l.toArray i sv fr) = true := by
       intro xs
       induction xs with
       | nil => intro _ h; simp at h
       | cons y r ihx =>
        obtain ⟨e', n', x'⟩ := y
        intro hok hmem
        simp only [freeOk, Bool.and_eq_true, Bool.or_eq_true] at hok
        rcases List.mem_cons.1 hmem with q | q
        ·cases q
         rcases hok.1 with q | q
         ·rw [hnew] at q; simp at q
         ·exact q
        ·exact ihx hok.2 q
      have hfe := hf xe hfree (xAt_mem hx)
      unfold frBut at hfe
      have hap : ∀ (a b : Fr), I3 x.1 (a ++ b) = true → I3 x.1 a = true ∧ I3 x.1 b = true := by
       intro a b
       induction a with
       | nil => intro h; exact ⟨rfl, h⟩
       | cons y r iha =>
        obtain ⟨j, s⟩ := y
        intro h
        simp only [List.cons_append, I3, Bool.and_eq_true] at h ⊢
        exact ⟨⟨h.1, (iha h.2).1⟩, (iha h.2).2⟩
      obtain ⟨hf1, hf2⟩ := hap _ _ hfe
      intro t s hts
      rcases hI.from' t s hts with ⟨j, oj, h4, h5, h6, rfl⟩ | h4
      ·have hmemf : ∀ (a : List Nat), I3 x.1 (a.map fun j => (j, i7 sv j)) = true → j ∈ a → (i7 sv j).free x.1 = true := by
        intro a
        induction a with
        | nil => intro _ h; simp at h
        | cons y r iha =>
         intro hok hmem
         simp only [List.map_cons, I3, Bool.and_eq_true] at hok
         rcases List.mem_cons.1 hmem with rfl | q
         ·exact hok.1
         ·exact iha hok.2 q
       refine hmemf _ hf1 (List.mem_filter.2 ⟨List.mem_range.2 ?_, ?_⟩)
       ·simpa using (List.getElem?_eq_some_iff.1 h4).1
       ·have hji : j ≠ i := fun q => by rw [q, hiu] at h5; cases h5
        have hbf : Bef l.toArray j i = false := by
         cases hb : Bef l.toArray j i
         ·rfl
         ·have : listed.getD i false = true := Q1 hc j hb (fun o' ho' e he hbd => hc j o' ho' h5 e he hbd)
          rw [hiu] at this; cases this
        rw [O5 hji, hbf]; rfl
      ·exact freeF_of hf2 t s h4
     obtain ⟨_, hstep⟩ := hq φ htold hfr
     refine .inl (N6 (hstep S G a w hn hsf) ?_)
     rintro v w' ⟨φ', ob'', G', ⟨hφ, rfl⟩, hs2⟩
     refine ih (listed.setIfInBounds i true) φ' G' _ w' hsz2 hul hcl2 (by rw [hDe]; exact hM2) (hinv φ' hφ) ?_
     rw [hDe]
     refine hs2.weakO (getO_ins hx ?_)
     intro d hd hid y hy
     have hk := List.all_eq_true.1 (List.all_eq_true.1 (List.all_eq_true.1 hkeys D hM) _ (xAt_mem hx)) d hd
     simp only [Bool.or_eq_true, Bool.not_eq_true'] at hk
     rcases hk with (hk | hk) | hk
     ·have := ((hDl i).1 (hasN_iff.1 hk)).2
      rw [hiu] at this; cases this
     ·have : Nat.blt i d = true := by simpa using hid
      rw [this] at hk; cases hk
     ·rw [hy] at hk
      intro q
      simp only [Bool.not_eq_true'] at hk
      rw [q, Nat.beq_refl] at hk; cases hk
 have hlist0 : ∀ j, (Array.replicate l.length false).getD j false = false := by
  intro j
  simp only [Array.getD_eq_getD_getElem?]
  rcases Nat.lt_or_ge j l.length with h' | h'
  ·simp [h']
  ·simp [h']
 have hf0 : (E.filter fun j => (Array.replicate l.length false).getD j false) = [] := by
  rw [List.filter_eq_nil_iff]; intro e _; rw [hlist0]; simp
 have hu0 : unl (Array.replicate l.length false) l.length = l.length := by
  unfold unl
  have : (List.range l.length).countP (fun i => !(Array.replicate l.length false).getD i false) = (List.range l.length).length := by
   rw [List.countP_eq_length]; intro i _; rw [hlist0]; rfl
  rw [this, List.length_range]
 have := key l.length (Array.replicate l.length false) (D6 fr) G a _ (by simp) hu0 (fun j o ho hl => by rw [hlist0] at hl; cases hl) (by rw [hf0]; exact memM_mem b6) ⟨fun j o d _ h4 _ => (by rw [hlist0] at h4; cases h4), fun t s h3 => .inr h3, fun t s h3 _ => h3⟩ (by rw [hf0]; exact hs')
 simpa using this
def Lex1 (P : Program) (nt : Nat) (ops : Array Oper) (K : Fr → Obs → List SV → Xe → Prop) : Nat → List Oper → Fr → Obs → List SV → Xe → Prop
 | _, [], fr, ob, sv, xe => K fr ob sv.reverse xe
 | i, o :: l, fr, ob, sv, xe =>
  (turns o.op = false ∧ ∃ s d, o.dst = some d ∧ Neu P o (P3 fr (V1 o.op)) ob (fun s' => s' = s) ∧ Lex1 P nt ops K (i + 1) l ((d, s) :: fr) ob (s :: sv) xe) ∨
  (∃ new x s, EffQ P nt ops o (P3 fr (V1 o.op)) new ob x s ∧ Lex1 P nt ops K (i + 1) l (match o.dst with | some d => (d, s) :: fr | none => fr) (x :: ob) (s :: sv) ((i, new, x) :: xe))
def u6 : List Oper → List SV → Fr → Fr
 | o :: l, s :: sv, fr => u6 l sv (match o.dst with | some d => (d, s) :: fr | none => fr)
 | _, _, fr => fr
theorem accFr_get : ∀ {l : List Oper} {sv : List SV} {fr : Fr} {t : Nat} {s : SV}, sv.length = l.length → D6 (u6 l sv fr) t = some s → (∃ j o, l[j]? = some o ∧ o.dst = some t ∧ s = i7 sv j) ∨ (t ∉ Z9 l ∧ D6 fr t = some s)
 | [], [], fr, t, s, _, h => .inr ⟨by simp [Z9], h⟩
 | [], _ :: _, _, _, _, hl, _ => by simp at hl
 | _ :: _, [], _, _, _, hl, _ => by simp at hl
 | o :: l, s0 :: sv, fr, t, s, hl, h => by
  unfold u6 at h
  rcases accFr_get (by simpa using hl) h with ⟨j, o', h1, h2, h3⟩ | ⟨h1, h2⟩
  ·exact .inl ⟨j + 1, o', by simpa using h1, h2, by rw [h3]; simp [i7]⟩
  ·cases hd : o.dst with
   | none =>
    rw [hd] at h2
    exact .inr ⟨by unfold Z9; rw [hd]; exact h1, h2⟩
   | some d =>
    rw [hd] at h2
    have h2 : D6 ((d, s0) :: fr) t = some s := h2
    by_cases hdt : d = t
    ·subst hdt
     rw [D5] at h2
     cases h2
     exact .inl ⟨0, o, rfl, hd, rfl⟩
    ·rw [C8 hdt] at h2
     refine .inr ⟨?_, h2⟩
     unfold Z9; rw [hd]
     intro q
     rcases List.mem_cons.1 q with q | q
     ·exact hdt q.symm
     ·exact h1 q
def At1 (P : Program) (nt : Nat) (ops : Array Oper) (o : Oper) (i : Nat) (fr : Fr) (ob : Obs) (s : SV) (xe : Xe) : Prop :=
 (turns o.op = false ∧ Neu P o (P3 fr (V1 o.op)) ob (fun s' => s' = s)) ∨ ∃ new x, xAt xe i = some (new, x) ∧ EffQ P nt ops o (P3 fr (V1 o.op)) new ob x s
def obsX (ob : Obs) : Xe → Obs
 | [] => ob
 | (_, _, x) :: r => x :: obsX ob r
theorem xAt_app {a b : Xe} {e : Nat} (h : ∀ p ∈ a, p.1 ≠ e) : xAt (a ++ b) e = xAt b e := by
 induction a with
 | nil => rfl
 | cons y r ih =>
  obtain ⟨i, y⟩ := y
  have h1 : i ≠ e := h (i, y) (List.mem_cons_self ..)
  show cond (Nat.beq i e) (some y) (xAt (r ++ b) e) = _
  rw [O5 h1]
  exact ih fun p hp => h p (List.mem_cons_of_mem _ hp)
theorem lex1_get {ops : Array Oper} {K : Fr → Obs → List SV → Xe → Prop} {ob0 : Obs} : ∀ {l : List Oper} {i : Nat} {fr : Fr} {ob : Obs} {sv : List SV} {xe : Xe}, Lex1 P nt ops K i l fr ob sv xe → ob = obsX ob0 xe → (∀ p ∈ xe, p.1 < i) →
  ∃ sv' xe', sv'.length = l.length ∧ (∀ p ∈ xe', i ≤ p.1 ∧ p.1 < i + l.length) ∧ desc (xe'.map (·.1)) = true ∧ K (u6 l sv' fr) (obsX ob0 (xe' ++ xe)) (sv.reverse ++ sv') (xe' ++ xe) ∧
   ∀ j o, l[j]? = some o → ∃ xa xb, xe' = xa ++ xb ∧ (∀ p ∈ xb, p.1 < i + j) ∧ (∀ p ∈ xa, i + j ≤ p.1) ∧ At1 P nt ops o (i + j) (u6 (l.take j) (sv'.take j) fr) (obsX ob0 (xb ++ xe)) (i7 sv' j) xe'
 | [], i, fr, ob, sv, xe, h, hob, _ => by
  refine ⟨[], [], rfl, by simp, rfl, ?_, fun j o ho => by simp at ho⟩
  rw [List.append_nil, List.nil_append, ← hob]; exact h
 | o :: l, i, fr, ob, sv, xe, h, hob, hx => by
  rcases h with ⟨ht, s, d, hd, hn, hr⟩ | ⟨new, x, s, hq, hr⟩
  ·obtain ⟨sv', xe', h1, h2, h3, h4, h5⟩ := lex1_get (ob0 := ob0) hr hob (fun p hp => by have := hx p hp; omega)
   have hacc : u6 (o :: l) (s :: sv') fr = u6 l sv' ((d, s) :: fr) := by
    show u6 l sv' (match o.dst with | some d => (d, s) :: fr | none => fr) = _
    rw [hd]
   refine ⟨s :: sv', xe', by simp [h1], fun p hp => by have := h2 p hp; simp only [List.length_cons]; omega, h3, ?_, ?_⟩
   ·rw [hacc]
    simpa using h4
   ·intro j o' ho'
    cases j with
    | zero =>
     simp at ho'; subst ho'
     refine ⟨xe', [], by simp, by simp, fun p hp => by have := h2 p hp; omega, ?_⟩
     rw [List.nil_append, ← hob]
     exact .inl ⟨ht, hn⟩
    | succ j =>
     obtain ⟨xa, xb, e1, e2, e3, e4⟩ := h5 j o' (by simpa using ho')
     refine ⟨xa, xb, e1, fun p hp => by have := e2 p hp; omega, fun p hp => by have := e3 p hp; omega, ?_⟩
     have e5 : u6 ((o :: l).take (j + 1)) ((s :: sv').take (j + 1)) fr = u6 (l.take j) (sv'.take j) ((d, s) :: fr) := by
      show u6 (l.take j) (sv'.take j) (match o.dst with | some d => (d, s) :: fr | none => fr) = _
      rw [hd]
     rw [e5, show i + (j + 1) = i + 1 + j by omega, show i7 (s :: sv') (j + 1) = i7 sv' j by simp [i7]]
     exact e4
  ·obtain ⟨sv', xe', h1, h2, h3, h4, h5⟩ := lex1_get (ob0 := ob0) hr (by rw [hob]; rfl) (fun p hp => by
    rcases List.mem_cons.1 hp with rfl | hp
    ·exact Nat.lt_succ_self _
    ·have := hx p hp; omega)
   refine ⟨s :: sv', xe' ++ [(i, new, x)], by simp [h1], ?_, ?_, ?_, ?_⟩
   ·intro p hp
    rcases List.mem_append.1 hp with hp | hp
    ·have := h2 p hp; simp only [List.length_cons]; omega
    ·simp at hp; subst hp; simp only [List.length_cons]; omega
   ·have hda : ∀ (a : List Nat) (b : Nat), desc a = true → (∀ x ∈ a, b < x) → desc (a ++ [b]) = true := by
     intro a b
     induction a with
     | nil => intro _ _; rfl
     | cons y r ih =>
      intro h6 h7
      simp only [desc, Bool.and_eq_true] at h6
      simp only [List.cons_append, desc, Bool.and_eq_true]
      refine ⟨List.all_eq_true.2 fun z hz => ?_, ih h6.2 fun x hx => h7 x (List.mem_cons_of_mem _ hx)⟩
      rcases List.mem_append.1 hz with hz | hz
      ·exact List.all_eq_true.1 h6.1 z hz
      ·simp at hz; subst hz; simpa using h7 y (List.mem_cons_self ..)
    rw [List.map_append]
    refine hda _ i h3 fun y hy => ?_
    obtain ⟨p, hp, rfl⟩ := List.mem_map.1 hy
    have := h2 p hp; omega
   ·have e : u6 (o :: l) (s :: sv') fr = u6 l sv' (match o.dst with | some d => (d, s) :: fr | none => fr) := rfl
    rw [e]
    simpa using h4
   ·intro j o' ho'
    cases j with
    | zero =>
     simp at ho'; subst ho'
     refine ⟨xe' ++ [(i, new, x)], [], by simp, by simp, ?_, ?_⟩
     ·intro p hp
      rcases List.mem_append.1 hp with hp | hp
      ·have := h2 p hp; omega
      ·simp at hp; subst hp; simp
     ·rw [List.nil_append, ← hob]
      refine .inr ⟨new, x, ?_, hq⟩
      rw [xAt_app (fun p hp => by have := h2 p hp; omega)]
      show cond (Nat.beq i (i + 0)) _ _ = _
      rw [Nat.add_zero, Nat.beq_refl]; rfl
    | succ j =>
     obtain ⟨xa, xb, e1, e2, e3, e4⟩ := h5 j o' (by simpa using ho')
     refine ⟨xa, xb ++ [(i, new, x)], by rw [e1]; simp, ?_, fun p hp => by have := e3 p hp; omega, ?_⟩
     ·intro p hp
      rcases List.mem_append.1 hp with hp | hp
      ·have := e2 p hp; omega
      ·simp at hp; subst hp; simp
     ·have e5 : u6 ((o :: l).take (j + 1)) ((s :: sv').take (j + 1)) fr = u6 (l.take j) (sv'.take j) (match o.dst with | some d => (d, s) :: fr | none => fr) := rfl
      rw [e5, show i + (j + 1) = i + 1 + j by omega, show i7 (s :: sv') (j + 1) = i7 sv' j by simp [i7], List.append_assoc]
      rcases e4 with e4 | ⟨n', x', e6, e7⟩
      ·exact .inl e4
      ·refine .inr ⟨n', x', ?_, e7⟩
       have hxe : ∀ (a b : Xe) (e : Nat) y, xAt a e = some y → xAt (a ++ b) e = some y := by
        intro a b e y
        induction a with
        | nil => intro h; cases h
        | cons z r ih =>
         obtain ⟨q, z⟩ := z
         intro h
         show cond (Nat.beq q e) (some z) (xAt (r ++ b) e) = _
         unfold xAt at h
         cases hb : Nat.beq q e
         ·rw [hb] at h; exact ih h
         ·rw [hb] at h; exact h
       exact hxe _ _ _ _ e6
def Rest1 (P : Program) (nt : Nat) (l : List Oper) (M : List (List Nat)) (req : List (Nat × List Nat)) (E : List Nat) (fr0 : Fr) (ob0 : Obs) (Q : Post) (fr : Fr) (ob : Obs) (sv : List SV) (xe : Xe) : Prop :=
 (u5 (xe.map (·.1)) E && (freeOk l.toArray sv fr0 xe && keysOk xe M)) = true ∧ Ob1s P nt l sv xe fr0 ob0 req ∧ Q .normal fr ob
theorem obD_desc {ob : Obs} : ∀ {xe : Xe}, desc (xe.map fun p => p.1) = true → obD xe ob (xe.map fun p => p.1) = obsX ob xe := by
 have key : ∀ (all : Xe) (xe : Xe), (∀ p ∈ xe, xAt all p.1 = some p.2) → obD all ob (xe.map (·.1)) = obsX ob xe := by
  intro all xe
  induction xe with
  | nil => intro _; rfl
  | cons y r ih =>
   intro h
   obtain ⟨i, n, x⟩ := y
   have h1 := h (i, n, x) (List.mem_cons_self ..)
   have h1 : xAt all i = some (n, x) := h1
   show (match xAt all i with | some x => x.2 :: obD all ob (r.map (fun p : Nat × Bool × (Nat × Ob) => p.1)) | none => obD all ob (r.map (fun p : Nat × Bool × (Nat × Ob) => p.1))) = _
   rw [h1, ih fun p hp => h p (List.mem_cons_of_mem _ hp)]
   rfl
 intro xe h
 refine key xe xe ?_
 have look : ∀ (xe : Xe), desc (xe.map (·.1)) = true → ∀ p ∈ xe, xAt xe p.1 = some p.2 := by
  intro xe
  induction xe with
  | nil => intro _ p hp; simp at hp
  | cons y r ih =>
   intro h p hp
   obtain ⟨i, y⟩ := y
   simp only [List.map_cons, desc, Bool.and_eq_true] at h
   rcases List.mem_cons.1 hp with rfl | hp
   ·show cond (Nat.beq i i) (some y) _ = _
    rw [Nat.beq_refl]; rfl
   ·have hlt : p.1 < i := by simpa using List.all_eq_true.1 h.1 p.1 (List.mem_map.2 ⟨p, hp, rfl⟩)
    show cond (Nat.beq i p.1) (some y) (xAt r p.1) = _
    rw [O5 (by omega)]
    exact ih h.2 p hp
 exact look xe h
theorem obD_low {ob : Obs} {xa xb : Xe} {j : Nat} (hd : desc ((xa ++ xb).map (·.1)) = true) (ha : ∀ p ∈ xa, j ≤ p.1) (hb : ∀ p ∈ xb, p.1 < j) : obD (xa ++ xb) ob (lexD ((xa ++ xb).map (·.1)) j) = obsX ob xb := by
 have e : lexD ((xa ++ xb).map (·.1)) j = xb.map (·.1) := by
  unfold lexD
  rw [List.map_append, List.filter_append, List.filter_eq_nil_iff.2, List.nil_append, List.filter_eq_self.2]
  ·intro y hy
   obtain ⟨p, hp, rfl⟩ := List.mem_map.1 hy
   simpa using hb p hp
  ·intro y hy
   obtain ⟨p, hp, rfl⟩ := List.mem_map.1 hy
   have := ha p hp
   simp; omega
 rw [e]
 have hd2 : desc (xb.map (·.1)) = true := by
  have : ∀ (a b : List Nat), desc (a ++ b) = true → desc b = true := by
   intro a b
   induction a with
   | nil => exact fun h => h
   | cons y r ih => intro h; simp only [List.cons_append, desc, Bool.and_eq_true] at h; exact ih h.2
  rw [List.map_append] at hd
  exact this _ _ hd
 rw [← obD_desc (ob := ob) hd2]
 have hl : ∀ (D : List Nat), (∀ e ∈ D, e < j) → obD (xa ++ xb) ob D = obD xb ob D := by
  intro D
  induction D with
  | nil => intro _; rfl
  | cons e D ih =>
   intro h
   have h1 : xAt (xa ++ xb) e = xAt xb e := xAt_app fun p hp => by
    have := ha p hp
    have := h e (List.mem_cons_self ..)
    omega
   show (match xAt (xa ++ xb) e with | some x => x.2 :: obD (xa ++ xb) ob D | none => obD (xa ++ xb) ob D) = (match xAt xb e with | some x => x.2 :: obD xb ob D | none => obD xb ob D)
   rw [h1, ih fun e' he' => h e' (List.mem_cons_of_mem _ he')]
 refine hl _ fun e he => ?_
 obtain ⟨p, hp, rfl⟩ := List.mem_map.1 he
 exact hb p hp
theorem c_region_any {id : Nat} {l : List Oper} {fr : Fr} {ob : Obs} {Q : Post} (E : List Nat) (M : List (List Nat)) (req : List (Nat × List Nat)) (hm : P.follows .mixedOrders = true)
  (hB : confOk nt l E M req = true) (h : Lex1 P nt l.toArray (Rest1 P nt l M req E fr ob Q) 0 l fr ob [] []) : WpC P nt (.region id l.toArray true) fr ob Q := by
 obtain ⟨sv, xe, h1, h2, h3, h4, h5⟩ := lex1_get (ob0 := ob) h rfl (fun p hp => by simp at hp)
 rw [List.append_nil, List.reverse_nil, List.nil_append] at h4
 obtain ⟨hc, hreq, hQ⟩ := h4
 simp only [Bool.and_eq_true] at hc
 have hE := sameL_eq hc.1
 have hcf := hB
 unfold confOk at hcf
 simp only [Bool.and_eq_true] at hcf
 obtain ⟨⟨⟨⟨⟨⟨b1, b2⟩, b3⟩, b4⟩, b5⟩, b6⟩, b7⟩ := hcf
 refine c_region_conf sv xe M req hm h1 (by rw [hE]; exact hB) ?_ hc.2.1 hc.2.2 hreq (fr' := u6 l sv fr) (fun t s ht => accFr_get h1 ht) (by rw [obD_desc h3]; exact hQ)
 intro i hi
 have ho : l[i]? = some l[i] := List.getElem?_eq_getElem hi
 obtain ⟨xa, xb, e1, e2, e3, e4⟩ := h5 i _ ho
 rw [Nat.zero_add] at e2 e3 e4
 rw [List.append_nil] at e4
 have hob : obD xe ob (lexD (xe.map (·.1)) i) = obsX ob xb := by
  rw [e1] at h3 ⊢
  exact obD_low h3 e3 e2
 have hU : UIn l sv fr l[i] (P3 (u6 (l.take i) (sv.take i) fr) (V1 l[i].op)) := by
  intro t s ht
  have hus := j4 ht
  refine ⟨hus, ?_⟩
  have q2 := List.all_eq_true.1 b2 i (List.mem_range.2 hi)
  simp only [List.getElem?_toArray, ho] at q2
  simp only [Bool.and_eq_true] at q2
  obtain ⟨q3, q4, q5, q6, q7⟩ := q2
  rcases accFr_get (by rw [List.length_take, List.length_take]; omega) (X4 ht) with ⟨j, o', h6, h7, h8⟩ | ⟨h6, h7⟩
  ·have hj : j < i := by
    have := (List.getElem?_eq_some_iff.1 h6).1
    rw [List.length_take] at this; omega
   rw [List.getElem?_take_of_lt hj] at h6
   refine .inl ⟨j, o', h6, h7, ?_⟩
   rw [h8]; unfold i7
   rw [List.getD_eq_getElem?_getD, List.getD_eq_getElem?_getD, List.getElem?_take_of_lt hj]
  ·refine .inr ⟨?_, h7⟩
   intro hin
   have hex : ∀ (m : List Oper) (t : Nat), t ∈ Z9 m → ∃ (j : Nat) (o' : Oper), m[j]? = some o' ∧ o'.dst = some t := by
    intro m t
    induction m with
    | nil => intro h; simp [Z9] at h
    | cons o m ih =>
     intro h
     unfold Z9 at h
     cases hd : o.dst with
     | none => rw [hd] at h; obtain ⟨j, o', h1, h2⟩ := ih h; exact ⟨j + 1, o', by simpa using h1, h2⟩
     | some d =>
      rw [hd] at h
      rcases List.mem_cons.1 h with rfl | h
      ·exact ⟨0, o, rfl, hd⟩
      ·obtain ⟨j, o', h1, h2⟩ := ih h; exact ⟨j + 1, o', by simpa using h1, h2⟩
   obtain ⟨j, o', h8, h9⟩ := hex l t hin
   have hjl : j < l.length := (List.getElem?_eq_some_iff.1 h8).1
   have hbf := List.all_eq_true.1 (List.all_eq_true.1 q5.1 t hus) j (List.mem_range.2 hjl)
   simp only [h8, h9] at hbf
   have hbf : Bef l.toArray i j = true := by simpa using hbf
   have hlt := List.all_eq_true.1 q5.2 j (List.mem_range.2 hjl)
   rw [hbf] at hlt
   have hlt : j < i := by simpa using hlt
   exact h6 (dstL_get (l := l.take i) (j := j) (by rw [List.getElem?_take_of_lt hlt]; exact h8) h9)
 refine ⟨l[i], _, ho, hU, ?_⟩
 rw [hob]
 rcases e4 with ⟨e5, e6⟩ | ⟨n, x, e5, e6⟩
 ·exact .inl ⟨e5, e6⟩
 ·exact .inr ⟨n, x, e5, e6⟩
theorem u7 {ops : Array Oper} {K : Fr → Obs → List SV → Xe → Prop} {i d : Nat} {l : List Oper} {fr : Fr} {ob : Obs} {sv : List SV} {xe : Xe} {op : Op} {ty : TypeId} {pos : String} {af : Array Edge} {gd : Option (Nat × Bool)} {s : SV} (ht : turns op = false)
  (h : Neu P ⟨some d, op, ty, pos, af, gd⟩ (P3 fr (V1 op)) ob (fun s' => s' = s)) (k : Lex1 P nt ops K (i + 1) l ((d, s) :: fr) ob (s :: sv) xe) : Lex1 P nt ops K i (⟨some d, op, ty, pos, af, gd⟩ :: l) fr ob sv xe :=
 .inl ⟨ht, s, d, rfl, h, k⟩
theorem a_alloc {ops : Array Oper} {K : Fr → Obs → List SV → Xe → Prop} {i al : Nat} {l : List Oper} {fr : Fr} {ob : Obs} {sv : List SV} {xe : Xe} {ty : TypeId} {pos : String} {af : Array Edge} (k : Nat) {e : TypeId} {z : Value} [hz : TyZero P e z] (h2 : M7 k ob = true) (hd : Nat.blt al nt = true)
  (kk : Lex1 P nt ops K (i + 1) l ((al, .s (.one (.ref k 0))) :: fr) ((k, .box (z.cells.toList.map fun c => .p (.v c))) :: ob) ((.s (.one (.ref k 0))) :: sv) ((i, true, (k, .box (z.cells.toList.map fun c => .p (.v c)))) :: xe)) :
  Lex1 P nt ops K i (⟨some al, .alloc e, ty, pos, af, none⟩ :: l) fr ob sv xe :=
 .inr ⟨true, _, _, q_alloc h2 hd, kk⟩
theorem a_store {ops : Array Oper} {K : Fr → Obs → List SV → Xe → Prop} {i : Nat} {l : List Oper} {fr : Fr} {ob : Obs} {sv : List SV} {xe : Xe} {op : Op} {ty : TypeId} {pos : String} {af : Array Edge} {x : Nat × Ob} (h : EffU P ⟨none, op, ty, pos, af, none⟩ (P3 fr (V1 op)) ob (x :: ob))
  (kk : Lex1 P nt ops K (i + 1) l fr (x :: ob) (.any :: sv) ((i, false, x) :: xe)) : Lex1 P nt ops K i (⟨none, op, ty, pos, af, none⟩ :: l) fr ob sv xe :=
 .inr ⟨false, x, .any, q_store h, kk⟩
theorem a_nil {ops : Array Oper} {l : List Oper} {M : List (List Nat)} {req : List (Nat × List Nat)} {E : List Nat} {fr0 : Fr} {ob0 : Obs} {Q : Post} {i : Nat} {fr : Fr} {ob : Obs} {sv : List SV} {xe : Xe}
  (hc : (u5 (xe.map (·.1)) E && (freeOk l.toArray sv.reverse fr0 xe && keysOk xe M)) = true) (h2 : Ob1s P nt l sv.reverse xe fr0 ob0 req) (h3 : Q .normal fr ob) : Lex1 P nt ops (Rest1 P nt l M req E fr0 ob0 Q) i [] fr ob sv xe := ⟨hc, h2, h3⟩
theorem o_nil {l : List Oper} {sv : List SV} {xe : Xe} {fr : Fr} {ob : Obs} : Ob1s P nt l sv xe fr ob [] := trivial
theorem O6 {l : List Oper} {sv : List SV} {xe : Xe} {fr : Fr} {ob : Obs} {i : Nat} {D : List Nat} {r : List (Nat × List Nat)} {o : Oper} (ho : l[i]? = some o) (ht : turns o.op = false) (h : Neu P o (P3 (allFr l sv fr) (V1 o.op)) (obD xe ob D) (fun s' => s' = i7 sv i))
  (k : Ob1s P nt l sv xe fr ob r) : Ob1s P nt l sv xe fr ob ((i, D) :: r) := ⟨⟨o, ho, .inl ⟨ht, h⟩⟩, k⟩
theorem o_alloc {l : List Oper} {sv : List SV} {xe : Xe} {fr : Fr} {ob : Obs} {i : Nat} {D : List Nat} {r : List (Nat × List Nat)} {al k : Nat} {e : TypeId} {z : Value} {ty : TypeId} {pos : String} {af : Array Edge} (ho : l[i]? = some ⟨some al, .alloc e, ty, pos, af, none⟩) [hz : TyZero P e z]
  (hx : xAt xe i = some (true, (k, .box (z.cells.toList.map fun c => .p (.v c))))) (h2 : M7 k (obD xe ob D) = true) (hd : Nat.blt al nt = true) (hs : i7 sv i = .s (.one (.ref k 0)))
  (kk : Ob1s P nt l sv xe fr ob r) : Ob1s P nt l sv xe fr ob ((i, D) :: r) := ⟨⟨_, ho, .inr ⟨true, _, hx, by rw [hs]; exact q_alloc h2 hd⟩⟩, kk⟩
end
end Go.AL
namespace Go.AL
open Go Go.RowKit
set_option linter.unusedVariables false
section
variable {P : Program} {dst : Option Tmp} {ty : TypeId} {pos : String} {af : Array Edge} {gd : Option (Nat × Bool)} {fr : Fr} {ob : Obs}
def refsOf (fr : Fr) : List Operand → Option (List (Nat × Nat))
 | [] => some []
 | x :: r => match opv fr x with
  | some (.s (.one (.ref k o))) => (refsOf fr r).map ((k, o) :: ·)
  | _ => none
theorem refsOf_rep {S : Ctx} {G : Gh} {a : Act} {w : World} (h : Sim P S fr ob G a w) : ∀ (xs : List Operand) (ps : List (Nat × Nat)), refsOf fr xs = some ps → All2 (RefAt G) ps (xs.map a.eval)
 | [], ps, h1 => by simp [refsOf] at h1; subst h1; trivial
 | x :: r, ps, h1 => by
  unfold refsOf at h1
  split at h1
  ·rename_i k o hx
   cases hr : refsOf fr r with
   | none => rw [hr] at h1; simp at h1
   | some qs =>
    rw [hr] at h1
    simp at h1
    subst h1
    exact ⟨H6 h hx, refsOf_rep h r qs hr⟩
  ·cases h1
theorem n_makeFunc {f : FuncId} {first cap : List Operand} {nf nc : List (Nat × Nat)} (h1 : refsOf fr first = some nf) (h2 : refsOf fr cap = some nc) :
  Neu P ⟨dst, .makeFunc (.func f) first.toArray cap.toArray, ty, pos, af, gd⟩ fr ob (fun s' => s' = .s (.one (.clo f nf nc))) :=
 E7 fun S G a w h => by
  refine ⟨.func (.func f) (first.map a.eval).toArray (cap.map a.eval).toArray, ?_, _, _, rfl, refsOf_rep h first nf h1, refsOf_rep h cap nc h2⟩
  simp [execOp, Instr.makeFunc]
abbrev refS (p : Nat × Nat) : S1 := .one (.ref p.1 p.2)
theorem refs_rep {rd : Rd} {G : Gh} : ∀ {l : List (Nat × Nat)} {us : List Value}, All2 (RefAt G) l us → All2 (S1.rep rd G) (l.map refS) us
 | [], [], _ => trivial
 | [], _ :: _, h => h.elim
 | _ :: _, [], h => h.elim
 | _ :: l, _ :: us, h => ⟨h.1, refs_rep h.2⟩
section
variable {nt : Nat} {ops : Array Oper} {rest : List Oper} {Q : Post} {d : Nat}
theorem w8 {f : FuncId} {g : Operand} {xs : List Operand} {ats : Array TypeId} {ty : TypeId} {pos : String} {af : Array Edge} {nf nc : List (Nat × Nat)} {args : List S1} {ks : List Nat} {post : List S1 → Obs → Prop}
  (hf : Met P f (nf.map refS ++ args ++ nc.map refS) (shF fr) ob ks post) (hg : opv fr g = some (.s (.one (.clo f nf nc)))) (ha : argsS fr xs = some args) (hc : xs.all L3 = true) (hd : Nat.blt d nt = true)
  (kk : ∀ rs ob', post rs ob' → WpL P nt ops rest ((d, resS rs) :: J7 ks fr) ob' Q) : WpL P nt ops (⟨some d, .call ⟨.value g, xs.toArray, ats⟩, ty, pos, af, none⟩ :: rest) fr ob Q := by
 intro S G a w hn h
 obtain ⟨vs, ws, hgv, hvs, hws⟩ := H6 h hg
 have hvals : All2 (S1.rep (F3 (Mut S ob G) w) G) (nf.map refS ++ args ++ nc.map refS) (vs ++ xs.map a.eval ++ ws) := ((refs_rep hvs).append (argsS_rep h xs args ha hc)).append (refs_rep hws)
 obtain ⟨gv, hgv2⟩ : ∃ gv : Nat → Value, gv = fun i => S.sl a (i - 1000000) := ⟨_, rfl⟩
 let S' : Ctx := { S with gv := gv }
 have hhigh : High (shF fr) := fun i s hi => (m8 fr i s hi).1
 have hfacts0 : ∀ i s, D6 (shF fr) i = some s → s.rep (F3 (Mut S' ob G) w) G (S'.sl a i) := by
  intro i s hi
  obtain ⟨h7, h8⟩ := m8 fr i s hi
  rw [Ctx.sl_ge h7]
  show s.rep _ _ (gv i)
  have e := congrFun hgv2 i
  rw [e]
  exact h.facts (i - 1000000) s h8
 have hs : Sim P S' (shF fr) ob G a w := { h with facts := hfacts0 }
 have hcalls := hf.2 hhigh S' G a w _ hs hvals
 refine wpList_plain rfl fun K hK => N6 (K := fun v w' => ∃ rs ob' G', post rs ob' ∧ ResRepS (F3 (Mut S' ob' G') w') G' rs v ∧ Sim P S' (J7 ks (shF fr)) ob' G' a w') ?_ ?_
 ·have he : (execOp a.eval ⟨some d, .call ⟨.value g, xs.toArray, ats⟩, ty, pos, af, none⟩).run P w = .ok (.enter f (vs ++ xs.map a.eval ++ ws).toArray) w := by
   have := Y7 (P := P) (f := f) (args := (vs ++ xs.map a.eval ++ ws).toArray) (w := w) hf.1
   simp only [execOp, resolve, hgv, Deferred.ofValue, Sem.run_bind, Sem.run_pure, Result.andThen_ok, invoke]
   rw [show vs.toArray ++ Array.map a.eval xs.toArray ++ ws.toArray = (vs ++ xs.map a.eval ++ ws).toArray by simp]
   exact this
  unfold Does
  rw [he]
  refine hcalls.mono ?_
  rintro e w' ⟨v, rs, ob', G', rfl, hpost, hres, hs'⟩
  exact ⟨v, rfl, rs, ob', G', hpost, hres, hs'⟩
 ·rintro v w' ⟨rs, ob', G', hp, hres, hs'⟩
  have hlt : d < S.nt := by rw [hn]; simpa using hd
  have hfacts : ∀ i s, D6 (J7 ks fr) i = some s → s.rep (F3 (Mut S ob' G') w') G' (S.sl a i) := by
   intro i s hi
   have h7 := hs'.facts (i + 1000000) s (by rw [t7]; exact shF_get hi)
   have h8 : 1000000 ≤ i + 1000000 := Nat.le_add_left _ _
   rw [Ctx.sl_ge h8] at h7
   have h7 : s.rep (F3 (Mut S ob' G') w') G' (gv (i + 1000000)) := h7
   have e := congrFun hgv2 (i + 1000000)
   simp only [Nat.add_sub_cancel] at e
   rw [e] at h7
   exact h7
  have hsim : Sim P S (J7 ks fr) ob' G' a w' := { hs' with facts := hfacts }
  exact hK _ _ (kk rs ob' hp S G' _ w' hn (hsim.put hlt hres))
theorem i8 {t f : Nat} (ht : D6 fr t = some (J9 (.func (.func f) #[] #[]))) : Sees P nt fr ob ((t, .s (.one (.clo f [] []))) :: fr) ob := by
 intro S G a w hn h
 refine ⟨G, { h with facts := fun i s hi => ?_ }⟩
 by_cases he : t = i
 ·subst he
  rw [D5] at hi
  cases hi
  have := h.facts t _ ht
  exact ⟨[], [], this.1, trivial, trivial⟩
 ·rw [C8 he] at hi; exact h.facts i s hi
end
theorem n_slice_mut_lh {x yl yh : Operand} {t e : TypeId} {bytes ec k : Nat} {α : Type} {c : α → Nat → Cell} {xs : List α} {kl kh : IntKind} {i j : Int} [ht : TySl P t e ec bytes] (hx : opv fr x = some (.s (.one (.mut k)))) (hk : D4 ob k = some (.arr α ec c xs))
  (hyl : opv fr yl = some (J9 (.int kl i))) (hyh : opv fr yh = some (J9 (.int kh j))) (h0 : 0 ≤ i) (h1 : i ≤ j) (h2 : j ≤ xs.length) :
  Neu P ⟨dst, .slice t x (some yl) (some yh) none, ty, pos, af, gd⟩ fr ob (fun s' => s' = .s (.one (.msl k ec i.toNat (j.toNat - i.toNat)))) :=
 E7 fun S G a w h => by
  obtain ⟨hu, _⟩ := H6 h hx
  obtain ⟨b, vs, t', hg, hlen, _⟩ := h.obs k _ hk
  rw [hg] at hu
  refine ⟨sliced (some ⟨b, 0, none⟩) i.toNat j.toNat xs.length ec, ?_, b, xs.length, xs.length, xs.length - i.toNat, if xs.length = i.toNat then 0 else i.toNat * ec, hg, by omega, ?_, by omega, hlen, ?_⟩
  ·simp only [execOp, hu, G8 h hyl, G8 h hyh, Option.map_some, Option.map_none]
   refine M6 ?_
   obtain ⟨he1, he2⟩ := ht.elem
   simp only [Instr.sliceAt, Sem.run_bind, run_underlying ht.out.1, Result.andThen_ok]
   rw [run_slice_lh w t (some ⟨b, 0, none⟩) xs.length xs.length he1 kl kh i j h0 h1 (by omega), he2, L7 ht.size]
   rfl
  ·unfold sliced; split <;> simp [*, Addr.add_lit]
  ·by_cases hq : xs.length = i.toNat
   ·left; omega
   ·right; rw [if_neg hq]
theorem T0 {x y : Operand} {t e : TypeId} {ec bytes k o n : Nat} {ki : IntKind} {i : Int} [ht : TySl P t e ec bytes] (hx : opv fr x = some (.s (.one (.msl k ec o n))))
  (hy : opv fr y = some (J9 (.int ki i))) (h0 : 0 ≤ i) (h1 : i < n) : Neu P ⟨dst, .indexAddr t x y, ty, pos, af, gd⟩ fr ob (fun s' => s' = .s (.one (.mref k ec (o + i.toNat) 0))) :=
 E7 fun S G a w h => by
  obtain ⟨b, m, cap, cap', o', hg, hm, hu, _, _, ho⟩ := H6 h hx
  have ho : o' = o * ec := ho.resolve_left (by omega)
  subst ho
  refine ⟨.pointer (some ⟨b, (o + i.toNat) * ec, none⟩), ?_, b, m, cap, hg, rfl⟩
  simp only [execOp, hu, G8 h hy]
  refine M6 ?_
  have hb : 0 ≤ i ∧ i < (n : Int) := ⟨h0, h1⟩
  simp [Instr.indexAt, run_underlying ht.out.1, asIntOf, hb, L7 ht.size, Addr.add_lit, Nat.add_mul]
def w9 {κ : Type} [DecidableEq κ] : List (κ × Cell) → κ → Option Cell
 | [], _ => none
 | (k, c) :: r, a => if k = a then some c else w9 r a
class TyMap (P : Program) (t : TypeId) (kt : outParam TypeId) (kd : outParam TypeDesc) (z : outParam Value) : Prop where
 out : ∃ et, P.underlying t = some (.map kt et) ∧ P.underlying kt = some kd ∧ (P.info? et).bind (·.zero) = some z ∧ z.oneCell' = true
theorem f_makeMap (k : Nat) (κ : Type) (kf : κ → Value) {t : TypeId} (hf : (I3 k fr && M7 k ob) = true) :
  EffV P ⟨dst, .makeMap t none, ty, pos, af, gd⟩ fr ob (.s (.one (.mut k))) fr ((k, .map κ kf []) :: ob) := by
 simp only [Bool.and_eq_true] at hf
 obtain ⟨h1, h2⟩ := hf
 obtain ⟨h4, h5, hp⟩ := U4 h2
 intro S G a w h
 refine K4 (w' := w.alloc (.map #[] 0)) (v := .map (some w.heap.size)) ?_ ?_
 ·simp only [execOp, Option.map_none]
  exact M6 rfl
 ·have hxw : Below w.heap.size w (w.alloc (.map #[] 0)) := (Below.refl _ _).alloc (Nat.le_refl _) _
  have hu : ∀ b, blk (.map (some w.heap.size)) = some b → w.heap.size ≤ b := by intro b hb; simp [blk] at hb; omega
  have h6 := h.new (o := .map κ kf []) hp h5 hxw hu ⟨w.heap.size, #[], 0, rfl, heap_alloc_new w _, trivial⟩
  rw [V5 h1, h4] at h6
  exact ⟨upd G k (.map (some w.heap.size)), h6, (J2 _ _ _).symm, rfl⟩
theorem find_spec {κ : Type} [DecidableEq κ] {kf : κ → Value} {kd : TypeDesc} (hkey : ∀ a, MapKept.IsKey kd (kf a)) (hinj : ∀ a b, kf a = kf b → a = b) {rd : Rd} (a : κ) : ∀ (kvs : List (κ × Cell)) (es : List MapEntry) (i : Nat),
  All2 (fun (kv : κ × Cell) (e : MapEntry) => e.key = kf kv.1 ∧ kv.2.rep rd e.val) kvs es →
  (w9 kvs a = none ∧ Instr.findNow kd (kf a) es i = some none) ∨ ∃ c j v, w9 kvs a = some c ∧ Instr.findNow kd (kf a) es i = some (some (j, v)) ∧ c.rep rd v
 | [], [], _, _ => .inl ⟨rfl, rfl⟩
 | [], _ :: _, _, h => h.elim
 | _ :: _, [], _, h => h.elim
 | (k, c) :: kvs, e :: es, i, h => by
  obtain ⟨⟨h1, h2⟩, h3⟩ := h
  obtain ⟨r, hr, hiff⟩ := MapKept.sameNow_of_keys (hkey a) (hkey k)
  have hr' : Instr.sameNow kd (kf a) e.key = some r := by rw [h1]; exact hr
  by_cases he : k = a
  ·subst he
   have : r = true := hiff.2 rfl
   subst this
   exact .inr ⟨c, i, e.val, by simp [w9], by simp [Instr.findNow, hr'], h2⟩
  ·have : r = false := by
    cases r
    ·rfl
    ·exact absurd (hinj _ _ (hiff.1 rfl)).symm he
   subst this
   rcases find_spec hkey hinj a kvs es (i + 1) h3 with ⟨h4, h5⟩ | ⟨c', j, v, h4, h5, h6⟩
   ·exact .inl ⟨by simp [w9, he, h4], by simp [Instr.findNow, hr', h5]⟩
   ·exact .inr ⟨c', j, v, by simp [w9, he, h4], by simp [Instr.findNow, hr', h5], h6⟩
theorem n_lookup {x y : Operand} {t kt : TypeId} {kd : TypeDesc} {z : Value} {k : Nat} {κ : Type} [DecidableEq κ] {kf : κ → Value} {kvs : List (κ × Cell)} (a0 : κ) {r : Option Cell} [ht : TyMap P t kt kd z] (hx : opv fr x = some (.s (.one (.mut k)))) (hk : D4 ob k = some (.map κ kf kvs))
  (hy : opv fr y = some (J9 (kf a0))) (hkey : ∀ a, MapKept.IsKey kd (kf a)) (hinj : ∀ a b, kf a = kf b → a = b) (hr : w9 kvs a0 = r) :
  Neu P ⟨dst, .lookup t x y true, ty, pos, af, gd⟩ fr ob (fun s' => s' = .tup [.one (.p (r.getD (.v z))), .one (.p (.v (.bool r.isSome)))]) :=
 E7 fun S G a w h => by
  obtain ⟨et, u1, u2, u3, u4⟩ := ht.out
  obtain ⟨hu, _⟩ := H6 h hx
  obtain ⟨b, es, clock, hg, hh, ha⟩ := h.obs k _ hk
  rw [hg] at hu
  subst hr
  rcases find_spec hkey hinj a0 kvs es.toList 0 ha with ⟨h4, h5⟩ | ⟨c, j, v, h4, h5, h6⟩
  ·refine ⟨.tuple #[z, .bool false], ?_, [z, .bool false], rfl, ?_⟩
   ·simp only [execOp, hu, G8 h hy]
    refine M6 ?_
    simp only [Instr.lookup, Sem.run_bind, run_underlying u1, Result.andThen_ok, MapKept.run_getObj_map hh, Sem.run_pure, MapKept.run_checkKey u2 (hkey a0), MapKept.run_findKey u2 h5, T9 u3]
    rfl
   ·rw [h4]; exact ⟨⟨rfl, u4⟩, ⟨rfl, rfl⟩, trivial⟩
  ·refine ⟨.tuple #[v, .bool true], ?_, [v, .bool true], rfl, ?_⟩
   ·simp only [execOp, hu, G8 h hy]
    refine M6 ?_
    simp only [Instr.lookup, Sem.run_bind, run_underlying u1, Result.andThen_ok, MapKept.run_getObj_map hh, Sem.run_pure, MapKept.run_checkKey u2 (hkey a0), MapKept.run_findKey u2 h5]
    rfl
   ·rw [h4]; exact ⟨h6, ⟨rfl, rfl⟩, trivial⟩
theorem e_mapNew {x y v : Operand} {t kt : TypeId} {kd : TypeDesc} {z : Value} {k : Nat} {κ : Type} [DecidableEq κ] {kf : κ → Value} {kvs : List (κ × Cell)} (a0 : κ) {c : Cell} [ht : TyMap P t kt kd z] (hx : opv fr x = some (.s (.one (.mut k)))) (hk : D4 ob k = some (.map κ kf kvs))
  (hy : opv fr y = some (J9 (kf a0))) (hv : opv fr v = some (.s (.one (.p c)))) (hc : L3 v = true) (hkey : ∀ a, MapKept.IsKey kd (kf a)) (hinj : ∀ a b, kf a = kf b → a = b) (hr : w9 kvs a0 = none) :
  Eff P ⟨none, .mapUpdate t x y v, ty, pos, af, gd⟩ fr ob fr ((k, .map κ kf (kvs ++ [(a0, c)])) :: ob) := by
 intro S G a w h
 obtain ⟨et, u1, u2, u3, u4⟩ := ht.out
 obtain ⟨hu, _⟩ := H6 h hx
 obtain ⟨b, es, clock, hg, hh, ha⟩ := h.obs k _ hk
 rw [hg] at hu
 have hrv : c.rep (F3 (Mut S ob G) w) (a.eval v) := T3 h hv hc
 obtain ⟨h5, h6⟩ := MapKept.heap_set (o' := .map (es.push { key := kf a0, val := a.eval v, born := clock }) (clock + 1)) hh
 have hf : Instr.findNow kd (kf a0) es.toList 0 = some none := by
  rcases find_spec hkey hinj a0 kvs es.toList 0 ha with ⟨_, h5⟩ | ⟨c, j, v, h4, _, _⟩
  ·exact h5
  ·rw [hr] at h4; cases h4
 have he : (execOp a.eval ⟨none, .mapUpdate t x y v, ty, pos, af, gd⟩).run P w = .ok .skip { w with heap := w.heap.setIfInBounds b (.map (es.push { key := kf a0, val := a.eval v, born := clock }) (clock + 1)) } := by
  simp only [execOp, hu, G8 h hy]
  simp only [Instr.mapUpdate, Sem.run_bind, run_underlying u1, Result.andThen_ok, MapKept.run_getObj_map hh, MapKept.run_checkKey u2 (hkey a0), MapKept.run_findKey u2 hf, MapKept.run_setObj_map _ hh]
  rfl
 unfold Does
 rw [he]
 have hbk : blk (G k) = some b := by rw [hg]; rfl
 refine ⟨G, h.write hk hbk (fun i => ⟨hbk, trivial⟩) (fun i => ⟨hbk, trivial⟩) rfl rfl rfl (by simp) (fun j _ hne => h6 j hne) ?_⟩
 intro rd hrd
 refine ⟨b, _, _, hg, h5, ?_⟩
 rw [Array.toList_push]
 exact (ha.mono fun _ _ ⟨e1, e2⟩ => ⟨e1, Cell.rep_mono hrd _ _ e2⟩).append ⟨⟨rfl, Cell.rep_mono hrd _ _ hrv⟩, trivial⟩
abbrev strK (s : List UInt8) : Value := .string ⟨s.toArray⟩
theorem strK_key (a : List UInt8) : MapKept.IsKey .string (strK a) := trivial
theorem strK_inj (a b : List UInt8) (h : strK a = strK b) : a = b := by
 simp only [strK, Value.string.injEq, ByteArray.mk.injEq] at h
 simpa using congrArg Array.toList h
end
end Go.AL
namespace Go.AL
open Go Go.RowKit
set_option linter.unusedVariables false
section
variable {P : Program} {dst : Option Tmp} {ty : TypeId} {pos : String} {af : Array Edge} {gd : Option (Nat × Bool)} {fr : Fr} {ob : Obs}
theorem n_slice_hm {x yh ym : Operand} {t e : TypeId} {bytes ec : Nat} {s : SV} {α : Type} {c : α → Nat → Cell} {xs : List α} {kh km : IntKind} {j m : Int} [ht : TySl P t e ec bytes] (hx : opv fr x = some s) (hl : IsList s α ec c xs)
  (hyh : opv fr yh = some (J9 (.int kh j))) (hym : opv fr ym = some (J9 (.int km m))) (h0 : 0 ≤ j) (h2 : j ≤ xs.length) (hm : m = j) :
  Neu P ⟨dst, .slice t x none (some yh) (some ym), ty, pos, af, gd⟩ fr ob (fun s' => s' = .s (.one (.full α ec c (xs.take j.toNat)))) :=
 E7 fun S G a w h => by
  subst hm
  have hr := X5 h hx hl
  obtain ⟨ad, cap, hu, hcap, _⟩ := T8 hr
  rw [hu] at hr
  have hp := rep_part (lo := 0) (hi := m.toNat) hr (by omega) (by omega)
  rw [List.drop_zero, Nat.sub_zero] at hp
  have hform : sliced ad 0 m.toNat m.toNat ec = .slice (if m.toNat = 0 then ad else ad.map (·.add 0)) m.toNat m.toNat := by simp [sliced]
  refine ⟨sliced ad 0 m.toNat m.toNat ec, ?_, ?_, ?_⟩
  ·simp only [execOp, hu, G8 h hyh, G8 h hym, Option.map_some, Option.map_none]
   refine M6 ?_
   obtain ⟨he1, he2⟩ := ht.elem
   simp only [Instr.sliceAt, Sem.run_bind, run_underlying ht.out.1, Result.andThen_ok]
   rw [run_slice_any w t ad xs.length cap he1, he2]
   have hb : (Instr.sliceBounds true xs.length cap none (some (.int kh m)) (some (.int km m))).run P w = .ok (0, m.toNat, m.toNat) w := by
    have e : (m.toNat : Int) = m := by omega
    simp only [Instr.sliceBounds, Sem.run_bind, run_sliceBound, Sem.run_pure, Result.andThen_ok]
    rw [run_sliceBound w km m _ _ h0 (by omega)]
    simp only [Result.andThen_ok]
    rw [run_sliceBound w kh m _ _ h0 (by omega)]
    simp
   rw [hb]
   simp only [Result.andThen_ok]
   rw [L7 ht.size]
   rfl
  ·-- the cells are those of the list's beginning
   simp only [Cell.rep] at hp ⊢
   obtain ⟨a', cap', he, ⟨h3, h3'⟩, h4, h5⟩ := hp
   have hlen : (xs.take m.toNat).length = m.toNat := by rw [List.length_take]; omega
   rw [hlen] at he
   have hfo : sliced ad 0 m.toNat cap ec = .slice (if cap = 0 then ad else ad.map (·.add (0 * ec))) m.toNat cap := by simp [sliced]
   rw [hfo] at he
   injection he with he1 he2 he3
   by_cases hz : m.toNat = 0
   ·refine ⟨if m.toNat = 0 then ad else ad.map (·.add 0), m.toNat, by rw [hlen, hform], ⟨Nat.le_of_eq hlen, fun _ => hz⟩, h4, .inl (hlen.trans hz)⟩
   ·have hcz : cap ≠ 0 := by omega
    rw [if_neg hcz] at he1
    refine ⟨a', m.toNat, ?_, ⟨Nat.le_of_eq hlen, fun hn => ?_⟩, h4, h5⟩
    ·rw [hlen, hform, if_neg hz, ← he1]; simp
    ·have := h3' hn; omega
  ·rw [hform]
   refine ⟨_, by rw [show (xs.take m.toNat).length = m.toNat by rw [List.length_take]; omega]⟩
theorem e_append_full (k : Nat) {x y : Operand} {α : Type} {ec bytes : Nat} {c : α → Nat → Cell} {xs ys : List α} {t e : TypeId} {s : SV} [ht : TySl P t e ec bytes] (hx : opv fr x = some (.s (.one (.full α ec c xs))))
  (hy : opv fr y = some s) (hl : IsList s α ec c ys) (hlen : xs.length + ys.length ≤ 1073741824) (hys : 0 < ys.length) (hf : (I3 k fr && M7 k ob) = true) :
  EffV P ⟨dst, .call ⟨.builtin .append, #[x, y], #[t, t]⟩, ty, pos, af, gd⟩ fr ob (.s (.one (.buf k α ec c (xs ++ ys)))) fr ((k, .spare (xs ++ ys).length ec e) :: ob) := by
 simp only [Bool.and_eq_true] at hf
 obtain ⟨hf1, hf2⟩ := hf
 obtain ⟨h4, h5, hp⟩ := U4 hf2
 intro S G a w h
 obtain ⟨hts, hinfo, hec, hby, hzero⟩ := ht.out
 cases hi : P.info? e with
 | none => simp [hi] at hinfo
 | some i =>
 simp [hi] at hinfo
 obtain ⟨hsz, hbytes⟩ := hinfo
 cases hz : i.zero with
 | none => simp [hi, hz] at hzero
 | some z =>
 simp [hi, hz] at hzero
 obtain ⟨hrx, a0, hux⟩ := H6 h hx
 have hry := X5 h hy hl
 obtain ⟨ad, cap, vx, hux', hcapx, hlx, hvlx, honex, hvx, hrdx⟩ := X6 hrx
 rw [hux] at hux'
 injection hux' with e1 e2 e3
 subst e1
 obtain ⟨ady, capy, vy, huy, hcapy, hly, hvly, honey, hvy, hrdy⟩ := X6 hry
 obtain ⟨by', oy, hady, hry2⟩ := hrdy.resolve_left (by omega)
 have hbig : (xs.length + ys.length) * bytes ≤ 140737488355328 := by
  have : (xs.length + ys.length) * bytes ≤ 1073741824 * 4096 := Nat.mul_le_mul hlen hby
  omega
 have hmax : xs.length + ys.length ≤ maxLen := by unfold maxLen; omega
 obtain ⟨gc, hgc⟩ : ∃ gc, gc = grownCap w (xs.length + ys.length) xs.length e := ⟨_, rfl⟩
 have hge := grownCap_ge w (xs.length + ys.length) xs.length e
 have hcm := grownCap_le_maxLen w (xs.length + ys.length) xs.length e hmax
 rw [← hgc] at hge hcm
 have hrun : (Builtin.append_ #[t, t] ty #[a.eval x, a.eval y]).run P w = .ok (.slice (some ⟨w.heap.size, 0, none⟩) (xs.length + ys.length) gc) (w.drew.alloc (.cells (vx.toArray ++ vy.toArray ++ Builtin.zeroCells z.cells (gc - (xs.length + ys.length))) e)) := by
  rw [hux, huy, hady]
  rcases hrdx with h0 | ⟨bx, ox, hax, hrx2⟩
  ·have hx0 : xs = [] := List.eq_nil_of_length_eq_zero h0
   subst hx0
   have hvx0 : vx = [] := List.eq_nil_of_length_eq_zero (by rw [hvlx]; simp)
   subst hvx0
   cases a0 with
   | none =>
    have hr2 := run_append_nil (P := P) w t ty e i z hts hi hz ⟨by', oy, none⟩ ys.length capy vy (by rw [hsz]; exact hvly) (fun j v hj => by rw [Addr.add_lit]; exact (hry2 j v hj).1) hys (by omega) (by rw [hbytes]; simp at hbig; omega)
    simp only [List.length_nil, Nat.zero_add] at hgc ⊢
    rw [hgc]
    simpa using hr2
   | some ab =>
    have hr2 := run_append_grow (P := P) w t ty e i z hts hi hz ab 0 0 [] (by simp) (by simp) ⟨by', oy, none⟩ ys.length capy vy (by rw [hsz]; exact hvly) (fun j v hj => by rw [Addr.add_lit]; exact (hry2 j v hj).1) (by omega) (by omega) (growslice_fits (by omega) (by rw [hbytes]; simpa using hbig))
    simp only [List.length_nil] at hgc ⊢
    rw [hgc]
    simpa using hr2
  ·rw [hax]
   have hr2 := run_append_grow (P := P) w t ty e i z hts hi hz ⟨bx, ox, none⟩ xs.length xs.length vx (by rw [hsz]; exact hvlx) (fun j v hj => by rw [Addr.add_lit]; exact (hrx2 j v hj).1) ⟨by', oy, none⟩ ys.length capy vy (by rw [hsz]; exact hvly) (fun j v hj => by rw [Addr.add_lit]; exact (hry2 j v hj).1) (by omega) (by omega) (growslice_fits (by omega) (by rw [hbytes]; exact hbig))
   rw [hgc]; exact hr2
 obtain ⟨cells, hcells⟩ : ∃ cells, cells = vx.toArray ++ vy.toArray ++ Builtin.zeroCells z.cells (gc - (xs.length + ys.length)) := ⟨_, rfl⟩
 rw [← hcells] at hrun
 have hlen2 : (vx ++ vy).length = (xs.length + ys.length) * ec := by rw [List.length_append, hvlx, hvly, Nat.add_mul]
 have hown : (w.drew.alloc (.cells cells e)).ownsRow S.B e ec (.slice (some ⟨w.heap.size, 0, none⟩) (xs.length + ys.length) gc) (xs ++ ys).length (vx ++ vy) := by
  rw [List.length_append]
  refine ⟨hlen2, .inr ⟨w.heap.size, gc, cells, rfl, h.size, heap_alloc_new w.drew _, hge, hcm, ?_, ?_⟩⟩
  ·rw [hcells]
   simp only [Array.size_append, List.size_toArray, size_zeroCells, hzero, hvlx, hvly, ← Nat.add_mul]
   congr 1
   omega
  ·rw [hcells]
   simp only [Array.toList_append, List.append_assoc]
   rw [← List.append_assoc, ← hlen2]
   exact List.take_left
 refine K4 (w' := w.drew.alloc (.cells cells e)) (v := .slice (some ⟨w.heap.size, 0, none⟩) (xs.length + ys.length) gc) (by simp [execOp, resolve, invoke, builtin, hrun]) ?_
 have hxw : Below w.heap.size w (w.drew.alloc (.cells cells e)) := ⟨rfl, rfl, rfl, by simp, fun k hk => heap_alloc_old w.drew _ hk⟩
 have hu : ∀ b, blk (.slice (some ⟨w.heap.size, 0, none⟩) (xs.length + ys.length) gc) = some b → w.heap.size ≤ b := by intro b hb; simp [blk] at hb; omega
 have hsim := h.new hp h5 (o := .spare (xs ++ ys).length ec e) hxw hu ⟨vx ++ vy, hown⟩
 rw [V5 hf1, h4] at hsim
 refine ⟨_, hsim, (J2 _ _ _).symm, ?_⟩
 refine m6 (c := c) (xs := xs ++ ys) hown hec (by rw [List.length_append]; omega) ?_ ?_
 ·intro g hg j zz hj hcell
  simp [blk] at hg
  subst hg
  refine ⟨hcell, fun hm => ?_⟩
  rcases hm with hm | ⟨k', o', hk', hb1, hb2⟩
  ·have := h.m0 _ j hm; have := h.size; omega
  ·by_cases hkk : k = k'
   ·subst hkk
    rw [D9] at hk'; cases hk'
    simp only at hb2
    omega
   ·rw [C1 hkk] at hk'
    rw [o8 G _ (Ne.symm hkk)] at hb1
    have := (h.obs k' o' hk').blk_lt _ hb1
    omega
 ·have hrd : ∀ b i z, F3 (Mut S ob G) w b i z → F3 (Mut S ((k, .spare (xs ++ ys).length ec e) :: ob) (upd G k (.slice (some ⟨w.heap.size, 0, none⟩) (xs.length + ys.length) gc))) (w.drew.alloc (.cells cells e)) b i z := by
   intro b i z hr
   have := h.rd_new (k := k) (o := .spare (xs ++ ys).length ec e) hxw hu hr
   rwa [h4] at this
  intro m hm j hj
  by_cases hlt : m < xs.length
  ·obtain ⟨zz, hz1, hz2⟩ := hvx m hlt j hj
   refine ⟨zz, ?_, ?_⟩
   ·rw [List.getElem?_append_left (List.getElem?_eq_some_iff.1 hz1).1]; exact hz1
   ·rw [List.getElem_append_left hlt]; exact Cell.rep_mono hrd _ _ hz2
  ·have hm' : m - xs.length < ys.length := by simp at hm; omega
   obtain ⟨zz, hz1, hz2⟩ := hvy (m - xs.length) hm' j hj
   refine ⟨zz, ?_, ?_⟩
   ·have hge2 : xs.length * ec ≤ m * ec := Nat.mul_le_mul_right _ (by omega)
    rw [List.getElem?_append_right (by rw [hvlx]; omega), hvlx]
    have : m * ec + j - xs.length * ec = (m - xs.length) * ec + j := by rw [Nat.sub_mul]; omega
    rw [this]; exact hz1
   ·rw [List.getElem_append_right (by omega)]; exact Cell.rep_mono hrd _ _ hz2
theorem n_eql_nil {x : Operand} {t yt e : TypeId} {ec bytes : Nat} {s : SV} {α : Type} {c : α → Nat → Cell} {xs : List α} [ht : TySl P t e ec bytes] (hx : opv fr x = some s) (hl : IsList s α ec c xs) :
  Neu P ⟨dst, .binOp .eql t x (.const (.slice none 0 0)) yt, ty, pos, af, gd⟩ fr ob (fun s' => ∃ b, s' = P4 b ∧ (b = true → xs = [])) := by
 intro S G a w h
 have hr := X5 h hx hl
 obtain ⟨ad, cap, hu, hcap, _⟩ := T8 hr
 refine K4 (v := .bool ad.isNone) (w' := w) ?_ ⟨Below.refl _ _, P4 ad.isNone, ⟨_, rfl, fun hb => ?_⟩, rfl, rfl⟩
 ·have e2 : a.eval (.const (.slice none 0 0)) = .slice none 0 0 := rfl
  simp only [execOp, hu, e2]
  refine M6 ?_
  simp only [Sem.run_bind]
  rw [show (eqGuard .eql t x (.const (.slice none 0 0)) (.slice ad xs.length cap) (.slice none 0 0)).run P w = .ok () w from rfl]
  simp only [Result.andThen_ok]
  show (binOp .eql t (.slice ad xs.length cap) (.slice none 0 0)).run P w = _
  simp only [binOp, Sem.run_bind, run_equal_slice_nil w t e ad xs.length cap ht.out.1, Result.andThen_ok]
  rfl
 ·cases ad with
  | none =>
   simp only [Cell.rep] at hr
   obtain ⟨a', cap', he, ⟨h3, h3'⟩, h4, h5⟩ := hr
   rw [hu] at he
   injection he with e1 e2 e3
   subst e1; subst e3
   have := h3' rfl
   exact List.eq_nil_of_length_eq_zero (by omega)
  | some _ => simp at hb
end
end Go.AL
namespace Go.AL
open Go Go.RowKit
set_option linter.unusedVariables false
abbrev Mo := List (List Nat × Obs)
def X0 : Mo → List Nat → Option Obs
 | [], _ => none
 | (D', ob) :: r, D => cond (u5 D' D) (some ob) (X0 r D)
abbrev Sv := List (Nat × SV)
def R6 : Sv → Nat → Option SV
 | [], _ => none
 | (i, s) :: r, j => cond (Nat.beq i j) (some s) (R6 r j)
abbrev Ed := List (Nat × (List Nat × List Nat))
def o5 : Ed → Nat → List Nat × List Nat
 | [], _ => ([], [])
 | (i, x) :: r, e => cond (Nat.beq i e) x (o5 r e)
def n3 (ks : List Nat) (fr : Fr) : Fr := fr.filter fun p => !(V6 ks p.1)
theorem getF_dropK {ks : List Nat} : ∀ {fr : Fr} {t : Nat} {s : SV}, D6 (n3 ks fr) t = some s ↔ t ∉ ks ∧ D6 fr t = some s
 | [], t, s => by simp [n3, D6]
 | (i, x) :: r, t, s => by
  have ih := getF_dropK (ks := ks) (fr := r) (t := t) (s := s)
  unfold n3 at ih ⊢
  cases hh : V6 ks i
  ·rw [List.filter_cons_of_pos (by simp [hh])]
   by_cases he : i = t
   ·subst he
    rw [D5, D5]
    have : i ∉ ks := fun q => by rw [hasN_iff.2 q] at hh; cases hh
    simp [this]
   ·rw [C8 he, C8 he]; exact ih
  ·rw [List.filter_cons_of_neg (by simp [hh])]
   rw [ih]
   by_cases he : i = t
   ·subst he
    have : i ∈ ks := hasN_iff.1 hh
    simp [this]
   ·rw [C8 he]
def FrExt (U frc : Fr) : Prop := ∀ t s, D6 U t = some s → D6 frc t = some s
def EffR (P : Program) (nt : Nat) (o : Oper) (U : Fr) (ks kills : List Nat) (ob ob' : Obs) (s : SV) : Prop :=
 ∀ frc, FrExt U frc → (∀ k ∈ ks, ∀ t x, D6 frc t = some x → t ∉ kills → x.free k = true) → ∀ S G a w, S.nt = nt → Sim P S frc ob G a w →
  Does P o a w (fun v w' => ∃ G', Sim P S (n3 kills frc) ob' G' a w' ∧ ∀ d, o.dst = some d → s.rep (F3 (Mut S ob' G') w') G' v)
def frOf (l : List Oper) : Sv → Fr → Fr
 | [], fr => fr
 | (i, s) :: r, fr => match (l[i]?).bind (·.dst) with
  | some d => (d, s) :: frOf l r fr
  | none => frOf l r fr
def usesDone (l : List Oper) (svs : Sv) (o : Oper) : Bool :=
 (V1 o.op).all fun u => (List.range l.length).all fun j => match (l[j]?).bind (·.dst) with
  | some d => !(Nat.beq d u) || (R6 svs j).isSome
  | none => true
def UIn2 (l : List Oper) (svs : Sv) (fr : Fr) (o : Oper) (U : Fr) : Prop :=
 ∀ t s, D6 U t = some s → t ∈ V1 o.op ∧ ((∃ j o', l[j]? = some o' ∧ o'.dst = some t ∧ R6 svs j = some s) ∨ (t ∉ Z9 l ∧ D6 fr t = some s))
def obIn2 (obT ob : Obs) : Prop := ∀ k o, D4 obT k = some o → D4 ob k = some o
section
variable {P : Program} {nt : Nat}
theorem frOf_get {l : List Oper} {fr : Fr} : ∀ {svs : Sv} {t : Nat} {s : SV}, D6 (frOf l svs fr) t = some s → (∃ j o, R6 svs j = some s ∧ l[j]? = some o ∧ o.dst = some t) ∨ (D6 fr t = some s ∧ ∀ j o, R6 svs j ≠ none → l[j]? = some o → o.dst ≠ some t)
 | [], t, s, h => .inr ⟨h, fun j o hj => absurd rfl hj⟩
 | (i, x) :: r, t, s, h => by
  unfold frOf at h
  have hlift : (∀ d, (l[i]?).bind (·.dst) = some d → d ≠ t) → D6 (frOf l r fr) t = some s → (∃ j o, R6 ((i, x) :: r) j = some s ∧ l[j]? = some o ∧ o.dst = some t) ∨ (D6 fr t = some s ∧ ∀ j o, R6 ((i, x) :: r) j ≠ none → l[j]? = some o → o.dst ≠ some t) := by
   intro hd h
   rcases frOf_get h with ⟨j, o, h1, h2, h3⟩ | ⟨h1, h2⟩
   ·left
    refine ⟨j, o, ?_, h2, h3⟩
    have hij : i ≠ j := fun e => by
     subst e
     rw [h2] at hd
     exact hd t (by simpa using h3) rfl
    show cond (Nat.beq i j) _ _ = _
    rw [O5 hij]; exact h1
   ·right
    refine ⟨h1, fun j o hj ho hdo => ?_⟩
    by_cases hij : i = j
    ·subst hij
     rw [ho] at hd
     exact hd t (by simpa using hdo) rfl
    ·have hj : cond (Nat.beq i j) (some x) (R6 r j) ≠ none := hj
     rw [O5 hij] at hj
     exact h2 j o hj ho hdo
  split at h
  ·rename_i d hd
   by_cases hdt : d = t
   ·subst hdt
    rw [D5] at h
    cases h
    cases ho : l[i]? with
    | none => rw [ho] at hd; cases hd
    | some o =>
     rw [ho] at hd
     exact .inl ⟨i, o, by show cond (Nat.beq i i) _ _ = _; rw [Nat.beq_refl]; rfl, ho, by simpa using hd⟩
   ·rw [C8 hdt] at h
    exact hlift (fun d' hd' => by rw [hd] at hd'; cases hd'; exact hdt) h
  ·rename_i hd
   exact hlift (fun d' hd' => by rw [hd] at hd'; cases hd') h
theorem dstL_mem : ∀ {l : List Oper} {t : Nat}, t ∈ Z9 l → ∃ (j : Nat) (o : Oper), l[j]? = some o ∧ o.dst = some t
 | [], t, h => by simp [Z9] at h
 | o :: l, t, h => by
  unfold Z9 at h
  cases hd : o.dst with
  | none => rw [hd] at h; obtain ⟨j, o', h1, h2⟩ := dstL_mem h; exact ⟨j + 1, o', by simpa using h1, h2⟩
  | some d =>
   rw [hd] at h
   rcases List.mem_cons.1 h with rfl | h
   ·exact ⟨0, o, rfl, hd⟩
   ·obtain ⟨j, o', h1, h2⟩ := dstL_mem h; exact ⟨j + 1, o', by simpa using h1, h2⟩
theorem uIn2_of {l : List Oper} {svs : Sv} {fr : Fr} {o : Oper} (h : usesDone l svs o = true) : UIn2 l svs fr o (P3 (frOf l svs fr) (V1 o.op)) := by
 intro t s ht
 have hus := j4 ht
 refine ⟨hus, ?_⟩
 rcases frOf_get (X4 ht) with ⟨j, o', h1, h2, h3⟩ | ⟨h1, h2⟩
 ·exact .inl ⟨j, o', h2, h3, h1⟩
 ·refine .inr ⟨fun hin => ?_, h1⟩
  obtain ⟨j, o', h3, h4⟩ := dstL_mem hin
  have := List.all_eq_true.1 (List.all_eq_true.1 h t hus) j (List.mem_range.2 (List.getElem?_eq_some_iff.1 h3).1)
  rw [h3] at this
  simp only [Option.bind_some, h4, Nat.beq_refl, Bool.not_true, Bool.false_or] at this
  exact h2 j o' (fun e => by rw [e] at this; cases this) h3 h4
def Task (P : Program) (nt : Nat) (l : List Oper) (fr : Fr) (svs : Sv) (E : List Nat) (ed : Ed) (i : Nat) (ob : Obs) (s : SV) (T : Obs → Prop) : Prop :=
 ∃ o U, l[i]? = some o ∧ UIn2 l svs fr o U ∧ ((V6 E i = false ∧ Neu P o U ob (fun s' => s' = s)) ∨ (V6 E i = true ∧ ∃ ob', EffR P nt o U (o5 ed i).1 (o5 ed i).2 ob ob' s ∧ T ob'))
def conf2 (nt : Nat) (l : List Oper) (E : List Nat) (Ms : List (List Nat)) (ed : Ed) (tasks : List (Nat × List Nat)) : Bool :=
 let ops := l.toArray
 let n := l.length
 (l.all fun o => o.guard.isNone && match o.dst with | some d => Nat.blt d nt | none => true) &&
 ((List.range n).all fun i => match ops[i]? with
  | some o => (V6 E i || o.dst.isSome) && (((V1 o.op).all fun u => ((List.range n).all fun j => match ops[j]? with
    | some oj => (match oj.dst with | some d => !(Nat.beq d u) || Bef ops i j | none => true)
    | none => true) && E.all fun e => Nat.beq e i || !(V6 (o5 ed e).2 u) || Bef ops e i) &&
   ((o.after.toList.all fun e => !(Region.binds .any e) || Nat.blt e.on i) && (Ms.all fun D => !(possD ops E i D) || tasks.any fun p => Nat.beq p.1 i && u5 p.2 D)))
  | none => false) &&
 nodupB (Z9 l) && desc E && (E.all fun e => Nat.blt e n) && memM Ms [] && (Ms.all fun D => E.all fun e => !(possD ops E e D) || memM Ms (insD e D))
structure InvK (l : List Oper) (E : List Nat) (svs : Sv) (ed : Ed) (fr : Fr) (listed : Array Bool) (frc : Fr) : Prop where
 put : ∀ j o d s, l[j]? = some o → listed.getD j false = true → o.dst = some d → R6 svs j = some s → (∀ e ∈ E, listed.getD e false = true → d ∉ (o5 ed e).2) → D6 frc d = some s
 from' : ∀ t s, D6 frc t = some s → (∃ j o, l[j]? = some o ∧ listed.getD j false = true ∧ o.dst = some t ∧ R6 svs j = some s) ∨ D6 fr t = some s
 old : ∀ t s, D6 fr t = some s → t ∉ Z9 l → (∀ e ∈ E, listed.getD e false = true → t ∉ (o5 ed e).2) → D6 frc t = some s
def free2 (l : List Oper) (ops : Array Oper) (svs : Sv) (fr : Fr) : Ed → Bool
 | [] => true
 | (e, ks, kills) :: r => (ks.all fun k => ((List.range ops.size).all fun j => Nat.beq j e || Bef ops j e || match (l[j]?).bind (·.dst), R6 svs j with
   | some d, some s => V6 kills d || s.free k
   | _, _ => true) && fr.all fun p => V6 kills p.1 || p.2.free k) && free2 l ops svs fr r
theorem c_core {id : Nat} {l : List Oper} {fr : Fr} {ob0 : Obs} {Q : Post} (E : List Nat) (Ms : List (List Nat)) (ed : Ed) (tasks : List (Nat × List Nat)) (svs : Sv) (M : Mo) (hm : P.follows .mixedOrders = true)
  (hB : conf2 nt l E Ms ed tasks = true) (hed : ∀ e ∈ E, ∃ x, (e, x) ∈ ed ∧ o5 ed e = x) (hfree : free2 l l.toArray svs fr ed = true) (h0 : X0 M [] = some ob0)
  (ht : ∀ p ∈ tasks, ∃ ob s, X0 M p.2 = some ob ∧ R6 svs p.1 = some s ∧ Task P nt l fr svs E ed p.1 ob s (fun ob' => ∃ obT, X0 M (insD p.1 p.2) = some obT ∧ obIn2 obT ob'))
  {fr' : Fr} {obE : Obs} (hobE : X0 M E = some obE) (hfr' : ∀ t s, D6 fr' t = some s → (∀ e ∈ E, t ∉ (o5 ed e).2) ∧ ((∃ j o', l[j]? = some o' ∧ o'.dst = some t ∧ R6 svs j = some s) ∨ (t ∉ Z9 l ∧ D6 fr t = some s)))
  (hQ : Q .normal fr' obE) : WpC P nt (.region id l.toArray true) fr ob0 Q := by
 intro S G a w hn hs
 unfold conf2 at hB
 simp only [Bool.and_eq_true] at hB
 obtain ⟨⟨⟨⟨⟨⟨b1, b2⟩, b3⟩, b4⟩, b5⟩, b6⟩, b7⟩ := hB
 have hop : ∀ i o, l[i]? = some o → o.guard = none ∧ (∀ d, o.dst = some d → d < nt) ∧ (V6 E i = true ∨ ∃ d, o.dst = some d) ∧ (∀ u ∈ V1 o.op, ∀ j oj, l[j]? = some oj → oj.dst = some u → Bef l.toArray i j = true) ∧
   (∀ u ∈ V1 o.op, ∀ e ∈ E, e ≠ i → u ∈ (o5 ed e).2 → Bef l.toArray e i = true) ∧ (∀ e ∈ o.after.toList, Region.binds .any e = true → e.on < i) ∧ (∀ D ∈ Ms, possD l.toArray E i D = true → (i, D) ∈ tasks) := by
  intro i o ho
  have hlt : i < l.length := (List.getElem?_eq_some_iff.1 ho).1
  have hmem : o ∈ l := List.mem_of_getElem? ho
  have q1 := List.all_eq_true.1 b1 o hmem
  have q2 := List.all_eq_true.1 b2 i (List.mem_range.2 hlt)
  simp only [List.getElem?_toArray, ho] at q2
  simp only [Bool.and_eq_true] at q1 q2
  obtain ⟨q4, q5, q6, q7⟩ := q2
  refine ⟨by simpa using q1.1, ?_, ?_, ?_, ?_, ?_, ?_⟩
  ·intro d hd
   have := q1.2
   rw [hd] at this
   simpa using this
  ·rcases (Bool.or_eq_true _ _).mp q4 with h | h
   ·exact .inl h
   ·exact .inr (Option.isSome_iff_exists.1 h)
  ·intro u hu j oj hj hd
   have hjlt : j < l.length := (List.getElem?_eq_some_iff.1 hj).1
   have h5 := List.all_eq_true.1 q5 u hu
   simp only [Bool.and_eq_true] at h5
   have := List.all_eq_true.1 h5.1 j (List.mem_range.2 hjlt)
   simp only [hj, hd] at this
   simpa using this
  ·intro u hu e he hei hk
   have h5 := List.all_eq_true.1 q5 u hu
   simp only [Bool.and_eq_true] at h5
   have := List.all_eq_true.1 h5.2 e he
   rw [O5 hei, hasN_iff.2 hk] at this
   simpa using this
  ·intro e he hbe
   have := List.all_eq_true.1 q6 e he
   rw [hbe] at this
   simpa using this
  ·intro D hD hp
   have := List.all_eq_true.1 q7 D hD
   rw [hp] at this
   simp only [Bool.not_true, Bool.false_or] at this
   obtain ⟨p, hp1, hp2⟩ := List.any_eq_true.1 this
   simp only [Bool.and_eq_true] at hp2
   have e1 := Nat.eq_of_beq_eq_true hp2.1
   have e2 := sameL_eq hp2.2
   obtain ⟨p1, p2⟩ := p
   simp only at e1 e2
   rw [← e1, ← e2]; exact hp1
 have hdst : ∀ (j t : Nat), (l.toArray[j]?).bind (fun o => o.dst) = some t → t < nt := by
  intro j t ht
  cases ho : l[j]? with
  | none => simp [ho] at ht
  | some o => simp [ho] at ht; exact (hop j o ho).2.1 t ht
 refine wp_region_any hm ?_
 have hxw : Below w.heap.size w { w with drawn := w.drawn + 1 } := ⟨rfl, rfl, rfl, Nat.le_refl _, fun _ _ => rfl⟩
 have key : ∀ (fuel : Nat) (listed : Array Bool) (frc : Fr) (ob : Obs) (G : Gh) (a : Act) (w : World), listed.size = l.length → unl listed l.length = fuel → Closed l.toArray listed → (E.filter fun j => listed.getD j false) ∈ Ms → X0 M (E.filter fun j => listed.getD j false) = some ob → InvK l E svs ed fr listed frc → Sim P S frc ob G a w →
   wpAny P .any l.toArray (PostOf P S Q) fuel listed a w := by
  intro fuel
  induction fuel with
  | zero =>
   intro listed frc ob G a w hsz hu hc hM hob hI hsf
   have hall : ∀ j, j < l.length → listed.getD j false = true := by
    intro j hj
    unfold unl at hu
    have := (List.countP_eq_zero.1 hu) j (List.mem_range.2 hj)
    simpa using this
   have hready : Region.ready .any l.toArray listed = [] := by
    cases hr : Region.ready .any l.toArray listed with
    | nil => rfl
    | cons i r =>
     exfalso
     have hi : i ∈ Region.ready .any l.toArray listed := by rw [hr]; exact List.mem_cons_self ..
     have h3 := K2 hi
     obtain ⟨_, o, ho, _⟩ := mem_ready.1 hi
     rw [List.getElem?_toArray] at ho
     rw [hall i (List.getElem?_eq_some_iff.1 ho).1] at h3; cases h3
   refine ⟨hready, ?_⟩
   have hEl : (E.filter fun j => listed.getD j false) = E := by
    rw [List.filter_eq_self]
    intro e he
    exact hall e (by simpa using List.all_eq_true.1 b5 e he)
   rw [hEl, hobE] at hob
   cases hob
   refine ⟨fr', obE, G, hQ, hsf.weaken fun t s ht => ?_⟩
   obtain ⟨hk, h3⟩ := hfr' t s ht
   rcases h3 with ⟨j, o, h3, h4, h5⟩ | ⟨h3, h4⟩
   ·exact hI.put j o t s h3 (hall j (List.getElem?_eq_some_iff.1 h3).1) h4 h5 (fun e he _ => hk e he)
   ·exact hI.old t s h4 h3 (fun e he _ => hk e he)
  | succ fuel ih =>
   intro listed frc ob G a w hsz hu hc hM hob hI hsf
   refine ⟨fun h0 => ?_, fun i hi => ?_⟩
   ·exfalso
    have hex : ∃ j, j < l.length ∧ listed.getD j false = false := by
     refine Classical.byContradiction fun hno => ?_
     have : unl listed l.length = 0 := by
      unfold unl
      refine List.countP_eq_zero.2 fun j hj => ?_
      have hj := List.mem_range.1 hj
      cases hb : listed.getD j false
      ·exact absurd ⟨j, hj, hb⟩ hno
      ·simp
     omega
    have hmin : ∀ n, (∃ j, j < n ∧ j < l.length ∧ listed.getD j false = false) → ∃ j, j < l.length ∧ listed.getD j false = false ∧ ∀ p, p < j → listed.getD p false = true := by
     intro n
     induction n with
     | zero => rintro ⟨j, hj, _⟩; omega
     | succ n ihn =>
      rintro ⟨j, hj, hjl, hjf⟩
      by_cases hlow : ∃ j', j' < n ∧ j' < l.length ∧ listed.getD j' false = false
      ·exact ihn hlow
      ·refine ⟨j, hjl, hjf, fun p hp => ?_⟩
       cases hb : listed.getD p false
       ·exact absurd ⟨p, by omega, by omega, hb⟩ hlow
       ·rfl
    obtain ⟨j, hj1, hj2⟩ := hex
    obtain ⟨j, hjl, hjf, hjp⟩ := hmin (j + 1) ⟨j, by omega, hj1, hj2⟩
    have ho : l[j]? = some l[j] := List.getElem?_eq_getElem hjl
    have hjr : j ∈ Region.ready .any l.toArray listed := by
     refine mem_ready.2 ⟨?_, l[j], by rw [List.getElem?_toArray]; exact ho, fun e he hb => ?_⟩
     ·have hsz2 : j < listed.size := by omega
      simp only [Array.getD_eq_getD_getElem?, Array.getElem?_eq_getElem hsz2] at hjf ⊢
      simpa using hjf
     ·have := (hop j _ ho).2.2.2.2.2.1 e (Array.mem_toList_iff.2 he) hb
      exact hjp _ this
    rw [h0] at hjr; cases hjr
   ·have hiu := K2 hi
    obtain ⟨_, o, ho, hall⟩ := mem_ready.1 hi
    rw [List.getElem?_toArray] at ho
    have hlt : i < l.length := (List.getElem?_eq_some_iff.1 ho).1
    obtain ⟨g1, g2, g4, g5, g6, g7, g8⟩ := hop i o ho
    obtain ⟨D, hD⟩ : ∃ D, D = E.filter fun j => listed.getD j false := ⟨_, rfl⟩
    rw [← hD] at hM hob
    have hDl : ∀ e, e ∈ D ↔ e ∈ E ∧ listed.getD e false = true := fun e => by rw [hD, List.mem_filter]
    have hbi : ∀ j, Bef l.toArray i j = true → listed.getD j false = true := fun j hj => Q1 hc i hj (fun o' ho' e he hb => by
     rw [List.getElem?_toArray, ho] at ho'; cases ho'
     exact hall e (Array.mem_toList_iff.1 he) hb)
    have hlb : ∀ j, listed.getD j false = true → Bef l.toArray j i = true → False := fun j hj hb => by
     have : listed.getD i false = true := Q1 hc j hb (fun o' ho' e he hbd => hc j o' ho' hj e he hbd)
     rw [hiu] at this; cases this
    have hpo : possD l.toArray E i D = true := by
     unfold possD
     simp only [Bool.and_eq_true, Bool.not_eq_true', List.all_eq_true, Bool.or_eq_true]
     refine ⟨?_, fun j hj => ?_, fun j hj => ?_⟩
     ·cases hb : V6 D i
      ·rfl
      ·have := ((hDl i).1 (hasN_iff.1 hb)).2
       rw [hiu] at this; cases this
     ·cases hb : Bef l.toArray i j
      ·exact .inl rfl
      ·exact .inr (hasN_iff.2 ((hDl j).2 ⟨hj, hbi j hb⟩))
     ·cases hb : Bef l.toArray j i
      ·rfl
      ·exact (hlb j ((hDl j).1 hj).2 hb).elim
    obtain ⟨ob1, s, hob1, hsv, o1, U, ho1, hU, htask⟩ := ht (i, D) (g8 D hM hpo)
    rw [hob] at hob1; cases hob1
    rw [ho] at ho1; cases ho1
    have hext : FrExt U frc := by
     intro t x hx
     obtain ⟨hus, h3⟩ := hU t x hx
     have hnk : ∀ e ∈ E, listed.getD e false = true → t ∉ (o5 ed e).2 := fun e he hel hk => by
      by_cases hei : e = i
      ·rw [hei, hiu] at hel; cases hel
      ·exact hlb e hel (g6 t hus e he hei hk)
     rcases h3 with ⟨j, oj, h3, h4, h5⟩ | ⟨h3, h4⟩
     ·exact hI.put j oj t x h3 (hbi j (g5 t hus j oj h3 h4)) h4 h5 hnk
     ·exact hI.old t x h4 h3 hnk
    have hcl2 := K1 hc hi
    have hsz2 : (listed.setIfInBounds i true).size = l.length := by simpa using hsz
    have hul : unl (listed.setIfInBounds i true) l.length = fuel := by
     have := unl_set (by omega) hiu hlt
     omega
    have hset : ∀ j, (listed.setIfInBounds i true).getD j false = true ↔ j = i ∨ listed.getD j false = true := by
     intro j
     by_cases hj : j = i
     ·subst hj
      simp only [true_or, iff_true]
      simp [show j < listed.size by omega]
     ·rw [j5 (Ne.symm hj)]
      simp [hj]
    have hinv : ∀ kills, (i ∈ E → kills = (o5 ed i).2) → (i ∉ E → kills = []) → InvK l E svs ed fr (listed.setIfInBounds i true) (match o.dst with | some d => (d, s) :: n3 kills frc | none => n3 kills frc) := by
     intro kills hk1 hk2
     have hk : ∀ t, (∀ e ∈ E, (listed.setIfInBounds i true).getD e false = true → t ∉ (o5 ed e).2) → t ∉ kills := by
      intro t h
      by_cases hiE : i ∈ E
      ·rw [hk1 hiE]; exact h i hiE ((hset i).2 (.inl rfl))
      ·rw [hk2 hiE]; simp
     have hmono : ∀ t, (∀ e ∈ E, (listed.setIfInBounds i true).getD e false = true → t ∉ (o5 ed e).2) → ∀ e ∈ E, listed.getD e false = true → t ∉ (o5 ed e).2 := fun t h e he hel => h e he ((hset e).2 (.inr hel))
     cases hdo : o.dst with
     | none =>
      refine ⟨fun j oj d x h3 h4 h5 h6 h7 => ?_, fun t x h3 => ?_, fun t x h3 h4 h5 => ?_⟩
      ·rcases (hset j).1 h4 with rfl | h4
       ·rw [ho] at h3; cases h3; rw [hdo] at h5; cases h5
       ·exact getF_dropK.2 ⟨hk d h7, hI.put j oj d x h3 h4 h5 h6 (hmono d h7)⟩
      ·rcases hI.from' t x (getF_dropK.1 h3).2 with ⟨j, oj, h4, h5, h6⟩ | h4
       ·exact .inl ⟨j, oj, h4, (hset j).2 (.inr h5), h6⟩
       ·exact .inr h4
      ·exact getF_dropK.2 ⟨hk t h5, hI.old t x h3 h4 (hmono t h5)⟩
     | some d0 =>
      refine ⟨fun j oj d x h3 h4 h5 h6 h7 => ?_, fun t x h3 => ?_, fun t x h3 h4 h5 => ?_⟩
      ·show D6 ((d0, s) :: n3 kills frc) d = some x
       by_cases hij : j = i
       ·subst hij
        rw [ho] at h3; cases h3
        rw [hdo] at h5; cases h5
        rw [D5]
        rw [hsv] at h6; exact h6
       ·have h4 := ((hset j).1 h4).resolve_left hij
        have hdd : d0 ≠ d := fun q => by
         subst q
         exact hij (dst_unique b3 h3 ho h5 hdo)
        rw [C8 hdd]
        exact getF_dropK.2 ⟨hk d h7, hI.put j oj d x h3 h4 h5 h6 (hmono d h7)⟩
      ·have h3 : D6 ((d0, s) :: n3 kills frc) t = some x := h3
       by_cases hdd : d0 = t
       ·subst hdd
        rw [D5] at h3; cases h3
        exact .inl ⟨i, o, ho, (hset i).2 (.inl rfl), hdo, hsv⟩
       ·rw [C8 hdd] at h3
        rcases hI.from' t x (getF_dropK.1 h3).2 with ⟨j, oj, h4, h5, h6⟩ | h4
        ·exact .inl ⟨j, oj, h4, (hset j).2 (.inr h5), h6⟩
        ·exact .inr h4
      ·show D6 ((d0, s) :: n3 kills frc) t = some x
       have hdd : d0 ≠ t := fun q => h4 (by rw [← q]; exact dstL_get ho hdo)
       rw [C8 hdd]
       exact getF_dropK.2 ⟨hk t h5, hI.old t x h3 h4 (hmono t h5)⟩
    unfold wpOp
    simp only [List.getElem?_toArray, ho]
    rw [if_pos (by simp [Region.wanted, g1])]
    rcases htask with ⟨htn, hneu⟩ | ⟨htn, ob', heff, obT, hobT, hle⟩
    ·have hnE : i ∉ E := fun q => by rw [hasN_iff.2 q] at htn; cases htn
     refine .inl (N6 (hneu S G a w (hsf.weaken fun t x hx => hext t x hx)) ?_)
     rintro v w' ⟨hxw2, s', rfl, hv⟩
     have hDe : (E.filter fun j => (listed.setIfInBounds i true).getD j false) = D := by
      rw [hD]
      apply List.filter_congr
      intro j hj
      have : j ≠ i := fun q => hnE (q ▸ hj)
      exact j5 (Ne.symm this)
     obtain ⟨d0, hd0⟩ := g4.resolve_left (by rw [htn]; simp)
     have hi2 := hinv [] (fun q => absurd q hnE) (fun _ => rfl)
     rw [hd0] at hi2 ⊢
     have hi2 : InvK l E svs ed fr (listed.setIfInBounds i true) ((d0, s') :: n3 [] frc) := hi2
     have hdk : n3 [] frc = frc := by unfold n3; exact List.filter_eq_self.2 fun p _ => rfl
     rw [hdk] at hi2
     exact ih (listed.setIfInBounds i true) ((d0, s') :: frc) ob G _ w' hsz2 hul hcl2 (by rw [hDe]; exact hM) (by rw [hDe]; exact hob) hi2 ((hsf.ext hxw2).put (by rw [hn]; exact g2 d0 hd0) hv)
    ·have hiE : i ∈ E := hasN_iff.1 htn
     have hDe : (E.filter fun j => (listed.setIfInBounds i true).getD j false) = insD i D := by
      rw [hD]; exact filter_ins (by omega) hiu b4 hiE
     have hM2 : insD i D ∈ Ms := by
      have := List.all_eq_true.1 (List.all_eq_true.1 b7 D hM) i hiE
      rw [hpo] at this
      exact memM_mem (by simpa using this)
     have hfr2 : ∀ k ∈ (o5 ed i).1, ∀ t x, D6 frc t = some x → t ∉ (o5 ed i).2 → x.free k = true := by
      obtain ⟨x0, hx0, hx1⟩ := hed i hiE
      rw [hx1]
      have hf : ∀ (xs : Ed), free2 l l.toArray svs fr xs = true → (i, x0) ∈ xs → ∀ k ∈ x0.1, ((List.range l.toArray.size).all fun j => Nat.beq j i || Bef l.toArray j i || match (l[j]?).bind (·.dst), R6 svs j with
        | some d, some s => V6 x0.2 d || s.free k
        | _, _ => true) = true ∧ (fr.all fun p => V6 x0.2 p.1 || p.2.free k) = true := by
       intro xs
       induction xs with
       | nil => intro _ h; simp at h
       | cons y r ihx =>
        obtain ⟨e', ks', kl'⟩ := y
        intro hok hmem
        simp only [free2, Bool.and_eq_true] at hok
        rcases List.mem_cons.1 hmem with q | q
        ·cases q
         intro k hk
         have := List.all_eq_true.1 hok.1 k hk
         simpa only [Bool.and_eq_true] using this
        ·exact ihx hok.2 q
      intro k hk t x hx hnk
      obtain ⟨f1, f2⟩ := hf ed hfree hx0 k hk
      rcases hI.from' t x hx with ⟨j, oj, h4, h5, h6, h7⟩ | h4
      ·have := List.all_eq_true.1 f1 j (List.mem_range.2 (by simpa using (List.getElem?_eq_some_iff.1 h4).1))
       have hji : j ≠ i := fun q => by rw [q, hiu] at h5; cases h5
       have hbf : Bef l.toArray j i = false := by
        cases hb : Bef l.toArray j i
        ·rfl
        ·exact (hlb j h5 hb).elim
       rw [O5 hji, hbf, h4] at this
       simp only [Option.bind_some, h6, h7, Bool.false_or, Bool.or_eq_true] at this
       rcases this with q | q
       ·exact absurd (hasN_iff.1 q) hnk
       ·exact q
      ·have hmem : (t, x) ∈ fr := by
        have : ∀ (fr : Fr), D6 fr t = some x → (t, x) ∈ fr := by
         intro fr
         induction fr with
         | nil => intro h; simp [D6] at h
         | cons y r ihf =>
          obtain ⟨q, z⟩ := y
          intro h
          by_cases hq : q = t
          ·subst hq; rw [D5] at h; cases h; exact List.mem_cons_self ..
          ·rw [C8 hq] at h; exact List.mem_cons_of_mem _ (ihf h)
        exact this fr h4
       have := List.all_eq_true.1 f2 (t, x) hmem
       simp only [Bool.or_eq_true] at this
       rcases this with q | q
       ·exact absurd (hasN_iff.1 q) hnk
       ·exact q
     refine .inl (N6 (heff frc hext hfr2 S G a w hn hsf) ?_)
     rintro v w' ⟨G', hs2, hv⟩
     have hi2 := hinv (o5 ed i).2 (fun _ => rfl) (fun q => absurd hiE q)
     have hs3 := hs2.weakenO hle
     refine ih (listed.setIfInBounds i true) _ obT G' _ w' hsz2 hul hcl2 (by rw [hDe]; exact hM2) (by rw [hDe]; exact hobT) hi2 ?_
     cases hdo : o.dst with
     | none => exact hs3
     | some d0 =>
      have hv2 := hv d0 hdo
      have hput := hs2.put (d := d0) (by rw [hn]; exact g2 d0 hdo) hv2
      exact hput.weakenO hle
 have hlist0 : ∀ j, (Array.replicate l.length false).getD j false = false := by
  intro j
  simp only [Array.getD_eq_getD_getElem?]
  rcases Nat.lt_or_ge j l.length with h' | h'
  ·simp [h']
  ·simp [h']
 have hf0 : (E.filter fun j => (Array.replicate l.length false).getD j false) = [] := by
  rw [List.filter_eq_nil_iff]; intro e _; rw [hlist0]; simp
 have hu0 : unl (Array.replicate l.length false) l.length = l.length := by
  unfold unl
  have : (List.range l.length).countP (fun i => !(Array.replicate l.length false).getD i false) = (List.range l.length).length := by
   rw [List.countP_eq_length]; intro i _; rw [hlist0]; rfl
  rw [this, List.length_range]
 have := key l.length (Array.replicate l.length false) fr ob0 G a _ (by simp) hu0 (fun j o ho hl => by rw [hlist0] at hl; cases hl) (by rw [hf0]; exact memM_mem b6) (by rw [hf0]; exact h0) ⟨fun j o d s _ h4 _ => (by rw [hlist0] at h4; cases h4), fun t s h3 => .inr h3, fun t s h3 _ _ => h3⟩ (hs.ext hxw)
 simpa using this
end
end Go.AL
namespace Go.AL
open Go Go.RowKit
set_option linter.unusedVariables false
section
variable {P : Program} {nt : Nat}
def WalkT (P : Program) (nt : Nat) (l : List Oper) (fr : Fr) (E : List Nat) (ed : Ed) (K : Sv → Mo → Prop) : List (Nat × List Nat) → Sv → Mo → Prop
 | [], svs, M => K svs M
 | (i, D) :: ts, svs, M => ∃ o ob s, l[i]? = some o ∧ X0 M D = some ob ∧ usesDone l svs o = true ∧ (R6 svs i = none ∨ R6 svs i = some s) ∧
   ((V6 E i = false ∧ Neu P o (P3 (frOf l svs fr) (V1 o.op)) ob (fun s' => s' = s) ∧ WalkT P nt l fr E ed K ts ((i, s) :: svs) M) ∨
    (V6 E i = true ∧ ∃ ob', EffR P nt o (P3 (frOf l svs fr) (V1 o.op)) (o5 ed i).1 (o5 ed i).2 ob ob' s ∧ X0 M (insD i D) = none ∧ WalkT P nt l fr E ed K ts ((i, s) :: svs) ((insD i D, ob') :: M)))
def CheckT (P : Program) (nt : Nat) (l : List Oper) (fr : Fr) (E : List Nat) (ed : Ed) (svs : Sv) (M : Mo) : List (Nat × List Nat) → Prop
 | [] => True
 | (i, D) :: ts => (∃ o ob s, l[i]? = some o ∧ X0 M D = some ob ∧ usesDone l svs o = true ∧ R6 svs i = some s ∧
   ((V6 E i = false ∧ Neu P o (P3 (frOf l svs fr) (V1 o.op)) ob (fun s' => s' = s)) ∨
    (V6 E i = true ∧ ∃ ob' obT, EffR P nt o (P3 (frOf l svs fr) (V1 o.op)) (o5 ed i).1 (o5 ed i).2 ob ob' s ∧ X0 M (insD i D) = some obT ∧ obIn2 obT ob'))) ∧ CheckT P nt l fr E ed svs M ts
def TaskOk (P : Program) (nt : Nat) (l : List Oper) (fr : Fr) (E : List Nat) (ed : Ed) (svs : Sv) (M : Mo) (p : Nat × List Nat) : Prop :=
 ∃ ob s, X0 M p.2 = some ob ∧ R6 svs p.1 = some s ∧ Task P nt l fr svs E ed p.1 ob s (fun ob' => ∃ obT, X0 M (insD p.1 p.2) = some obT ∧ obIn2 obT ob')
theorem lookV_ext {svs : Sv} {i : Nat} {s : SV} (h : R6 svs i = none ∨ R6 svs i = some s) {j : Nat} {x : SV} (hj : R6 svs j = some x) : R6 ((i, s) :: svs) j = some x := by
 show cond (Nat.beq i j) _ _ = _
 by_cases hij : i = j
 ·subst hij
  rw [Nat.beq_refl]
  rcases h with h | h
  ·rw [h] at hj; cases hj
  ·rw [h] at hj; exact hj
 ·rw [O5 hij]; exact hj
theorem sameL_refl : ∀ (l : List Nat), u5 l l = true
 | [] => rfl
 | a :: l => by simp [u5, Nat.beq_refl, sameL_refl l]
theorem lookM_ext {M : Mo} {D0 : List Nat} {o0 : Obs} (h : X0 M D0 = none) {D : List Nat} {ob : Obs} (hD : X0 M D = some ob) : X0 ((D0, o0) :: M) D = some ob := by
 show cond (u5 D0 D) _ _ = _
 cases hs : u5 D0 D
 ·exact hD
 ·rw [sameL_eq hs] at h; rw [h] at hD; cases hD
theorem UIn2.mono {l : List Oper} {svs svs' : Sv} {fr : Fr} {o : Oper} {U : Fr} (h : UIn2 l svs fr o U) (hm : ∀ j x, R6 svs j = some x → R6 svs' j = some x) : UIn2 l svs' fr o U := fun t s ht => by
 obtain ⟨h1, h2⟩ := h t s ht
 refine ⟨h1, ?_⟩
 rcases h2 with ⟨j, o', h3, h4, h5⟩ | h2
 ·exact .inl ⟨j, o', h3, h4, hm j s h5⟩
 ·exact .inr h2
theorem walk_get {l : List Oper} {fr : Fr} {E : List Nat} {ed : Ed} {K : Sv → Mo → Prop} : ∀ {ts : List (Nat × List Nat)} {svs : Sv} {M : Mo}, WalkT P nt l fr E ed K ts svs M →
  ∃ svs' M', (∀ j x, R6 svs j = some x → R6 svs' j = some x) ∧ (∀ D ob, X0 M D = some ob → X0 M' D = some ob) ∧ K svs' M' ∧ ∀ p ∈ ts, TaskOk P nt l fr E ed svs' M' p
 | [], svs, M, h => ⟨svs, M, fun _ _ h => h, fun _ _ h => h, h, fun p hp => by simp at hp⟩
 | (i, D) :: ts, svs, M, h => by
  obtain ⟨o, ob, s, h1, h2, h3, h4, h5⟩ := h
  have hself : R6 ((i, s) :: svs) i = some s := by show cond (Nat.beq i i) _ _ = _; rw [Nat.beq_refl]; rfl
  rcases h5 with ⟨h6, h7, h8⟩ | ⟨h6, ob', h7, h9, h8⟩
  ·obtain ⟨svs', M', g1, g2, g3, g4⟩ := walk_get h8
   refine ⟨svs', M', fun j x hj => g1 j x (lookV_ext h4 hj), g2, g3, fun p hp => ?_⟩
   rcases List.mem_cons.1 hp with rfl | hp
   ·exact ⟨ob, s, g2 _ _ h2, g1 _ _ hself, o, _, h1, (uIn2_of h3).mono (fun j x hj => g1 j x (lookV_ext h4 hj)), .inl ⟨h6, h7⟩⟩
   ·exact g4 p hp
  ·obtain ⟨svs', M', g1, g2, g3, g4⟩ := walk_get h8
   have hM : X0 ((insD i D, ob') :: M) (insD i D) = some ob' := by show cond (u5 _ _) _ _ = _; rw [sameL_refl]; rfl
   refine ⟨svs', M', fun j x hj => g1 j x (lookV_ext h4 hj), fun D' ob2 hD => g2 _ _ (lookM_ext h9 hD), g3, fun p hp => ?_⟩
   rcases List.mem_cons.1 hp with rfl | hp
   ·exact ⟨ob, s, g2 _ _ (lookM_ext h9 h2), g1 _ _ hself, o, _, h1, (uIn2_of h3).mono (fun j x hj => g1 j x (lookV_ext h4 hj)), .inr ⟨h6, ob', h7, ob', g2 _ _ hM, fun _ _ h => h⟩⟩
   ·exact g4 p hp
theorem check_get {l : List Oper} {fr : Fr} {E : List Nat} {ed : Ed} {svs : Sv} {M : Mo} : ∀ {ts : List (Nat × List Nat)}, CheckT P nt l fr E ed svs M ts → ∀ p ∈ ts, TaskOk P nt l fr E ed svs M p
 | [], _, p, hp => by simp at hp
 | (i, D) :: ts, h, p, hp => by
  obtain ⟨⟨o, ob, s, h1, h2, h3, h4, h5⟩, h6⟩ := h
  rcases List.mem_cons.1 hp with rfl | hp
  ·rcases h5 with ⟨g1, g2⟩ | ⟨g1, ob', obT, g2, g3, g4⟩
   ·exact ⟨ob, s, h2, h4, o, _, h1, uIn2_of h3, .inl ⟨g1, g2⟩⟩
   ·exact ⟨ob, s, h2, h4, o, _, h1, uIn2_of h3, .inr ⟨g1, ob', g2, obT, g3, g4⟩⟩
  ·exact check_get h6 p hp
def killsOf (ed : Ed) : List Nat := ed.flatMap fun p => p.2.2
def edOk (E : List Nat) (ed : Ed) : Bool := E.all fun e => ed.any fun p => Nat.beq p.1 e
theorem edAt_mem : ∀ {ed : Ed} {e : Nat}, (ed.any fun p => Nat.beq p.1 e) = true → (e, o5 ed e) ∈ ed
 | [], _, h => by simp at h
 | (i, x) :: r, e, h => by
  by_cases hie : i = e
  ·subst hie
   have : o5 ((i, x) :: r) i = x := by show cond (Nat.beq i i) _ _ = _; rw [Nat.beq_refl]; rfl
   rw [this]; exact List.mem_cons_self ..
  ·have h1 : o5 ((i, x) :: r) e = o5 r e := by show cond (Nat.beq i e) _ _ = _; rw [O5 hie]; rfl
   rw [h1]
   simp only [List.any_cons, O5 hie, Bool.false_or] at h
   exact List.mem_cons_of_mem _ (edAt_mem h)
def Fin2 (P : Program) (nt : Nat) (l : List Oper) (fr : Fr) (E : List Nat) (ed : Ed) (T2 : List (Nat × List Nat)) (Q : Post) (svs : Sv) (M : Mo) : Prop :=
 (free2 l l.toArray svs fr ed && (List.range l.length).all fun j => (R6 svs j).isSome) = true ∧ CheckT P nt l fr E ed svs M T2 ∧ ∃ obE, X0 M E = some obE ∧ Q .normal (n3 (killsOf ed) (frOf l svs fr)) obE
theorem n4 {id : Nat} {l : List Oper} {fr : Fr} {ob0 : Obs} {Q : Post} (E : List Nat) (Ms : List (List Nat)) (ed : Ed) (T1 T2 : List (Nat × List Nat)) (hm : P.follows .mixedOrders = true)
  (hB : (conf2 nt l E Ms ed (T1 ++ T2) && edOk E ed) = true) (h : WalkT P nt l fr E ed (Fin2 P nt l fr E ed T2 Q) T1 [] [([], ob0)]) : WpC P nt (.region id l.toArray true) fr ob0 Q := by
 simp only [Bool.and_eq_true] at hB
 obtain ⟨svs, M, h1, h2, ⟨h3, h4, obE, h5, h6⟩, h7⟩ := walk_get h
 simp only [Bool.and_eq_true] at h3
 refine c_core E Ms ed (T1 ++ T2) svs M hm hB.1 (fun e he => ⟨o5 ed e, edAt_mem (List.all_eq_true.1 hB.2 e he), rfl⟩) h3.1 (h2 [] ob0 rfl) (fun p hp => ?_) h5 (fun t s ht => ?_) h6
 ·rcases List.mem_append.1 hp with hp | hp
  ·exact h7 p hp
  ·exact check_get h4 p hp
 ·obtain ⟨hk, h8⟩ := getF_dropK.1 ht
  refine ⟨fun e he hin => hk ?_, ?_⟩
  ·have := edAt_mem (List.all_eq_true.1 hB.2 e he)
   exact List.mem_flatMap.2 ⟨_, this, hin⟩
  ·rcases frOf_get h8 with ⟨j, o, g1, g2, g3⟩ | ⟨g1, g2⟩
   ·exact .inl ⟨j, o, g2, g3, g1⟩
   ·refine .inr ⟨fun hin => ?_, g1⟩
    obtain ⟨j, o, g3, g4⟩ := dstL_mem hin
    have := List.all_eq_true.1 h3.2 j (List.mem_range.2 (List.getElem?_eq_some_iff.1 g3).1)
    exact g2 j o (fun e => by rw [e] at this; cases this) g3 g4
theorem J8 {l : List Oper} {fr : Fr} {E : List Nat} {ed : Ed} {K : Sv → Mo → Prop} {i : Nat} {D : List Nat} {ts : List (Nat × List Nat)} {svs : Sv} {M : Mo} {o : Oper} {ob : Obs} {s : SV} (ho : l[i]? = some o) (hM : X0 M D = some ob) (hu : usesDone l svs o = true)
  (hv : R6 svs i = none) (ht : V6 E i = false) (h : Neu P o (P3 (frOf l svs fr) (V1 o.op)) ob (fun s' => s' = s)) (k : WalkT P nt l fr E ed K ts ((i, s) :: svs) M) : WalkT P nt l fr E ed K ((i, D) :: ts) svs M :=
 ⟨o, ob, s, ho, hM, hu, .inl hv, .inl ⟨ht, h, k⟩⟩
theorem w_eff {l : List Oper} {fr : Fr} {E : List Nat} {ed : Ed} {K : Sv → Mo → Prop} {i : Nat} {D : List Nat} {ts : List (Nat × List Nat)} {svs : Sv} {M : Mo} {o : Oper} {ob ob' : Obs} {s : SV} (ho : l[i]? = some o) (hM : X0 M D = some ob) (hu : usesDone l svs o = true)
  (hv : R6 svs i = none) (ht : V6 E i = true) (h : EffR P nt o (P3 (frOf l svs fr) (V1 o.op)) (o5 ed i).1 (o5 ed i).2 ob ob' s) (hn : X0 M (insD i D) = none) (k : WalkT P nt l fr E ed K ts ((i, s) :: svs) ((insD i D, ob') :: M)) : WalkT P nt l fr E ed K ((i, D) :: ts) svs M :=
 ⟨o, ob, s, ho, hM, hu, .inl hv, .inr ⟨ht, ob', h, hn, k⟩⟩
theorem w_nil {l : List Oper} {fr : Fr} {E : List Nat} {ed : Ed} {T2 : List (Nat × List Nat)} {Q : Post} {svs : Sv} {M : Mo} {obE : Obs} (h1 : (free2 l l.toArray svs fr ed && (List.range l.length).all fun j => (R6 svs j).isSome) = true) (h2 : X0 M E = some obE)
  (h3 : CheckT P nt l fr E ed svs M T2) (h4 : Q .normal (n3 (killsOf ed) (frOf l svs fr)) obE) : WalkT P nt l fr E ed (Fin2 P nt l fr E ed T2 Q) [] svs M := ⟨h1, h3, obE, h2, h4⟩
theorem R9 {l : List Oper} {fr : Fr} {E : List Nat} {ed : Ed} {i : Nat} {D : List Nat} {ts : List (Nat × List Nat)} {svs : Sv} {M : Mo} {o : Oper} {ob : Obs} {s : SV} (ho : l[i]? = some o) (hM : X0 M D = some ob) (hu : usesDone l svs o = true)
  (hv : R6 svs i = some s) (ht : V6 E i = false) (h : Neu P o (P3 (frOf l svs fr) (V1 o.op)) ob (fun s' => s' = s)) (k : CheckT P nt l fr E ed svs M ts) : CheckT P nt l fr E ed svs M ((i, D) :: ts) :=
 ⟨⟨o, ob, s, ho, hM, hu, hv, .inl ⟨ht, h⟩⟩, k⟩
theorem x_nil {l : List Oper} {fr : Fr} {E : List Nat} {ed : Ed} {svs : Sv} {M : Mo} : CheckT P nt l fr E ed svs M [] := trivial
theorem opvU {U frc : Fr} (hU : FrExt U frc) {x : Operand} {s : SV} (h : opv U x = some s) : opv frc x = some s := by
 cases x with
 | tmp t =>
  have h : Z8 U t = some s := h
  obtain ⟨h1, h2⟩ := getT_spec h
  show Z8 frc t = some s
  unfold Z8
  have : Nat.blt t 1000000 = true := by simpa using h1
  rw [this]; exact hU t s h2
 | _ => exact h
theorem argsU {U frc : Fr} (hU : FrExt U frc) : ∀ {xs : List Operand} {ps : List S1}, argsS U xs = some ps → argsS frc xs = some ps
 | [], ps, h => h
 | x :: r, ps, h => by
  unfold argsS at h ⊢
  cases hx : opv U x with
  | none => rw [hx] at h; cases h
  | some sv =>
   rw [hx] at h
   cases sv with
   | s s0 =>
    simp only at h
    cases hr : argsS U r with
    | none => rw [hr] at h; cases h
    | some qs =>
     rw [hr] at h
     rw [opvU hU hx]
     simp only
     rw [argsU hU hr]; exact h
   | _ => cases h
theorem r_eff {U : Fr} {op : Op} {ty : TypeId} {pos : String} {af : Array Edge} {ob ob' : Obs} (h : ∀ frc, FrExt U frc → Eff P ⟨none, op, ty, pos, af, none⟩ frc ob frc ob') : EffR P nt ⟨none, op, ty, pos, af, none⟩ U [] [] ob ob' .any := by
 intro frc hU _ S G a w hn hs
 have := h frc hU S G a w hs
 have hdk : n3 [] frc = frc := by unfold n3; exact List.filter_eq_self.2 fun p _ => rfl
 have imp : ∀ (v : Value) (w' : World), (∃ G', Sim P S frc ob' G' a w') → ∃ G', Sim P S (n3 [] frc) ob' G' a w' ∧ ∀ d, (none : Option Tmp) = some d → SV.rep (F3 (Mut S ob' G') w') G' .any v := fun v w' ⟨G', h⟩ => ⟨G', by rw [hdk]; exact h, fun d hd => by cases hd⟩
 unfold Does at this ⊢
 generalize (execOp a.eval _).run P w = r at *
 cases r with
 | ok n w' =>
  cases n <;> simp only at this ⊢ <;> try exact this.elim
  case value v => exact imp v w' this
  case skip => exact imp undef w' this
  case enter f args => exact this.mono fun e w'' ⟨v, he, hv⟩ => ⟨v, he, imp v w'' hv⟩
 | halt x w' => exact this
theorem r_turn {U : Fr} {k : Nat} {kills : List Nat} {o : Oper} {ob ob' : Obs} {s : SV} (h : ∀ frc, FrExt U frc → EffV P o frc ob s (Fr.forget k frc) ob') : EffR P nt o U [k] kills ob ob' s := by
 intro frc hU hfree S G a w hn hs
 have := h frc hU S G a w hs
 have imp : ∀ (v : Value) (w' : World), (∃ G', Sim P S (Fr.forget k frc) ob' G' a w' ∧ s.rep (F3 (Mut S ob' G') w') G' v) → ∃ G', Sim P S (n3 kills frc) ob' G' a w' ∧ ∀ d, o.dst = some d → s.rep (F3 (Mut S ob' G') w') G' v := fun v w' ⟨G', h, hr⟩ => ⟨G', h.weaken (fun t x ht => by
  obtain ⟨hk, ht⟩ := getF_dropK.1 ht
  rw [O0, ht]
  simp [SV.forget_free (hfree k (by simp) t x ht hk)]), fun _ _ => hr⟩
 unfold Does at this ⊢
 generalize (execOp a.eval _).run P w = r at *
 cases r with
 | ok n w' =>
  cases n <;> simp only at this ⊢ <;> try exact this.elim
  case value v => exact imp v w' this
  case skip => exact imp undef w' this
  case enter f args => exact this.mono fun e w'' ⟨v, he, hv⟩ => ⟨v, he, imp v w'' hv⟩
 | halt x w' => exact this
theorem fForgets_free : ∀ {ks : List Nat} {fr : Fr} {t : Nat} {x : SV}, D6 fr t = some x → (∀ k ∈ ks, x.free k = true) → D6 (J7 ks fr) t = some x
 | [], _, _, _, h, _ => h
 | k :: ks, fr, t, x, h, hf => by
  show D6 (J7 ks (Fr.forget k fr)) t = some x
  refine fForgets_free ?_ (fun k' hk' => hf k' (List.mem_cons_of_mem _ hk'))
  rw [O0, h]
  simp [SV.forget_free (hf k (List.mem_cons_self ..))]
theorem r_met {f : FuncId} {xs : List Operand} {ats : Array TypeId} {d : Nat} {ty : TypeId} {pos : String} {af : Array Edge} {U : Fr} {args : List S1} {ks kills : List Nat} {ob ob' : Obs} {rs : List S1}
  (hf : ∀ gf, Met P f args gf ob ks (fun rs' ob'' => rs' = rs ∧ ob'' = ob')) (ha : argsS U xs = some args) (hc : xs.all L3 = true) : EffR P nt ⟨some d, .call ⟨.value (.func f), xs.toArray, ats⟩, ty, pos, af, none⟩ U ks kills ob ob' (resS rs) := by
 intro frc hU hfree S G a w hn h
 have hvals := argsS_rep h xs args (argsU hU ha) hc
 obtain ⟨gv, hgv⟩ : ∃ gv : Nat → Value, gv = fun i => S.sl a (i - 1000000) := ⟨_, rfl⟩
 let S' : Ctx := { S with gv := gv }
 have hhigh : High (shF frc) := fun i s hi => (m8 frc i s hi).1
 have hfacts0 : ∀ i s, D6 (shF frc) i = some s → s.rep (F3 (Mut S' ob G) w) G (S'.sl a i) := by
  intro i s hi
  obtain ⟨h7, h8⟩ := m8 frc i s hi
  rw [Ctx.sl_ge h7]
  show s.rep _ _ (gv i)
  have e := congrFun hgv i
  rw [e]
  exact h.facts (i - 1000000) s h8
 have hs : Sim P S' (shF frc) ob G a w := { h with facts := hfacts0 }
 have hcalls := (hf (shF frc)).2 hhigh S' G a w _ hs hvals
 have he : (execOp a.eval ⟨some d, .call ⟨.value (.func f), xs.toArray, ats⟩, ty, pos, af, none⟩).run P w = .ok (.enter f (xs.map a.eval).toArray) w := by
  have := Y7 (P := P) (f := f) (args := (xs.map a.eval).toArray) (w := w) (hf []).1
  have hm : xs.toArray.map a.eval = (xs.map a.eval).toArray := by simp
  simp only [execOp, resolve, Act.eval, Deferred.ofValue, Sem.run_bind, Sem.run_pure, Result.andThen_ok, invoke]
  rw [show (#[] : Array Value) ++ Array.map a.eval xs.toArray ++ #[] = (xs.map a.eval).toArray by rw [← hm]; simp]
  exact this
 unfold Does
 rw [he]
 refine hcalls.mono ?_
 rintro e w' ⟨v, rs', ob'', G', rfl, ⟨rfl, rfl⟩, hres, hs'⟩
 have hfacts : ∀ i s, D6 (J7 ks frc) i = some s → s.rep (F3 (Mut S ob'' G') w') G' (S.sl a i) := by
  intro i s hi
  have h7 := hs'.facts (i + 1000000) s (by rw [t7]; exact shF_get hi)
  have h8 : 1000000 ≤ i + 1000000 := Nat.le_add_left _ _
  rw [Ctx.sl_ge h8] at h7
  have h7 : s.rep (F3 (Mut S ob'' G') w') G' (gv (i + 1000000)) := h7
  have e := congrFun hgv (i + 1000000)
  simp only [Nat.add_sub_cancel] at e
  rw [e] at h7
  exact h7
 have hsim : Sim P S (J7 ks frc) ob'' G' a w' := { hs' with facts := hfacts }
 refine ⟨v, rfl, G', hsim.weaken (fun t x ht => ?_), fun _ _ => hres⟩
 obtain ⟨hk, ht⟩ := getF_dropK.1 ht
 exact fForgets_free ht (fun k hkk => hfree k hkk t x ht hk)
end
end Go.AL
namespace Go.AL
open Go Go.RowKit
set_option linter.unusedVariables false
section
variable {P : Program} {nt : Nat} {fr : Fr} {ob : Obs}
theorem Sees.adoptE (k : Nat) (α : Type) (ec : Nat) (c : α → Nat → Cell) (e : TypeId) {kb o n m : Nat} {ts : List TC} (hb : D4 ob kb = some (.tarr n m ts)) (hts : ts[o]? = some (.p (.v (.slice none 0 0)))) (hf : (I3 k fr && M7 k ob) = true) :
  Sees P nt fr ob fr ((kb, .tarr n m (ts.set o (.buf k α ec c []))) :: (k, .spare 0 ec e) :: ob) := by
 simp only [Bool.and_eq_true] at hf
 obtain ⟨h1, h2⟩ := hf
 obtain ⟨h4, h5, hp⟩ := U4 h2
 intro S G a w hn h
 have h6 := h.new hp (o := .spare 0 ec e) (u := .slice none 0 0) (w1 := w) h5 (Below.refl _ _) (fun b hb => by simp [blk] at hb) ⟨[], World.ownsRow_nil w _ _ _⟩
 rw [V5 h1, h4] at h6
 have hkb : k ≠ kb := fun he => by rw [he, hb] at h5; cases h5
 have hb' : D4 ((k, Ob.spare 0 ec e) :: ob) kb = some (.tarr n m ts) := by rw [C1 hkb]; exact hb
 obtain ⟨b, vs, t, hg, hl, hh, hlen, ha⟩ := h6.obs kb _ hb'
 have hbk : blk (upd G k (.slice none 0 0) kb) = some b := by rw [hg]; rfl
 refine ⟨_, h6.retell hb' hbk (fun i => ⟨hbk, trivial⟩) (fun i => ⟨hbk, trivial⟩) ?_⟩
 rintro rd ⟨b', vs', t', hg', hl', hh', hlen', ha'⟩
 refine ⟨b', vs', t', hg', hl', hh', by simpa using hlen', All2.setL o (fun z hz => ?_) ha'⟩
 obtain ⟨z', hz1, hz2⟩ := ha'.get o _ hts
 rw [hz] at hz1; cases hz1
 rw [hz2.1]
 exact ⟨(J2 _ _ _).symm, T4 α ec c⟩
end
end Go.AL
namespace Go.AL
open Go Go.RowKit
set_option linter.unusedVariables false
def keysO (L : Obs) : List Nat := L.map (·.1)
theorem obs_put {L cur rest : Obs} (h : ObIn cur L) (hr : ∀ j x, V6 (keysO L) j = false → D4 rest j = some x → D4 cur j = some x) : ∀ j x, D4 (L ++ rest) j = some x → D4 cur j = some x := by
 have key : ∀ (L : Obs) (j : Nat) (x : Ob), D4 (L ++ rest) j = some x → (D4 L j = some x) ∨ (V6 (keysO L) j = false ∧ D4 rest j = some x) := by
  intro L
  induction L with
  | nil => intro j x hx; exact .inr ⟨rfl, hx⟩
  | cons p r ih =>
   obtain ⟨k, o⟩ := p
   intro j x hx
   have hx : D4 ((k, o) :: (r ++ rest)) j = some x := hx
   by_cases hk : k = j
   ·subst hk; rw [D9] at hx; left; rw [D9]; exact hx
   ·rw [C1 hk] at hx
    rcases ih j x hx with h1 | ⟨h1, h2⟩
    ·left; rw [C1 hk]; exact h1
    ·right
     refine ⟨?_, h2⟩
     cases hh : V6 (keysO ((k, o) :: r)) j
     ·rfl
     ·rcases List.mem_cons.1 (hasN_iff.1 hh) with q | q
      ·exact absurd q.symm hk
      ·rw [show V6 (keysO r) j = true from hasN_iff.2 q] at h1; cases h1
 intro j x hx
 rcases key L j x hx with h1 | ⟨h1, h2⟩
 ·exact h.spec j x h1
 ·exact hr j x h1 h2
theorem obs_refl {K : List Nat} {rest : Obs} : ∀ j x, V6 K j = false → D4 rest j = some x → D4 rest j = some x := fun _ _ _ h => h
theorem obs_skip {K : List Nat} {T rest : Obs} {k : Nat} {o : Ob} (hk : V6 K k = true) (h : ∀ j x, V6 K j = false → D4 rest j = some x → D4 T j = some x) : ∀ j x, V6 K j = false → D4 rest j = some x → D4 ((k, o) :: T) j = some x := by
 intro j x hj hx
 have : k ≠ j := fun e => by rw [e, hj] at hk; cases hk
 rw [C1 this]; exact h j x hj hx
theorem obs_fgt {K : List Nat} {T ob : Obs} (k : Nat) (h : ∀ j x, V6 K j = false → D4 (Obs.forget k ob) j = some x → D4 T j = some x) : ∀ j x, V6 K j = false → D4 (Obs.forget k ob) j = some x → D4 (Obs.forget k T) j = some x := by
 intro j x hj hx
 have h1 := h j x hj hx
 rw [O1, h1]
 have h2 := hx
 rw [← Obs.forget_idem, O1, hx] at h2
 exact h2
theorem getO_app {rest : Obs} : ∀ {L : Obs} {j : Nat} {x : Ob}, D4 (L ++ rest) j = some x → D4 L j = some x ∨ D4 rest j = some x
 | [], j, x, hx => .inr hx
 | (k, o) :: r, j, x, hx => by
  have hx : D4 ((k, o) :: (r ++ rest)) j = some x := hx
  by_cases hk : k = j
  ·subst hk; rw [D9] at hx; left; rw [D9]; exact hx
  ·rw [C1 hk] at hx
   rcases getO_app hx with h1 | h1
   ·left; rw [C1 hk]; exact h1
   ·exact .inr h1
section
variable {P : Program} {nt : Nat} {fr gf : Fr} {ob : Obs}
theorem Sees.tailL (k : Nat) {l : Fr} {L : Obs} (hl : FrLe fr l) (hH : High gf) (ht : Tail gf fr) (hL : ObIn ob L) : Sees P nt fr ob (l ++ Fr.forget k gf) (L ++ Obs.forget k ob) := by
 intro S G a w hn h
 have hget : ∀ k' o1, D4 (L ++ Obs.forget k ob) k' = some o1 → ∃ o0, D4 ob k' = some o0 ∧ (o1 = o0 ∨ o1 = o0.forget k) := by
  intro k' o1 hk'
  rcases getO_app hk' with h1 | h1
  ·exact ⟨o1, hL.spec k' o1 h1, .inl rfl⟩
  ·rw [O1] at h1
   cases hg : D4 ob k' with
   | none => rw [hg] at h1; cases h1
   | some o0 => rw [hg] at h1; cases h1; exact ⟨o0, rfl, .inr rfl⟩
 have hrd : ∀ b i z, F3 (Mut S ob G) w b i z → F3 (Mut S (L ++ Obs.forget k ob) G) w b i z := by
  intro b i z hr
  refine ⟨hr.1, fun hm => hr.2 ?_⟩
  rcases hm with hm | ⟨k', o1, hk', hb⟩
  ·exact .inl hm
  ·obtain ⟨o0, h0, rfl | rfl⟩ := hget k' o1 hk'
   ·exact .inr ⟨k', _, h0, hb⟩
   ·exact .inr ⟨k', o0, h0, Own_forget.1 hb⟩
 refine ⟨G, { h with old := ?_, dis := ?_, obs := ?_, facts := ?_ }⟩
 ·intro k' o1 b hk' hb
  obtain ⟨o0, h0, _⟩ := hget k' o1 hk'
  exact h.old k' o0 b h0 hb
 ·intro k1 k2 o1 o2 b h1 h2 hb1 hb2
  obtain ⟨oa, ha, _⟩ := hget k1 o1 h1
  obtain ⟨ob', hb', _⟩ := hget k2 o2 h2
  exact h.dis k1 k2 oa ob' b ha hb' hb1 hb2
 ·intro k' o1 hk'
  obtain ⟨o0, h0, rfl | rfl⟩ := hget k' o1 hk'
  ·exact (h.obs k' _ h0).ext hrd (Below.refl _ _)
  ·exact ((h.obs k' o0 h0).ext hrd (Below.refl _ _)).forget (fun _ _ => rfl)
 ·intro i s hi
  rw [t6] at hi
  cases hg : D6 l i with
  | some s0 =>
   rw [hg] at hi
   have hi : some s0 = some s := hi
   cases hi
   obtain ⟨s1, h1, h2⟩ := hl.spec i _ hg
   exact h2.rep (SV.rep_mono hrd (h.facts i s1 h1))
  | none =>
   rw [hg] at hi
   have hi : D6 (Fr.forget k gf) i = some s := hi
   rw [O0] at hi
   cases hgf : D6 gf i with
   | none => rw [hgf] at hi; cases hi
   | some s0 =>
    rw [hgf] at hi; cases hi
    exact SV.rep_forget (fun _ _ => rfl) (SV.rep_mono hrd (h.facts i s0 (ht i s0 (hH i s0 hgf) hgf)))
end
end Go.AL
namespace Go.AL
open Go Go.RowKit
set_option linter.unusedVariables false
section
variable {P : Program} {nt : Nat} {fr : Fr} {ob : Obs} {dst : Option Tmp} {ty : TypeId} {pos : String} {af : Array Edge} {gd : Option (Nat × Bool)}
theorem Sim.retold {S : Ctx} {G : Gh} {a : Act} {w : World} (h : Sim P S fr ob G a w) {k : Nat} {o o' : Ob} (hk : D4 ob k = some o) (hown : ∀ b i, Own (G k) o' b i → Own (G k) o b i)
  (ho : ∀ rd : Rd, ObOk S rd G w (G k) o → ObOk S rd G w (G k) o') : Sim P S fr ((k, o') :: ob) G a w := by
 have hget : ∀ k' o1, D4 ((k, o') :: ob) k' = some o1 → ∃ o0, D4 ob k' = some o0 ∧ ∀ b i, Own (G k') o1 b i → Own (G k') o0 b i := by
  intro k' o1 hk'
  by_cases hkk : k' = k
  ·subst hkk; rw [D9] at hk'; cases hk'; exact ⟨_, hk, hown⟩
  ·rw [C1 (Ne.symm hkk)] at hk'; exact ⟨_, hk', fun _ _ ho => ho⟩
 have hrd : ∀ b i z, F3 (Mut S ob G) w b i z → F3 (Mut S ((k, o') :: ob) G) w b i z := by
  intro b i z hr
  refine ⟨hr.1, fun hm => hr.2 ?_⟩
  rcases hm with hm | ⟨k', o1, hk', hb⟩
  ·exact .inl hm
  ·obtain ⟨o0, h0, hi⟩ := hget k' o1 hk'
   exact .inr ⟨k', o0, h0, hi _ _ hb⟩
 refine { h with old := ?_, dis := ?_, obs := ?_, facts := ?_ }
 ·intro k' o1 b hk' hb
  obtain ⟨o0, h0, _⟩ := hget k' o1 hk'
  exact h.old k' o0 b h0 hb
 ·intro k1 k2 o1 o2 b h1 h2 hb1 hb2
  obtain ⟨oa, ha, _⟩ := hget k1 o1 h1
  obtain ⟨ob', hb', _⟩ := hget k2 o2 h2
  exact h.dis k1 k2 oa ob' b ha hb' hb1 hb2
 ·intro k' o1 hk'
  by_cases hkk : k' = k
  ·subst hkk; rw [D9] at hk'; cases hk'
   exact ho _ ((h.obs k' _ hk).ext hrd (Below.refl _ _))
  ·rw [C1 (Ne.symm hkk)] at hk'
   exact (h.obs k' o1 hk').ext hrd (Below.refl _ _)
 ·intro i s hi
  exact SV.rep_mono hrd (h.facts i s hi)
theorem Sim.grow_cell {S : Ctx} {G : Gh} {a : Act} {w : World} (h : Sim P S fr ob G a w) {k b n cap i o ec : Nat} {e : TypeId} {α : Type} {c : α → Nat → Cell} {xs : List α} {v : α} (hk : D4 ob k = some (.grow e α ec c xs)) (hg : G k = .slice (some ⟨b, 0, none⟩) n cap) (hv : xs[i]? = some v) (ho : o < ec) :
  ∃ z, w.cell? ⟨b, i * ec + o, none⟩ = some z ∧ (c v o).rep (F3 (Mut S ob G) w) z := by
 obtain ⟨vs, hown, _, hc⟩ := h.obs k _ hk
 obtain ⟨hi, rfl⟩ := List.getElem?_eq_some_iff.1 hv
 obtain ⟨z, h1, h2⟩ := hc i hi o ho
 have := hown.cells (g := b) (by rw [hg]; rfl) (i * ec + o) z h1
 exact ⟨z, by simpa [Addr.add_lit] using this, h2⟩
theorem n_load_g {x : Operand} {t e : TypeId} {k i o : Nat} {α : Type} {ec : Nat} {c : α → Nat → Cell} {xs : List α} {v : α} [ht : TyOne P t] (hx : opv fr x = some (.s (.one (.mref k ec i o)))) (hk : D4 ob k = some (.grow e α ec c xs)) (hv : xs[i]? = some v)
  (ho : Nat.blt o ec = true) : Neu P ⟨dst, .load t x, ty, pos, af, gd⟩ fr ob (fun s' => s' = .s (.one (.p (c v o)))) :=
 E7 fun S G a w h => by
  obtain ⟨b, n, cap, hg, hu⟩ := H6 h hx
  obtain ⟨z, hz1, hz2⟩ := h.grow_cell hk hg hv (by simpa using ho)
  refine ⟨z, ?_, hz2⟩
  simp only [execOp, hu]
  exact M6 (by simp [Instr.loadAt, Instr.sureAddr, Q0 hz1])
theorem n_loads_g {x : Operand} {t e : TypeId} {n k i o : Nat} {α : Type} {ec : Nat} {c : α → Nat → Cell} {xs : List α} {v : α} [ht : TyAgg P t n] (hx : opv fr x = some (.s (.one (.mref k ec i o)))) (hk : D4 ob k = some (.grow e α ec c xs)) (hv : xs[i]? = some v)
  (ho : Nat.ble (o + n) ec = true) : Neu P ⟨dst, .load t x, ty, pos, af, gd⟩ fr ob (fun s' => s' = .s (.agg ((cellsOf c v o n).map .p))) :=
 E7 fun S G a w h => by
  obtain ⟨b, m, cap, hg, hu⟩ := H6 h hx
  have hle : o + n ≤ ec := by simpa using ho
  obtain ⟨vs, hl, hvs⟩ := exists_list (R := fun j z => w.cell? ⟨b, i * ec + (o + j), none⟩ = some z ∧ (c v (o + j)).rep (F3 (Mut S ob G) w) z) n (fun j hj => h.grow_cell hk hg hv (by omega))
  refine ⟨.agg vs.toArray, ?_, vs, rfl, ?_⟩
  ·simp only [execOp, hu]
   refine M6 ?_
   simp [Instr.loadAt, Instr.sureAddr, d9 (ht := ht) (o := i * ec + o) hl (fun j z hz => by rw [Nat.add_assoc]; exact (hvs j z hz).1)]
  ·refine s9 (by simp [hl, I9]) fun j t z h1 h2 => ?_
   rw [List.getElem?_map] at h1
   cases hc : (cellsOf c v o n)[j]? with
   | none => simp [hc] at h1
   | some cc =>
    simp [hc] at h1
    obtain ⟨rfl, _⟩ := R2 c v n o j cc hc
    subst h1
    exact (hvs j z h2).2
theorem ret4 {fn : Func} {t t' t'' t3 : Tmp} {s s' s'' s3 : S1} {p p' p'' p3 : PV} (hr : fn.results = #[.tmp t, .tmp t', .tmp t'', .tmp t3]) (ht : Z8 fr t = some (.s s)) (hp : s.pv? = some p) (ht' : Z8 fr t' = some (.s s')) (hp' : s'.pv? = some p')
  (ht'' : Z8 fr t'' = some (.s s'')) (hp'' : s''.pv? = some p'') (ht3 : Z8 fr t3 = some (.s s3)) (hp3 : s3.pv? = some p3) : RetOk P fn fr ob [p, p', p'', p3] :=
 fun S G a w h => ⟨.tuple #[a.tmps.getD t undef, a.tmps.getD t' undef, a.tmps.getD t'' undef, a.tmps.getD t3 undef], by simp [results, hr], [_, _, _, _], rfl, Y8 h ht hp, Y8 h ht' hp', Y8 h ht'' hp'', Y8 h ht3 hp3, trivial⟩
theorem rets4 {fn : Func} {t t' t'' t3 : Tmp} {s s' s'' s3 : S1} (hr : fn.results = #[.tmp t, .tmp t', .tmp t'', .tmp t3]) (ht : Z8 fr t = some (.s s)) (ht' : Z8 fr t' = some (.s s')) (ht'' : Z8 fr t'' = some (.s s'')) (ht3 : Z8 fr t3 = some (.s s3)) : RetS P fn fr ob [s, s', s'', s3] :=
 fun S G a w h => ⟨.tuple #[a.tmps.getD t undef, a.tmps.getD t' undef, a.tmps.getD t'' undef, a.tmps.getD t3 undef], by simp [results, hr], [_, _, _, _], rfl, h.slot ht, h.slot ht', h.slot ht'', h.slot ht3, trivial⟩
end
end Go.AL
namespace Go.AL
open Go Go.RowKit
set_option linter.unusedVariables false
section
variable {P : Program} {nt : Nat} {fr : Fr} {ob : Obs} {dst : Option Tmp} {ty : TypeId} {pos : String} {af : Array Edge} {gd : Option (Nat × Bool)}
theorem e_adoptG (k : Nat) (α : Type) (c : α → Nat → Cell) {t e : TypeId} {ec bytes : Nat} [ht : TySl P t e ec bytes] (hk : D4 ob k = none) (hp : Nat.blt k 1000000 = true) :
  EffV P ⟨dst, .assign (.const (.slice none 0 0)), t, pos, af, gd⟩ fr ob (.s (.one (.mut k))) (Fr.forget k fr) ((k, .grow e α ec c []) :: Obs.forget k ob) := by
 intro S G a w h
 refine K4 (w' := w) (v := .slice none 0 0) Z ?_
 have h6 := h.new (by simpa using hp) (o := .grow e α ec c []) (u := .slice none 0 0) (w1 := w) hk (Below.refl _ _) (fun b hb => by simp [blk] at hb) ⟨[], World.ownsRow_nil w _ _ _, by simp, fun i hi => absurd hi (by simp)⟩
 exact ⟨upd G k (.slice none 0 0), h6, (J2 _ _ _).symm, rfl⟩
theorem e_buildG (k : Nat) (α : Type) (c : α → Nat → Cell) {t e : TypeId} {ec bytes : Nat} [ht : TySl P t e ec bytes] (hecb : Nat.ble ec 100 = true) (hk : D4 ob k = none) (hp : Nat.blt k 1000000 = true) :
  EffV P ⟨dst, .buildSlice t 0 #[], ty, pos, af, gd⟩ fr ob (.s (.one (.mut k))) (Fr.forget k fr) ((k, .grow e α ec c []) :: Obs.forget k ob) := by
 intro S G a w h
 have h0 := e_buildBuf (P := P) (dst := dst) (ty := ty) (pos := pos) (af := af) (gd := gd) (ht := ht) k (α := α) (c := c) (ys := []) (parts := #[]) (n := 0) I6 rfl rfl hecb hk (by simpa using hp) S G a w h
 refine does_imp h0 ?_
 rintro v w' ⟨G', hs, hv⟩
 have hk' : D4 ((k, Ob.spare ([] : List α).length ec e) :: Obs.forget k ob) k = some (.spare 0 ec e) := D9 _ _ _
 obtain ⟨vs0, hown0⟩ := hs.obs k _ hk'
 refine ⟨G', ((hs.retold (o' := .grow e α ec c []) hk' (fun b i ho => ⟨ho.1, by simp⟩) ?_).weakenO ?_), ?_⟩
 ·rintro rd ⟨vs, hown⟩
  exact ⟨vs, hown, by simp, fun i hi => absurd hi (by simp)⟩
 ·intro k' o' h1
  by_cases hkk : k = k'
  ·subst hkk; rw [D9] at h1 ⊢; exact h1
  ·rw [C1 hkk] at h1 ⊢; rw [C1 hkk]; exact h1
 ·exact ⟨hv.1, hv.1 ▸ ownsRow_one hown0⟩
theorem tail_drop {gf : Fr} {ks : List Nat} (hk : (ks.all fun k => Nat.blt k 1000000) = true) (h : Tail gf fr) : Tail gf (n3 ks fr) := fun i s hi hg => by
 refine getF_dropK.2 ⟨fun hin => ?_, h i s hi hg⟩
 have := List.all_eq_true.1 hk i hin
 have : i < 1000000 := by simpa using this
 omega
end
end Go.AL
namespace Go.AL
open Go Go.RowKit
set_option linter.unusedVariables false
section
variable {P : Program} {nt : Nat} {fr : Fr} {ob : Obs} {dst : Option Tmp} {ty : TypeId} {pos : String} {af : Array Edge} {gd : Option (Nat × Bool)}
theorem row_le {xs ec p : Nat} (hp : p < xs) : p * ec + ec ≤ xs * ec := by
 have : (p + 1) * ec ≤ xs * ec := Nat.mul_le_mul_right _ hp
 rw [Nat.add_mul, Nat.one_mul] at this; omega
theorem row_get {ec : Nat} {vs : List Value} {p o : Nat} (ho : o < ec) : ((vs.drop (p * ec)).take ec)[o]? = vs[p * ec + o]? := by
 rw [List.getElem?_take_of_lt ho, List.getElem?_drop]
theorem row_length {ec n : Nat} {vs : List Value} {p : Nat} (hl : vs.length = n * ec) (hp : p < n) : ((vs.drop (p * ec)).take ec).length = ec := by
 have := row_le (ec := ec) hp
 rw [List.length_take, List.length_drop]; omega
theorem Sees.openA (k p : Nat) {e : TypeId} {α : Type} {ec : Nat} {c : α → Nat → Cell} {xs : List α} {v : α} (hk : D4 ob k = some (.grow e α ec c xs)) (hv : xs[p]? = some v) :
  Sees P nt fr ob fr ((k, .growA e α ec c xs p ((cellsOf c v 0 ec).map .p)) :: ob) := fun S G a w hn h => by
 obtain ⟨hp, rfl⟩ := List.getElem?_eq_some_iff.1 hv
 refine ⟨G, h.retold hk (fun b i ho => ⟨ho.1, trivial⟩) ?_⟩
 rintro rd ⟨vs, hown, hlen, hc⟩
 refine ⟨vs, hown, hlen, hp, by simp [I9], fun i h _ j hj => hc i h j hj, ?_⟩
 refine s9 (by rw [row_length hown.1 hp]; simp [I9]) fun j t z h1 h2 => ?_
 rw [List.getElem?_map] at h1
 cases hcc : (cellsOf c xs[p] 0 ec)[j]? with
 | none => simp [hcc] at h1
 | some cc =>
  simp [hcc] at h1
  have hj : j < ec := by have := (List.getElem?_eq_some_iff.1 hcc).1; rw [I9] at this; exact this
  obtain ⟨rfl, _⟩ := R2 c xs[p] ec 0 j cc hcc
  subst h1
  rw [row_get hj] at h2
  obtain ⟨z', h3, h4⟩ := hc p hp j hj
  rw [h3] at h2; cases h2
  simpa [TC.rep] using h4
theorem Sees.closeA (k : Nat) {e : TypeId} {α : Type} {ec : Nat} {c : α → Nat → Cell} {xs : List α} {p : Nat} {ts : List TC} (y : α) (hk : D4 ob k = some (.growA e α ec c xs p ts)) (hts : pureL ts = some (cellsOf c y 0 ec)) :
  Sees P nt fr ob fr ((k, .grow e α ec c (xs.set p y)) :: ob) := fun S G a w hn h => by
 refine ⟨G, h.retold hk (fun b i ho => ⟨ho.1, trivial⟩) ?_⟩
 rintro rd ⟨vs, hown, hlen, hp, htl, hc, ha⟩
 refine ⟨vs, by simpa using hown, by simpa using hlen, fun i hi j hj => ?_⟩
 have hi' : i < xs.length := by simpa using hi
 by_cases hip : i = p
 ·subst hip
  have hset : (xs.set i y)[i]'hi = y := by simp
  rw [hset]
  have hget : (cellsOf c y 0 ec)[j]? = some (c y j) := by
   have hlt : j < (cellsOf c y 0 ec).length := by rw [I9]; exact hj
   rw [List.getElem?_eq_getElem hlt]
   have := R2 c y ec 0 j _ (List.getElem?_eq_getElem hlt)
   rw [this.1, Nat.zero_add]
  obtain ⟨z, h1, h2⟩ := (y5 hts ha).get _ _ hget
  rw [row_get hj] at h1
  exact ⟨z, h1, h2⟩
 ·have hset : (xs.set p y)[i]'hi = xs[i] := by rw [List.getElem_set_ne (Ne.symm hip)]
  rw [hset]
  exact hc i hi' hip j hj
theorem n_len_gA {x : Operand} {t e e' : TypeId} {eb bytes k ec p : Nat} {α : Type} {c : α → Nat → Cell} {xs : List α} {ts : List TC} (hx : opv fr x = some (.s (.one (.mut k)))) (hk : D4 ob k = some (.growA e' α ec c xs p ts)) [ht : TySl P t e eb bytes] :
  Neu P ⟨dst, .call ⟨.builtin .len, #[x], #[t]⟩, ty, pos, af, gd⟩ fr ob (fun s' => s' = C2 xs.length) :=
 E7 fun S G a w h => by
  refine ⟨.int .i64 xs.length, ?_, rfl, rfl⟩
  obtain ⟨hu, _⟩ := H6 h hx
  obtain ⟨vs, hown, _⟩ := h.obs k _ hk
  rcases hown.2 with ⟨hg, h0⟩ | ⟨g, cap, cur, hg, _⟩
  ·rw [hg] at hu
   simp [execOp, resolve, invoke, builtin, hu, Builtin.len_, run_underlying ht.out.1, goInt, h0]
  ·rw [hg] at hu
   simp [execOp, resolve, invoke, builtin, hu, Builtin.len_, run_underlying ht.out.1, goInt]
theorem n_indexAddr_gA {x y : Operand} {t e e' : TypeId} {ec bytes k p : Nat} {α : Type} {c : α → Nat → Cell} {xs : List α} {ts : List TC} {ki : IntKind} {i : Int} [ht : TySl P t e ec bytes] (hx : opv fr x = some (.s (.one (.mut k)))) (hk : D4 ob k = some (.growA e' α ec c xs p ts))
  (hy : opv fr y = some (J9 (.int ki i))) (h0 : 0 ≤ i) (h1 : i < xs.length) : Neu P ⟨dst, .indexAddr t x y, ty, pos, af, gd⟩ fr ob (fun s' => s' = .s (.one (.mref k ec i.toNat 0))) :=
 E7 fun S G a w h => by
  obtain ⟨hu, _⟩ := H6 h hx
  obtain ⟨vs, hown, _⟩ := h.obs k _ hk
  rcases hown.2 with ⟨hg, h2⟩ | ⟨g, cap, cur, hg, _⟩
  ·omega
  ·rw [hg] at hu
   refine ⟨.pointer (some ⟨g, i.toNat * ec, none⟩), ?_, g, xs.length, cap, hg, rfl⟩
   simp only [execOp, hu, G8 h hy]
   refine M6 ?_
   have hb : 0 ≤ i ∧ i < (xs.length : Int) := ⟨h0, h1⟩
   simp [Instr.indexAt, run_underlying ht.out.1, asIntOf, hb, L7 ht.size, Addr.add_lit]
theorem n_load_gA {x : Operand} {t e : TypeId} {k p q o : Nat} {α : Type} {ec : Nat} {c : α → Nat → Cell} {xs : List α} {ts : List TC} {s : TC} [ht : TyOne P t] (hx : opv fr x = some (.s (.one (.mref k ec q o)))) (hk : D4 ob k = some (.growA e α ec c xs p ts)) (hq : q = p) (hv : ts[o]? = some s) :
  Neu P ⟨dst, .load t x, ty, pos, af, gd⟩ fr ob (fun s' => s' = .s (.one s)) :=
 E7 fun S G a w h => by
  subst hq
  obtain ⟨b, m, cap, hg, hu⟩ := H6 h hx
  obtain ⟨vs, hown, _, hp, htl, _, ha⟩ := h.obs k _ hk
  obtain ⟨z, hz1, hz2⟩ := ha.get _ s hv
  have ho : o < ec := by have := (List.getElem?_eq_some_iff.1 hv).1; omega
  rw [row_get ho] at hz1
  have := hown.cells (g := b) (by rw [hg]; rfl) (q * ec + o) z hz1
  refine ⟨z, ?_, hz2⟩
  simp only [execOp, hu]
  refine M6 ?_
  have hcell : w.cell? ⟨b, q * ec + o, none⟩ = some z := by simpa [Addr.add_lit] using this
  simp [Instr.loadAt, Instr.sureAddr, Q0 (ht := ht) hcell]
theorem row_set {cur cl : List Value} {N p ec o n : Nat} (hN : p * ec + ec ≤ N) (hN2 : N ≤ cur.length) (hcl : cl.length = n) (ho : o + n ≤ ec) :
  (((cur.take (p * ec + o) ++ cl ++ cur.drop (p * ec + o + n)).take N).drop (p * ec)).take ec
   = (((cur.take N).drop (p * ec)).take ec).take o ++ cl ++ (((cur.take N).drop (p * ec)).take ec).drop (o + cl.length) := by
 subst hcl
 obtain ⟨A, hA⟩ : ∃ A, A = cur.take (p * ec + o) := ⟨_, rfl⟩
 obtain ⟨B, hB⟩ : ∃ B, B = cur.drop (p * ec + o + cl.length) := ⟨_, rfl⟩
 obtain ⟨R, hR⟩ : ∃ R, R = ((cur.take N).drop (p * ec)).take ec := ⟨_, rfl⟩
 have hAl : A.length = p * ec + o := by rw [hA]; simp; omega
 have hRl : R.length = ec := by rw [hR]; simp; omega
 have hRj : ∀ j, j < ec → R[j]? = cur[p * ec + j]? := fun j hj => by rw [hR, row_get hj, List.getElem?_take_of_lt (by omega)]
 rw [← hA, ← hB, ← hR]
 apply List.ext_getElem?
 intro j
 by_cases hj : j < ec
 ·rw [row_get hj, List.getElem?_take_of_lt (by omega)]
  by_cases h1 : j < o
  ·have e1 : (A ++ cl ++ B)[p * ec + j]? = A[p * ec + j]? := by rw [List.append_assoc]; exact List.getElem?_append_left (by omega)
   have e2 : (R.take o ++ cl ++ R.drop (o + cl.length))[j]? = (R.take o)[j]? := by rw [List.append_assoc]; exact List.getElem?_append_left (by rw [List.length_take]; omega)
   rw [e1, e2, hA, List.getElem?_take_of_lt (by omega), List.getElem?_take_of_lt h1, hRj j hj]
  ·by_cases h2 : j < o + cl.length
   ·have e1 : (A ++ cl ++ B)[p * ec + j]? = cl[p * ec + j - A.length]? := by
     rw [List.getElem?_append_left (by rw [List.length_append]; omega)]; exact List.getElem?_append_right (by omega)
    have e2 : (R.take o ++ cl ++ R.drop (o + cl.length))[j]? = cl[j - (R.take o).length]? := by
     rw [List.getElem?_append_left (by rw [List.length_append, List.length_take]; omega)]; exact List.getElem?_append_right (by rw [List.length_take]; omega)
    rw [e1, e2, hAl, List.length_take]
    congr 1; omega
   ·have e1 : (A ++ cl ++ B)[p * ec + j]? = B[p * ec + j - (A ++ cl).length]? := List.getElem?_append_right (by rw [List.length_append]; omega)
    have e2 : (R.take o ++ cl ++ R.drop (o + cl.length))[j]? = (R.drop (o + cl.length))[j - (R.take o ++ cl).length]? := List.getElem?_append_right (by rw [List.length_append, List.length_take]; omega)
    rw [e1, e2, hB, List.getElem?_drop, List.getElem?_drop, List.length_append, List.length_append, List.length_take, hAl]
    rw [show p * ec + o + cl.length + (p * ec + j - (p * ec + o + cl.length)) = p * ec + j by omega, show o + cl.length + (j - (min o R.length + cl.length)) = j by omega, hRj j hj]
 ·rw [List.getElem?_eq_none (by rw [List.length_take]; omega), List.getElem?_eq_none (by simp only [List.length_append, List.length_take, List.length_drop]; omega)]
theorem e_store_gA {t e : TypeId} {x yo : Operand} {k p q o n : Nat} {α : Type} {ec : Nat} {c : α → Nat → Cell} {xs : List α} {ts : List TC} {s : S1} (hsz : (P.info? t).map (·.size) = some n) (hx : opv fr x = some (.s (.one (.mref k ec q o)))) (hk : D4 ob k = some (.growA e α ec c xs p ts)) (hq : q = p)
  (hy : opv fr yo = some (.s s)) (hcst : L3 yo = true) (hn : s.cells.length = n) (ho : Nat.ble (o + n) ec = true) :
  Eff P ⟨none, .store t x yo, ty, pos, af, gd⟩ fr ob fr ((k, .growA e α ec c xs p (setTs ts o s.cells)) :: ob) := by
 intro S G a w h
 subst hq
 obtain ⟨b, m, cap, hg, hu⟩ := H6 h hx
 obtain ⟨vs, hown, hlen, hlt, htl, hc, ha⟩ := h.obs k _ hk
 have hl := hown.1
 rcases hown.2 with ⟨hg0, h2⟩ | ⟨b', cap', cur, hg', hB, hh, hcap, hmax, hcs, htake⟩
 ·omega
 rw [hg] at hg'; cases hg'
 have hr : (SV.s s).rep (F3 (Mut S ob G) w) G (a.eval yo) := T3 h hy hcst
 have hcells := S1.rep_cells hr
 have hcl : (a.eval yo).cells.size = n := by rw [← hn, hcells.length]; simp
 have hle : o + n ≤ ec := by simpa using ho
 have hi1 : q * ec + ec ≤ xs.length * ec := row_le hlt
 have hi2 : xs.length * ec ≤ cur.size := by rw [hcs]; exact Nat.mul_le_mul_right _ hcap
 have hh' : w.heap[b]? = some (.cells cur.toList.toArray e (0, 0)) := by rw [Array.toArray_toList]; exact hh
 obtain ⟨w', hrun, hos, htape, hout, hsize, hother, hheap⟩ := V4 (P := P) (t := t) (w := w) (b := b) (o := q * ec + o) (v := a.eval yo) (by rw [hsz, hcl]) hh' (cells_one hcells) (by rw [hcl]; simp; omega)
 unfold Does
 have he : (execOp a.eval ⟨none, .store t x yo, ty, pos, af, gd⟩).run P w = .ok .skip w' := by
  simp [execOp, hu, Instr.storeAt, Instr.sureAddr, hrun]
 rw [he]
 have hbk : blk (G k) = some b := by rw [hg]; rfl
 refine ⟨G, h.write hk hbk (fun i => ⟨hbk, trivial⟩) (fun i => ⟨hbk, trivial⟩) hos htape hout (Nat.le_of_eq hsize.symm) (fun j _ => hother j) ?_⟩
 intro rd hrd
 have hul : (a.eval yo).cells.toList.length = n := by simpa using hcl
 have hl1 : (cur.toList.take (q * ec + o)).length = q * ec + o := by simp; omega
 have hl2 : (cur.toList.take (q * ec + o) ++ (a.eval yo).cells.toList).length = q * ec + o + n := by rw [List.length_append, hl1, hul]
 have hl3 : (cur.toList.take (q * ec + o) ++ (a.eval yo).cells.toList ++ cur.toList.drop (q * ec + o + (a.eval yo).cells.size)).length = cur.size := by
  rw [List.length_append, hl2, List.length_drop, hcl]; simp; omega
 refine ⟨(cur.toList.take (q * ec + o) ++ (a.eval yo).cells.toList ++ cur.toList.drop (q * ec + o + (a.eval yo).cells.size)).take (xs.length * ec), ⟨by simp only [List.length_take, hl3]; omega, .inr ⟨b, cap, _, by rw [hg], hB, hheap, hcap, hmax, by simp only [List.size_toArray]; rw [hl3, hcs], by simp⟩⟩, hlen, hlt, by rw [setTs_length (by rw [hn, htl]; exact hle)]; exact htl, ?_, ?_⟩
 ·intro i hi' hiq j hj
  have hpe : i * ec + j < xs.length * ec := by have := row_le (ec := ec) hi'; omega
  rw [List.getElem?_take_of_lt hpe]
  have hcur : vs[i * ec + j]? = cur[i * ec + j]? := by rw [← htake, List.getElem?_take_of_lt hpe]; simp
  have hsame : (cur.toList.take (q * ec + o) ++ (a.eval yo).cells.toList ++ cur.toList.drop (q * ec + o + (a.eval yo).cells.size))[i * ec + j]? = vs[i * ec + j]? := by
   rw [hcur]
   rcases Nat.lt_or_gt_of_ne hiq with h1 | h1
   ·have := row_le (ec := ec) h1
    rw [List.append_assoc, List.getElem?_append_left (by rw [hl1]; omega), List.getElem?_take_of_lt (by omega)]; simp
   ·have := row_le (ec := ec) h1
    rw [List.getElem?_append_right (by rw [hl2]; omega), hl2, List.getElem?_drop, hcl]
    have : q * ec + o + n + (i * ec + j - (q * ec + o + n)) = i * ec + j := by omega
    rw [this]; simp
  rw [hsame]
  obtain ⟨z, hz1, hz2⟩ := hc i hi' hiq j hj
  exact ⟨z, hz1, Cell.rep_mono hrd _ _ hz2⟩
 ·rw [hcl, row_set hi1 (by simpa using hi2) hul hle, htake]
  exact (All2.setTs o ha hcells).mono (fun _ _ => TC.rep_mono hrd)
theorem Sim.freezeG {S : Ctx} {G : Gh} {a : Act} {w : World} (h : Sim P S fr ob G a w) {k : Nat} {α : Type} {ec : Nat} {c : α → Nat → Cell} {xs : List α} {e : TypeId} (hk : D4 ob k = some (.grow e α ec c xs)) (hec : 0 < ec) :
  Sim P S (Fr.mapS (SV.freeze k α ec c xs) fr) (Obs.mapO (Ob.freeze k α ec c xs) (Obs.drop k ob)) G a w := by
 have hd := h.drop k
 obtain ⟨vs, hown, hlen, hc⟩ := h.obs k _ hk
 have hget : ∀ k' o, D4 (Obs.mapO (Ob.freeze k α ec c xs) (Obs.drop k ob)) k' = some o → ∃ o0, D4 (Obs.drop k ob) k' = some o0 ∧ o = o0.freeze k α ec c xs := by
  intro k' o hk'
  rw [getO_mapO] at hk'
  cases hg' : D4 (Obs.drop k ob) k' with
  | none => simp [hg'] at hk'
  | some o0 => simp [hg'] at hk'; exact ⟨o0, rfl, hk'.symm⟩
 have hownf : ∀ (u : Value) (o : Ob) (b i : Nat), Own u (o.freeze k α ec c xs) b i ↔ Own u o b i := by intro u o b i; cases o <;> simp [Own, Ob.freeze]
 have hmut : ∀ b i, Mut S (Obs.mapO (Ob.freeze k α ec c xs) (Obs.drop k ob)) G b i → Mut S (Obs.drop k ob) G b i := by
  intro b i hm
  rcases hm with hm | ⟨k', o, hk', hb⟩
  ·exact .inl hm
  ·obtain ⟨o0, h0, rfl⟩ := hget k' o hk'
   exact .inr ⟨k', o0, h0, (hownf _ _ _ _).1 hb⟩
 have hrd : ∀ b i z, F3 (Mut S (Obs.drop k ob) G) w b i z → F3 (Mut S (Obs.mapO (Ob.freeze k α ec c xs) (Obs.drop k ob)) G) w b i z := fun b i z hr => ⟨hr.1, fun hm => hr.2 (hmut b i hm)⟩
 have hrd0 : ∀ b i z, F3 (Mut S ob G) w b i z → F3 (Mut S (Obs.drop k ob) G) w b i z := by
  intro b i z hr
  refine ⟨hr.1, fun hm => hr.2 ?_⟩
  rcases hm with hm | ⟨k', o', hk', hb⟩
  ·exact .inl hm
  ·refine .inr ⟨k', o', ?_, hb⟩
   by_cases hkk : k' = k
   ·subst hkk; rw [R7] at hk'; cases hk'
   ·rwa [P9 hkk] at hk'
 have hlist : (Cell.list α ec c xs).rep (F3 (Mut S (Obs.mapO (Ob.freeze k α ec c xs) (Obs.drop k ob)) G) w) (G k) := by
  refine m6 hown hec hlen ?_ (fun i hi j hj => let ⟨z, h1, h2⟩ := hc i hi j hj; ⟨z, h1, Cell.rep_mono (fun _ _ _ hr => hrd _ _ _ (hrd0 _ _ _ hr)) _ _ h2⟩)
  intro g hg j z hj hcell
  refine ⟨hcell, fun hm => ?_⟩
  rcases hmut _ _ hm with hm | ⟨k', o', hk', hb, _⟩
  ·have := h.m0 _ _ hm
   rcases h.old k _ g hk hg with h1 | h1
   ·omega
   ·exact h.m0io _ _ hm h1.1
  ·by_cases hkk : k' = k
   ·subst hkk; rw [R7] at hk'; cases hk'
   ·rw [P9 hkk] at hk'
    exact hkk (h.dis k' k o' _ g hk' hk hb hg)
 exact { hd with
  old := fun k' o b hk' => let ⟨o0, h0, _⟩ := hget k' o hk'; hd.old k' o0 b h0
  dis := fun k1 k2 o1 o2 b h1 h2 => let ⟨oa, ha, _⟩ := hget k1 o1 h1; let ⟨ob', hb', _⟩ := hget k2 o2 h2; hd.dis k1 k2 oa ob' b ha hb'
  obs := fun k' o hk' => by
   obtain ⟨o0, h0, rfl⟩ := hget k' o hk'
   have hob := (hd.obs k' o0 h0).ext hrd (Below.refl _ _)
   cases o0 with
   | box ts => obtain ⟨b', vs', t', h1, h2, h3⟩ := hob; exact ⟨b', vs', t', h1, h2, h3.map (TC.freeze k α ec c xs) fun _ _ => TC.rep_freeze hlist⟩
   | tbx e ts => obtain ⟨b', vs', h1, h2, h3⟩ := hob; exact ⟨b', vs', h1, h2, h3.map (TC.freeze k α ec c xs) fun _ _ => TC.rep_freeze hlist⟩
   | tarr n ec' ts => obtain ⟨b', vs', t', h1, hl, h2, hn, h3⟩ := hob; exact ⟨b', vs', t', h1, hl, h2, by simpa using hn, h3.map (TC.freeze k α ec c xs) fun _ _ => TC.rep_freeze hlist⟩
   | arr => exact hob
   | spare => exact hob
   | grow => exact hob
   | map => exact hob
   | growA e' α' ec' c' xs' p ts => obtain ⟨vs, h1, h2, h3, h4, h5, h6⟩ := hob; exact ⟨vs, h1, h2, h3, by simpa using h4, h5, h6.map (TC.freeze k α ec c xs) fun _ _ => TC.rep_freeze hlist⟩
  facts := fun i s hi => by
   rw [getF_mapS] at hi
   cases hg' : D6 fr i with
   | none => simp [hg'] at hi
   | some s0 =>
    simp [hg'] at hi; subst hi
    exact SV.rep_freeze hlist (SV.rep_mono hrd (hd.facts i s0 hg')) }
theorem Sees.freezeG {k : Nat} {α : Type} {ec : Nat} {c : α → Nat → Cell} {xs : List α} {e : TypeId} (hk : D4 ob k = some (.grow e α ec c xs)) (hec : Nat.blt 0 ec = true) :
  Sees P nt fr ob (Fr.mapS (SV.freeze k α ec c xs) fr) (Obs.mapO (Ob.freeze k α ec c xs) (Obs.drop k ob)) := fun S G a w hn h => ⟨G, h.freezeG hk (by simpa using hec)⟩
end
end Go.AL
namespace Go.AL
open Go Go.RowKit
set_option linter.unusedVariables false
section
variable {P : Program} {nt : Nat} {fr : Fr} {ob : Obs}
theorem Sees.reA (k : Nat) {e : TypeId} {α : Type} {ec : Nat} {c : α → Nat → Cell} {xs : List α} {p : Nat} {ts : List TC} (xs' : List α) (hk : D4 ob k = some (.growA e α ec c xs p ts)) (hl : xs'.length = xs.length) (hx : ∀ i, i ≠ p → xs'[i]? = xs[i]?) :
  Sees P nt fr ob fr ((k, .growA e α ec c xs' p ts) :: ob) := fun S G a w hn h => by
 refine ⟨G, h.retold hk (fun b i ho => ⟨ho.1, trivial⟩) ?_⟩
 rintro rd ⟨vs, hown, hlen, hp, htl, hc, ha⟩
 refine ⟨vs, by rw [hl]; exact hown, by rw [hl]; exact hlen, by rw [hl]; exact hp, htl, fun i hi hip j hj => ?_, ha⟩
 have hi' : i < xs.length := by rw [← hl]; exact hi
 obtain ⟨z, h1, h2⟩ := hc i hi' hip j hj
 refine ⟨z, h1, ?_⟩
 have := hx i hip
 rw [List.getElem?_eq_getElem hi, List.getElem?_eq_getElem hi'] at this
 rw [Option.some.inj this]; exact h2
theorem Sees.fewer {ob' : Obs} (ho : ∀ k o, D4 ob' k = some o → D4 ob k = some o) : Sees P nt fr ob fr ob' := fun S G a w hn hs => ⟨G, hs.weakenO ho⟩
theorem Sees.recell (k : Nat) {e : TypeId} {α : Type} {ec : Nat} {c : α → Nat → Cell} {xs : List α} (c' : α → Nat → Cell) (hk : D4 ob k = some (.grow e α ec c xs)) (hc : ∀ x ∈ xs, ∀ j, j < ec → ∀ (rd : Rd) u, (c x j).rep rd u → (c' x j).rep rd u) :
  Sees P nt fr ob fr ((k, .grow e α ec c' xs) :: ob) := fun S G a w hn h => by
 refine ⟨G, h.retold hk (fun b i ho => ⟨ho.1, trivial⟩) ?_⟩
 rintro rd ⟨vs, hown, hlen, hh⟩
 refine ⟨vs, hown, hlen, fun i hi j hj => ?_⟩
 obtain ⟨z, h1, h2⟩ := hh i hi j hj
 exact ⟨z, h1, hc _ (List.getElem_mem hi) j hj _ _ h2⟩
theorem Sees.adoptBG (k : Nat) (α : Type) (ec : Nat) (c : α → Nat → Cell) (e : TypeId) {kb o : Nat} {ts : List TC} (hb : D4 ob kb = some (.box ts)) (hts : ts[o]? = some (.p (.v (.slice none 0 0)))) (hf : (I3 k fr && M7 k ob) = true) :
  Sees P nt fr ob fr ((kb, .box (ts.set o (.mut k))) :: (k, .grow e α ec c []) :: ob) := by
 simp only [Bool.and_eq_true] at hf
 obtain ⟨h1, h2⟩ := hf
 obtain ⟨h4, h5, hp⟩ := U4 h2
 intro S G a w hn h
 have h6 := h.new hp (o := .grow e α ec c []) (u := .slice none 0 0) (w1 := w) h5 (Below.refl _ _) (fun b hb => by simp [blk] at hb) ⟨[], World.ownsRow_nil w _ _ _, by simp, fun i hi => absurd hi (by simp)⟩
 rw [V5 h1, h4] at h6
 have hkb : k ≠ kb := fun he => by rw [he, hb] at h5; cases h5
 have hb' : D4 ((k, Ob.grow e α ec c []) :: ob) kb = some (.box ts) := by rw [C1 hkb]; exact hb
 obtain ⟨b, vs, t, hg, hh, ha⟩ := h6.obs kb _ hb'
 have hbk : blk (upd G k (.slice none 0 0) kb) = some b := by rw [hg]; rfl
 refine ⟨_, h6.retell hb' hbk (fun i => ⟨hbk, trivial⟩) (fun i => ⟨hbk, trivial⟩) ?_⟩
 rintro rd ⟨b', vs', t', hg', hh', ha'⟩
 refine ⟨b', vs', t', hg', hh', All2.setL o (fun z hz => ?_) ha'⟩
 obtain ⟨z', hz1, hz2⟩ := ha'.get o _ hts
 rw [hz] at hz1; cases hz1
 rw [hz2.1]
 exact ⟨(J2 _ _ _).symm, rfl⟩
theorem Sees.adoptA (k : Nat) (α : Type) (ec : Nat) (c : α → Nat → Cell) (e : TypeId) {kb o : Nat} {e' : TypeId} {β : Type} {eb : Nat} {cb : β → Nat → Cell} {xs : List β} {p : Nat} {ts : List TC} (hb : D4 ob kb = some (.growA e' β eb cb xs p ts)) (hts : ts[o]? = some (.p (.v (.slice none 0 0)))) (hf : (I3 k fr && M7 k ob) = true) :
  Sees P nt fr ob fr ((kb, .growA e' β eb cb xs p (ts.set o (.mut k))) :: (k, .grow e α ec c []) :: ob) := by
 simp only [Bool.and_eq_true] at hf
 obtain ⟨h1, h2⟩ := hf
 obtain ⟨h4, h5, hp⟩ := U4 h2
 intro S G a w hn h
 have h6 := h.new hp (o := .grow e α ec c []) (u := .slice none 0 0) (w1 := w) h5 (Below.refl _ _) (fun b hb => by simp [blk] at hb) ⟨[], World.ownsRow_nil w _ _ _, by simp, fun i hi => absurd hi (by simp)⟩
 rw [V5 h1, h4] at h6
 have hkb : k ≠ kb := fun he => by rw [he, hb] at h5; cases h5
 have hb' : D4 ((k, Ob.grow e α ec c []) :: ob) kb = some (.growA e' β eb cb xs p ts) := by rw [C1 hkb]; exact hb
 refine ⟨_, h6.retold hb' (fun b i ho => ⟨ho.1, trivial⟩) ?_⟩
 rintro rd ⟨vs, hown, hlen, hp', htl, hc, ha⟩
 refine ⟨vs, hown, hlen, hp', by simpa using htl, hc, All2.setL o (fun z hz => ?_) ha⟩
 obtain ⟨z', hz1, hz2⟩ := ha.get o _ hts
 rw [hz] at hz1; cases hz1
 rw [hz2.1]
 exact ⟨(J2 _ _ _).symm, rfl⟩
end
end Go.AL
namespace Go.AL
open Go Go.RowKit
set_option linter.unusedVariables false
section
variable {P : Program} {nt : Nat} {fr : Fr} {ob : Obs} {dst : Option Tmp} {ty : TypeId} {pos : String} {af : Array Edge} {gd : Option (Nat × Bool)}
def isPtr : Option TypeDesc → Bool
 | some (.pointer _) => true
 | _ => false
def isFn : Option TypeDesc → Bool
 | some (.func _ _ _) => true
 | _ => false
theorem run_eqlIn_ptr {t : TypeId} {w : World} (d : Nat) (ht : isPtr (P.underlying t) = true) (b : Option Addr) : (Op.equalIn (d + 1) t (.pointer b) (.pointer none)).run P w = .ok b.isNone w := by
 cases hu : P.underlying t with
 | none => rw [hu] at ht; cases ht
 | some q =>
  rw [hu] at ht
  cases q <;> simp only [isPtr, Bool.false_eq_true] at ht
  cases b <;> simp [Op.equalIn, run_underlying hu]
theorem run_equal_ptr {t : TypeId} {w : World} (ht : isPtr (P.underlying t) = true) (b : Option Addr) : (Op.equal t (.pointer b) (.pointer none)).run P w = .ok b.isNone w := run_eqlIn_ptr 9999 ht b
theorem run_eql_ptr {t : TypeId} {w : World} (ht : isPtr (P.underlying t) = true) (b : Option Addr) : (binOp .eql t (.pointer b) (.pointer none)).run P w = .ok (.bool b.isNone) w := by
 simp only [binOp, Sem.run_bind, run_equal_ptr ht b, Result.andThen_ok]; rfl
theorem n_eql_ptr0 {x : Operand} {t yt : TypeId} (hx : opv fr x = some (J9 (.pointer none))) (ht : isPtr (P.underlying t) = true) : Neu P ⟨dst, .binOp .eql t x (.const (.pointer none)) yt, ty, pos, af, gd⟩ fr ob (fun s' => s' = P4 true) :=
 E7 fun S G a w h => by
  refine ⟨.bool true, ?_, rfl, rfl⟩
  have e2 : a.eval (.const (.pointer none)) = .pointer none := rfl
  simp only [execOp, G8 h hx, e2]
  refine M6 ?_
  simp only [Sem.run_bind]
  rw [show (eqGuard .eql t x (.const (.pointer none)) (.pointer none) (.pointer none)).run P w = .ok () w from rfl]
  simp only [Result.andThen_ok]
  exact run_eql_ptr ht none
theorem n_eql_mref0 {x : Operand} {t yt : TypeId} {k ec i o : Nat} (hx : opv fr x = some (.s (.one (.mref k ec i o)))) (ht : isPtr (P.underlying t) = true) : Neu P ⟨dst, .binOp .eql t x (.const (.pointer none)) yt, ty, pos, af, gd⟩ fr ob (fun s' => s' = P4 false) :=
 E7 fun S G a w h => by
  obtain ⟨b, n, cap, hg, hu⟩ := H6 h hx
  refine ⟨.bool false, ?_, rfl, rfl⟩
  have e2 : a.eval (.const (.pointer none)) = .pointer none := rfl
  simp only [execOp, hu, e2]
  refine M6 ?_
  simp only [Sem.run_bind]
  rw [show (eqGuard .eql t x (.const (.pointer none)) (.pointer (some ⟨b, i * ec + o, none⟩)) (.pointer none)).run P w = .ok () w from rfl]
  simp only [Result.andThen_ok]
  exact run_eql_ptr ht _
theorem run_eqlIn_fn {t : TypeId} {w : World} (d : Nat) (ht : isFn (P.underlying t) = true) (v : Value) (b : Bool) (hv : (v = .nilFunc ∧ b = true) ∨ (∃ c x y, v = .func c x y) ∧ b = false) : (Op.equalIn (d + 1) t v .nilFunc).run P w = .ok b w := by
 cases hu : P.underlying t with
 | none => rw [hu] at ht; cases ht
 | some q =>
  rw [hu] at ht
  cases q <;> simp only [isFn, Bool.false_eq_true] at ht
  rcases hv with ⟨rfl, rfl⟩ | ⟨⟨c, x, y, rfl⟩, rfl⟩ <;> simp [Op.equalIn, run_underlying hu]
theorem run_equal_fn {t : TypeId} {w : World} (ht : isFn (P.underlying t) = true) (v : Value) (b : Bool) (hv : (v = .nilFunc ∧ b = true) ∨ (∃ c x y, v = .func c x y) ∧ b = false) : (Op.equal t v .nilFunc).run P w = .ok b w := run_eqlIn_fn 9999 ht v b hv
theorem run_eql_fn {t : TypeId} {w : World} (ht : isFn (P.underlying t) = true) (v : Value) (b : Bool) (hv : (v = .nilFunc ∧ b = true) ∨ (∃ c x y, v = .func c x y) ∧ b = false) : (binOp .eql t v .nilFunc).run P w = .ok (.bool b) w := by
 simp only [binOp, Sem.run_bind, run_equal_fn ht v b hv, Result.andThen_ok]; rfl
theorem n_eql_fn0 {x : Operand} {t yt : TypeId} (hx : opv fr x = some (J9 .nilFunc)) (ht : isFn (P.underlying t) = true) : Neu P ⟨dst, .binOp .eql t x (.const .nilFunc) yt, ty, pos, af, gd⟩ fr ob (fun s' => s' = P4 true) :=
 o6 hx (show opv fr (.const .nilFunc) = some (J9 .nilFunc) from rfl) (fun _ => rfl) (fun w => run_eql_fn ht _ _ (.inl ⟨rfl, rfl⟩)) rfl
theorem p6 {x : Operand} {t yt : TypeId} {c : Fn} {u v : Array Value} (hx : opv fr x = some (J9 (.func c u v))) (ht : isFn (P.underlying t) = true) : Neu P ⟨dst, .binOp .eql t x (.const .nilFunc) yt, ty, pos, af, gd⟩ fr ob (fun s' => s' = P4 false) :=
 o6 hx (show opv fr (.const .nilFunc) = some (J9 .nilFunc) from rfl) (fun _ => rfl) (fun w => run_eql_fn ht _ _ (.inr ⟨⟨_, _, _, rfl⟩, rfl⟩)) rfl
end
end Go.AL
namespace Go.AL
open Go Go.RowKit
set_option linter.unusedVariables false
section
variable {P : Program} {fr : Fr} {ob : Obs}
end
end Go.AL
namespace Go.AL
open Go Go.RowKit
set_option linter.unusedVariables false
section
variable {P : Program} {nt : Nat} {fr : Fr} {ob : Obs} {dst : Option Tmp} {ty : TypeId} {pos : String} {af : Array Edge} {gd : Option (Nat × Bool)}
end
end Go.AL
namespace Go.AL
open Go Go.RowKit
set_option linter.unusedVariables false
def TC.refs : TC → List Nat
 | .buf k _ _ _ _ => [k]
 | .ref k _ => [k]
 | .mut k => [k]
 | .mref k _ _ _ => [k]
 | .msl k _ _ _ => [k]
 | .clo _ nf nc => nf.map (·.1) ++ nc.map (·.1)
 | _ => []
def S1.refs : S1 → List Nat
 | .one t => t.refs
 | .agg ts => ts.flatMap TC.refs
def SV.refs : SV → List Nat
 | .s x => x.refs
 | .tup l => l.flatMap S1.refs
 | _ => []
def Ob.refs : Ob → List Nat
 | .box ts => ts.flatMap TC.refs
 | .tbx _ ts => ts.flatMap TC.refs
 | .tarr _ _ ts => ts.flatMap TC.refs
 | .growA _ _ _ _ _ _ ts => ts.flatMap TC.refs
 | _ => []
theorem refAt_congr {G G' : Gh} : ∀ {l : List (Nat × Nat)} {us : List Value}, (∀ k ∈ l.map (·.1), G' k = G k) → All2 (RefAt G) l us → All2 (RefAt G') l us
 | [], [], _, _ => trivial
 | [], _ :: _, _, h => h.elim
 | _ :: _, [], _, h => h.elim
 | p :: l, u :: us, hk, h => by
  obtain ⟨⟨b, h1, h2⟩, h3⟩ := h
  exact ⟨⟨b, by rw [hk p.1 (by simp)]; exact h1, h2⟩, refAt_congr (fun k hm => hk k (by simp at hm ⊢; exact .inr hm)) h3⟩
theorem TC.rep_congr {rd : Rd} {G G' : Gh} : ∀ {t : TC} {u : Value}, (∀ k ∈ t.refs, G' k = G k) → t.rep rd G u → t.rep rd G' u
 | .p _, _, _, h => h
 | .eref _ _ _ _ _, _, _, h => h
 | .any, _, _, h => h
 | .full _ _ _ _, _, _, h => h
 | .buf k _ _ _ _, _, hk, h => ⟨by rw [hk k (by simp [TC.refs])]; exact h.1, h.2⟩
 | .ref k _, _, hk, h => by simp only [TC.rep]; rw [hk k (by simp [TC.refs])]; exact h
 | .mut k, _, hk, h => by simp only [TC.rep]; rw [hk k (by simp [TC.refs])]; exact h
 | .mref k _ _ _, _, hk, h => by simp only [TC.rep]; rw [hk k (by simp [TC.refs])]; exact h
 | .msl k _ _ _, _, hk, h => by simp only [TC.rep]; rw [hk k (by simp [TC.refs])]; exact h
 | .clo _ nf nc, _, hk, ⟨vs, ws, h1, h2, h3⟩ => ⟨vs, ws, h1, refAt_congr (fun k hm => hk k (by simp only [TC.refs, List.mem_append]; exact .inl hm)) h2, refAt_congr (fun k hm => hk k (by simp only [TC.refs, List.mem_append]; exact .inr hm)) h3⟩
theorem p7 {rd : Rd} {G G' : Gh} : ∀ {ts : List TC} {vs : List Value}, (∀ k ∈ ts.flatMap TC.refs, G' k = G k) → All2 (TC.rep rd G) ts vs → All2 (TC.rep rd G') ts vs
 | [], [], _, _ => trivial
 | [], _ :: _, _, h => h.elim
 | _ :: _, [], _, h => h.elim
 | t :: ts, v :: vs, hs, h => ⟨TC.rep_congr (fun k hm => hs k (by rw [List.flatMap_cons]; exact List.mem_append.2 (.inl hm))) h.1, p7 (fun k hm => hs k (by rw [List.flatMap_cons]; exact List.mem_append.2 (.inr hm))) h.2⟩
theorem S1.rep_congr {rd : Rd} {G G' : Gh} : ∀ {t : S1} {u : Value}, (∀ k ∈ t.refs, G' k = G k) → t.rep rd G u → t.rep rd G' u
 | .one t, u, hs, h => TC.rep_congr (t := t) hs h
 | .agg ts, u, hs, ⟨vs, h1, h2⟩ => ⟨vs, h1, p7 hs h2⟩
theorem all2_congr1 {rd : Rd} {G G' : Gh} : ∀ {ts : List S1} {vs : List Value}, (∀ k ∈ ts.flatMap S1.refs, G' k = G k) → All2 (S1.rep rd G) ts vs → All2 (S1.rep rd G') ts vs
 | [], [], _, _ => trivial
 | [], _ :: _, _, h => h.elim
 | _ :: _, [], _, h => h.elim
 | t :: ts, v :: vs, hs, h => ⟨S1.rep_congr (fun k hm => hs k (by rw [List.flatMap_cons]; exact List.mem_append.2 (.inl hm))) h.1, all2_congr1 (fun k hm => hs k (by rw [List.flatMap_cons]; exact List.mem_append.2 (.inr hm))) h.2⟩
theorem SV.rep_congr {rd : Rd} {G G' : Gh} : ∀ {t : SV} {u : Value}, (∀ k ∈ t.refs, G' k = G k) → t.rep rd G u → t.rep rd G' u
 | .s t, u, hs, h => S1.rep_congr (t := t) hs h
 | .tup ts, u, hs, ⟨vs, h1, h2⟩ => ⟨vs, h1, all2_congr1 hs h2⟩
 | .any, _, _, _ => trivial
 | .un, _, _, h => h
theorem ObOk.congr {S : Ctx} {rd : Rd} {G G' : Gh} {w : World} {u : Value} {o : Ob} (hs : ∀ k ∈ o.refs, G' k = G k) (h : ObOk S rd G w u o) : ObOk S rd G' w u o := by
 cases o with
 | box ts => obtain ⟨b, vs, t, h1, h2, h3⟩ := h; exact ⟨b, vs, t, h1, h2, p7 hs h3⟩
 | tbx e ts => obtain ⟨b, vs, h1, h2, h3⟩ := h; exact ⟨b, vs, h1, h2, p7 hs h3⟩
 | tarr n ec ts => obtain ⟨b, vs, t, h1, h2, h3, h4, h5⟩ := h; exact ⟨b, vs, t, h1, h2, h3, h4, p7 hs h5⟩
 | growA e α ec c xs p ts => obtain ⟨vs, h1, h2, h3, h4, h5, h6⟩ := h; exact ⟨vs, h1, h2, h3, h4, h5, p7 hs h6⟩
 | arr α ec c xs => exact h
 | map κ kf kvs => exact h
 | spare n ec e => exact h
 | grow e α ec c xs => exact h
theorem ownsRow_low {w : World} {B B' : Nat} {e : TypeId} {ec n : Nat} {v : Value} {xs : List Value} (hB : B ≤ B') (h : w.ownsRow B' e ec v n xs) : w.ownsRow B e ec v n xs :=
 ⟨h.1, h.2.imp id fun ⟨b, cap, cur, hg, hb, r⟩ => ⟨b, cap, cur, hg, Nat.le_trans hB hb, r⟩⟩
theorem ObOk.low {S S' : Ctx} {rd : Rd} {G : Gh} {w : World} {u : Value} {o : Ob} (hB : S.B ≤ S'.B) (h : ObOk S' rd G w u o) : ObOk S rd G w u o := by
 cases o with
 | box ts => exact h
 | tbx e ts => exact h
 | tarr n ec ts => exact h
 | arr α ec c xs => exact h
 | map κ kf kvs => exact h
 | spare n ec e => obtain ⟨vs, h1⟩ := h; exact ⟨vs, ownsRow_low hB h1⟩
 | grow e α ec c xs => obtain ⟨vs, h1, h2⟩ := h; exact ⟨vs, ownsRow_low hB h1, h2⟩
 | growA e α ec c xs p ts => obtain ⟨vs, h1, h2⟩ := h; exact ⟨vs, ownsRow_low hB h1, h2⟩
section
variable {P : Program} {nt : Nat} {ops : Array Oper} {rest : List Oper} {fr : Fr} {ob : Obs} {Q : Post} {d : Nat}
end
end Go.AL
namespace Go.AL
open Go Go.RowKit
set_option linter.unusedVariables false
section
variable {P : Program} {dst : Option Tmp} {ty : TypeId} {pos : String} {af : Array Edge} {gd : Option (Nat × Bool)} {fr : Fr} {ob : Obs}
end
end Go.AL
