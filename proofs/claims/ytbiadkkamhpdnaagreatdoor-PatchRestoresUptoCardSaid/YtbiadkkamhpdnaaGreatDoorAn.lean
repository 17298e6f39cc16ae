/- The abstract logic, its third part. No project text. -/
import Derived.Test.YtbiadkkamhpdnaaGreatDoorAm
import Derived.Laws.StructEq
import Derived.Laws.Cover3
import Derived.MapKept
set_option linter.unusedSimpArgs false
attribute [local semireducible] Go.AL.Neu Go.AL.Eff Go.AL.EffV Go.AL.WpL Go.AL.WpC Go.AL.FnOk Go.AL.LexD Go.AL.Sees Go.AL.RetOk Go.AL.FnIo Go.AL.Met Go.AL.RetS
namespace Go.AL
open Go Go.RowKit
set_option linter.unusedVariables false
section
variable {P : Program} {nt : Nat} {ops : Array Oper}
def EffU (P : Program) (o : Oper) (U : Fr) (ob ob' : Obs) : Prop :=
  ∀ S G a w, Sim P S U ob G a w → Does P o a w (fun _ w' => ∃ G', ∀ fr, Sim P S fr ob G a w → Sim P S fr ob' G' a w')
theorem u_store_ref {t : TypeId} {x y : Operand} {k o n : Nat} {ts : List TC} {s : S1} {fr : Fr} {ob : Obs} {ty : TypeId} {pos : String} {af : Array Edge} {gd : Option (Nat × Bool)} (hsz : (P.info? t).map (·.size) = some n) (hx : opv fr x = some (.s (.one (.ref k o)))) (hk : getO ob k = some (.box ts)) (hy : opv fr y = some (.s s)) (hc : constOk y = true)
    (hn : s.cells.length = n) (hfit : Nat.ble (o + n) ts.length = true) : EffU P ⟨none, .store t x y, ty, pos, af, gd⟩ fr ob ((k, .box (setTs ts o s.cells)) :: ob) := by
  intro S G a w h
  obtain ⟨b, hg, hu⟩ := opv_one h hx
  obtain ⟨b', vs, tt, hg', hh, ha⟩ := h.box hk
  rw [hg] at hg'; cases hg'
  have hr : (SV.s s).rep (rdOf (Mut S ob G) w) G (a.eval y) := opv_rep h hy hc
  have hcells := S1.rep_cells hr
  have hlen : (a.eval y).cells.size = n := by rw [← hn, hcells.length]; simp
  have hle : o + n ≤ ts.length := by simpa using hfit
  have hone : ∀ u ∈ (a.eval y).cells.toList, u.oneCell' = true := by
    intro u hu
    have : ∀ (ts : List TC) (vs : List Value), All2 (TC.rep (rdOf (Mut S ob G) w) G) ts vs → ∀ u ∈ vs, u.oneCell' = true := by
      intro ts
      induction ts with
      | nil => intro vs h u hu; cases vs with | nil => cases hu | cons => exact h.elim
      | cons t ts ih =>
        intro vs h u hu
        cases vs with
        | nil => exact h.elim
        | cons v vs =>
          rcases List.mem_cons.1 hu with rfl | hu
          · exact TC.rep_one h.1
          · exact ih vs h.2 u hu
    exact this _ _ hcells u hu
  obtain ⟨w', hrun, hos, htape, hout, hsize, hother, hheap⟩ := run_storeVar (P := P) (t := t) (w := w) (b := b) (o := o) (v := a.eval y) (by rw [hsz, hlen]) hh hone (by rw [hlen, ← ha.length]; exact hle)
  unfold Does
  have he : (execOp a.eval ⟨none, .store t x y, ty, pos, af, gd⟩).run P w = .ok .skip w' := by
    simp [execOp, hu, Instr.storeAt, Instr.sureAddr, hrun]
  rw [he]
  have hbk : blk (G k) = some b := by rw [hg]; rfl
  refine ⟨G, fun fr2 h2 => h2.write hk hbk (fun i => ⟨hbk, trivial⟩) (fun i => ⟨hbk, trivial⟩) hos htape hout (Nat.le_of_eq hsize.symm) (fun j _ => hother j) ?_⟩
  intro rd hrd
  refine ⟨b, _, tt, hg, hheap, ?_⟩
  have hd : vs.drop (o + (a.eval y).cells.size) = vs.drop (o + s.cells.length) := by rw [hlen, hn]
  unfold setTs
  rw [hd]
  exact (((ha.take o).append hcells).append (ha.drop _)).mono fun _ _ => TC.rep_mono hrd
def Told (U : Fr) (φ : Fa) : Prop := ∀ t s, getF U t = some s → φ t = some s
theorem told_unput {U : Fr} {φ : Fa} {d : Nat} {s : SV} (hd : getF U d = none) (h : Told U (putF φ d s)) : Told U φ := fun t s' ht => by
  have h1 := h t s' ht
  unfold putF at h1
  by_cases he : t = d
  · subst he; rw [hd] at ht; cases ht
  · rwa [if_neg he] at h1
theorem effU_step {o : Oper} {U : Fr} {ob ob' : Obs} {φ : Fa} (h : EffU P o U ob ob') (hg : o.guard = none) (hd : o.dst = none) (hφ : Told U φ) : StepE P nt ops o φ ob (fun φ' ob'' => φ' = φ ∧ ob'' = ob') := by
  refine ⟨hg, fun S G a w hn hs => does_imp (h S G a w (hs.sub hφ)) ?_⟩
  rintro v w' ⟨G', hG⟩
  refine ⟨φ, ob', G', ⟨rfl, rfl⟩, ?_⟩
  rw [hd]
  refine ⟨hG [] hs.1, fun i s hi => ?_⟩
  have h1 : Sim P S [(i, s)] ob G a w := hs.sub fun j t hj => by
    by_cases he : i = j
    · subst he; rw [getF_cons_same] at hj; cases hj; exact hi
    · rw [getF_cons_other he] at hj; simp [getF] at hj
  exact (hG _ h1).facts i s (by rw [getF_cons_same])
def AnyC (P : Program) (nt : Nat) (ops : Array Oper) (T : Nat) (U : Fr) (ob ob' : Obs) (E : Array Bool → Fa → Prop) : Nat → Array Bool → Fa → Prop
  | 0, listed, φ => (T ∈ Region.ready .any ops listed → Told U φ) ∧ T ∈ Region.ready .any ops listed ∧ (∀ j ∈ Region.ready .any ops listed, j = T) ∧ E listed φ
  | fuel + 1, listed, φ => (T ∈ Region.ready .any ops listed → Told U φ) ∧ (∃ p, p < T ∧ p ∈ Region.ready .any ops listed) ∧ ∀ i ∈ Region.ready .any ops listed, i ≠ T →
      ∃ o s d, ops[i]? = some o ∧ o.dst = some d ∧ turns o.op = false ∧ YieldsN P nt ops o φ ob s ∧ YieldsN P nt ops o φ ob' s ∧ AnyC P nt ops T U ob ob' E fuel (listed.setIfInBounds i true) (putF φ d s)
theorem AnyC.told {T : Nat} {U : Fr} {ob ob' : Obs} {E : Array Bool → Fa → Prop} {fuel : Nat} {listed : Array Bool} {φ : Fa} (h : AnyC P nt ops T U ob ob' E fuel listed φ) : T ∈ Region.ready .any ops listed → Told U φ := by
  cases fuel <;> exact h.1
theorem anyC_first {T : Nat} {U : Fr} {ob ob' : Obs} {E : Array Bool → Fa → Prop} {i d : Nat} {oi oT : Oper} {s : SV} (hi : ops[i]? = some oi) (hoT : ops[T]? = some oT) (hti : turns oi.op = false) (hdi : oi.dst = some d) (hiT : i < T)
    (hU : Bef ops T i = true ∨ getF U d = none) :
    ∀ (fuel : Nat) (listed : Array Bool) (φ : Fa), Closed ops listed →
      (∀ j oj, ops[j]? = some oj → j ≠ i → j ≠ T → listed.getD j true = false → Bef ops j i = true ∨ (turns oj.op = false ∧ apartB ops oi oj = true)) →
      i ∈ Region.ready .any ops listed → YieldsN P nt ops oi φ ob s → YieldsN P nt ops oi φ ob' s →
      AnyC P nt ops T U ob ob' E fuel (listed.setIfInBounds i true) (putF φ d s) → AnyC P nt ops T U ob ob' E (fuel + 1) listed φ := by
  have hto : ∀ (fuel : Nat) (listed : Array Bool) (φ : Fa), Closed ops listed → i ∈ Region.ready .any ops listed → AnyC P nt ops T U ob ob' E fuel (listed.setIfInBounds i true) (putF φ d s) → T ∈ Region.ready .any ops listed → Told U φ := by
    intro fuel listed φ hc hr H hT
    rcases hU with hb | hn
    · obtain ⟨hTun, oj, hoj, hall⟩ := mem_ready.1 hT
      have := bef_listed hc T hb (fun o ho e he hbd => by rw [hoj] at ho; cases ho; exact hall e (Array.mem_toList_iff.1 he) hbd)
      have hiun := ready_unlisted hr
      rw [hiun] at this; cases this
    · exact told_unput hn (H.told (ready_mono hT (by omega)))
  intro fuel
  induction fuel with
  | zero =>
    intro listed φ hc hN hr hy hy2 H
    refine ⟨hto 0 listed φ hc hr H, ⟨i, hiT, hr⟩, fun j hj hjT => ?_⟩
    by_cases hji : j = i
    · subst hji; exact ⟨oi, s, d, hi, hdi, hti, hy, hy2, H⟩
    · exact absurd (H.2.2.1 j (ready_mono hj hji)) hjT
  | succ fuel ih =>
    intro listed φ hc hN hr hy hy2 H
    refine ⟨hto (fuel + 1) listed φ hc hr H, ⟨i, hiT, hr⟩, fun j hj hjT => ?_⟩
    by_cases hji : j = i
    · subst hji; exact ⟨oi, s, d, hi, hdi, hti, hy, hy2, H⟩
    · obtain ⟨hjun, oj, hoj, hall⟩ := mem_ready.1 hj
      have hiun := ready_unlisted hr
      obtain ⟨htj, hap⟩ : turns oj.op = false ∧ apartB ops oi oj = true := by
        rcases hN j oj hoj hji hjT hjun with hb | h
        · have := bef_listed hc j hb (fun o ho e he hbd => by rw [hoj] at ho; cases ho; exact hall e (Array.mem_toList_iff.1 he) hbd)
          rw [hiun] at this; cases this
        · exact h
      obtain ⟨o', sj, dj, ho', hdj, _, hyj, hyj2, HK⟩ := H.2.2 j (ready_mono hj hji) hjT
      rw [hoj] at ho'; cases ho'
      simp only [apartB, hdi, hdj, Bool.and_eq_true, Bool.not_eq_true', List.contains_eq_mem, decide_eq_false_iff_not] at hap
      obtain ⟨⟨h1, h2⟩, h3⟩ := hap
      have h3 : d ≠ dj := fun e => by subst e; simp at h3
      refine ⟨oj, sj, dj, hoj, hdj, htj, hyj.unput h1, hyj2.unput h1, ?_⟩
      refine ih (listed.setIfInBounds j true) _ (closed_set hc hj) ?_ (ready_mono hr (Ne.symm hji)) (hy.put h2) (hy2.put h2) ?_
      · intro m om hm hmi hmT hun
        refine hN m om hm hmi hmT ?_
        by_cases hjm : j = m
        · subst hjm; exact hjun
        · rwa [getD_set_ne true hjm] at hun
      · rw [Array.setIfInBounds_comm _ _ hji, ← putF_comm h3]
        exact HK
theorem anyC_after {T : Nat} {U : Fr} {ob ob' : Obs} {E : Array Bool → Fa → Prop} {K : Fa → Obs → Prop} {fuel2 : Nat}
    (hpost : ∀ j oj, ops[j]? = some oj → (∃ e ∈ oj.after.toList, Region.binds .any e = true ∧ e.on = T) → ∀ p, p < T → Bef ops j p = true)
    (hE : ∀ listed φ, Closed ops (listed.setIfInBounds T true) → (listed.setIfInBounds T true).getD T false = true → E listed φ → AnyT P nt ops T K fuel2 (listed.setIfInBounds T true) φ ob') :
    ∀ (fuel : Nat) (listed : Array Bool) (φ : Fa), Closed ops listed → T ∈ Region.ready .any ops listed → AnyC P nt ops T U ob ob' E fuel listed φ →
      AnyT P nt ops T K (fuel2 + fuel) (listed.setIfInBounds T true) φ ob'
  | 0, listed, φ, hc, hT, h => by
    have hTl : (listed.setIfInBounds T true).getD T false = true := by
      have := (mem_ready.1 hT).1
      have hlt : T < listed.size := by
        rcases Nat.lt_or_ge T listed.size with h' | h'
        · exact h'
        · simp only [Array.getD_eq_getD_getElem?] at this
          rw [Array.getElem?_eq_none h'] at this; simp at this
      simp [Array.getD_eq_getD_getElem?, hlt]
    exact hE _ φ (closed_set hc hT) hTl h.2.2.2
  | fuel + 1, listed, φ, hc, hT, h => by
    obtain ⟨p, hp, hpr⟩ := h.2.1
    have hc2 := closed_set hc hT
    have hpT : p ≠ T := by omega
    refine ⟨fun he => (by have := ready_mono hpr hpT; rw [he] at this; cases this), fun i hi => ?_⟩
    have hiT : i ≠ T := fun e => by
      subst e
      have := ready_unlisted hi
      have hlt : i < listed.size := by
        have := (mem_ready.1 hT).1
        rcases Nat.lt_or_ge i listed.size with h' | h'
        · exact h'
        · simp only [Array.getD_eq_getD_getElem?] at this
          rw [Array.getElem?_eq_none h'] at this; simp at this
      simp [Array.getD_eq_getD_getElem?, hlt] at this
    have hir : i ∈ Region.ready .any ops listed := by
      obtain ⟨hiun, oi, hoi, hall⟩ := mem_ready.1 hi
      refine mem_ready.2 ⟨by rwa [getD_set_ne true (Ne.symm hiT)] at hiun, oi, hoi, fun e he hb => ?_⟩
      have h1 := hall e he hb
      by_cases heT : e.on = T
      · exfalso
        have hb2 := hpost i oi hoi ⟨e, Array.mem_toList_iff.2 he, hb, heT⟩ p hp
        have := bef_listed hc2 i hb2 (fun o ho e he hbd => by rw [hoi] at ho; cases ho; exact hall e (Array.mem_toList_iff.1 he) hbd)
        have hpu := ready_unlisted (ready_mono hpr hpT)
        rw [hpu] at this; cases this
      · simp only [Array.getD_eq_getD_getElem?] at h1 ⊢
        rwa [Array.getElem?_setIfInBounds_ne (Ne.symm heT)] at h1
    obtain ⟨o, s, d, ho, hd, ht, _, hy2, HK⟩ := h.2.2 i hir hiT
    refine ⟨o, ho, ?_⟩
    have htn : tn T i o = false := by unfold tn; rw [beq_no hiT, ht]; rfl
    rw [htn]
    refine ⟨s, d, hd, hy2, ?_⟩
    rw [Array.setIfInBounds_comm _ _ (Ne.symm hiT)]
    exact anyC_after hpost hE fuel _ _ (closed_set hc hir) (ready_mono hT (Ne.symm hiT)) HK
theorem anyC_before {T : Nat} {U : Fr} {ob ob' : Obs} {E : Array Bool → Fa → Prop} {K : Fa → Obs → Prop} {fuel2 : Nat} {oT : Oper} (hoT : ops[T]? = some oT) (hA : EffU P oT U ob ob') (hg : oT.guard = none) (hd : oT.dst = none)
    (hpost : ∀ j oj, ops[j]? = some oj → (∃ e ∈ oj.after.toList, Region.binds .any e = true ∧ e.on = T) → ∀ p, p < T → Bef ops j p = true)
    (hE : ∀ listed φ, Closed ops (listed.setIfInBounds T true) → (listed.setIfInBounds T true).getD T false = true → E listed φ → AnyT P nt ops T K fuel2 (listed.setIfInBounds T true) φ ob') :
    ∀ (fuel : Nat) (listed : Array Bool) (φ : Fa), Closed ops listed → AnyC P nt ops T U ob ob' E fuel listed φ → AnyT P nt ops T K (fuel2 + fuel + 1) listed φ ob := by
  have hTn : tn T T oT = true := by unfold tn; rw [Nat.beq_refl]; rfl
  have hstep : ∀ (fuel : Nat) (listed : Array Bool) (φ : Fa), Closed ops listed → T ∈ Region.ready .any ops listed → AnyC P nt ops T U ob ob' E fuel listed φ → StepT P nt ops T T φ ob (AnyT P nt ops T K (fuel2 + fuel) (listed.setIfInBounds T true)) := by
    intro fuel listed φ hc hT h
    refine ⟨oT, hoT, ?_⟩
    rw [hTn]
    have h1 : StepE P nt ops oT φ ob (fun φ' ob'' => φ' = φ ∧ ob'' = ob') := effU_step hA hg hd (h.told hT)
    refine ⟨h1.1, fun S G a w hn hs => does_imp (h1.2 S G a w hn hs) ?_⟩
    rintro v w' ⟨φ', ob', G', ⟨rfl, rfl⟩, hs'⟩
    exact ⟨_, _, G', anyC_after hpost hE fuel listed _ hc hT h, hs'⟩
  intro fuel
  induction fuel with
  | zero =>
    intro listed φ hc h
    refine ⟨fun he => (by have := h.2.1; rw [he] at this; cases this), fun i hi => ?_⟩
    have hiT := h.2.2.1 i hi
    subst hiT
    exact hstep 0 listed φ hc hi h
  | succ fuel ih =>
    intro listed φ hc h
    obtain ⟨p, hp, hpr⟩ := h.2.1
    refine ⟨fun he => (by rw [he] at hpr; cases hpr), fun i hi => ?_⟩
    by_cases hiT : i = T
    · subst hiT; exact hstep (fuel + 1) listed φ hc hi h
    · obtain ⟨o, s, d, ho, hd, ht, hy, _, HK⟩ := h.2.2 i hi hiT
      refine ⟨o, ho, ?_⟩
      have htn : tn T i o = false := by unfold tn; rw [beq_no hiT, ht]; rfl
      rw [htn]
      exact ⟨s, d, hd, hy, ih _ _ (closed_set hc hi) HK⟩
def LexC (P : Program) (nt : Nat) (ops : Array Oper) (U : Fr) (ob ob' : Obs) (E : Fr → Prop) : List Oper → Fr → Prop
  | [], fr => FrIn fr U ∧ E fr
  | o :: l, fr => ∃ s d, o.dst = some d ∧ YieldsN P nt ops o (getF fr) ob s ∧ YieldsN P nt ops o (getF fr) ob' s ∧ LexC P nt ops U ob ob' E l ((d, s) :: fr)
def lexOkC (ops : Array Oper) (T : Nat) (ks : List Nat) : Nat → Nat → Array Bool → Bool
  | 0, _, listed => (Region.ready .any ops listed).contains T && (Region.ready .any ops listed).all fun j => Nat.beq j T
  | fuel + 1, k, listed =>
    (match ops[k]? with
     | some o => (Region.ready .any ops listed).contains k && !(turns o.op) && Nat.blt k T && (Bef ops T k || match o.dst with | some d => !(ks.contains d) | none => false) &&
        ((List.range ops.size).all fun j => Nat.beq j k || Nat.beq j T || listed.getD j true || match ops[j]? with
          | some oj => Bef ops j k || (!(turns oj.op) && apartB ops o oj)
          | none => true)
     | none => false) && lexOkC ops T ks fuel (k + 1) (listed.setIfInBounds k true)
theorem getF_keys {U : Fr} {d : Nat} (h : (U.map (·.1)).contains d = false) : getF U d = none := by
  induction U with
  | nil => rfl
  | cons x r ih =>
    obtain ⟨i, s⟩ := x
    simp only [List.map_cons, List.contains_cons, Bool.or_eq_false_iff] at h
    have hne : i ≠ d := fun e => by subst e; simp at h
    rw [getF_cons_other hne]
    exact ih h.2
theorem anyC_lex {T : Nat} {U : Fr} {ob ob' : Obs} {E : Fr → Prop} {L : Array Bool} {oT : Oper} (hoT : ops[T]? = some oT) : ∀ (l : List Oper) (k : Nat) (listed : Array Bool) (fr : Fr), (∀ j, j < l.length → l[j]? = ops[k + j]?) → Closed ops listed → lexOkC ops T (U.map (·.1)) l.length k listed = true → listN l.length k listed = L →
    LexC P nt ops U ob ob' E l fr → AnyC P nt ops T U ob ob' (fun L' φ => L' = L ∧ ∃ fr', φ = getF fr' ∧ E fr') l.length listed (getF fr)
  | [], k, listed, fr, hl, hc, hB, hL, h => by
    simp only [List.length_nil, lexOkC, Bool.and_eq_true] at hB
    exact ⟨fun _ t s ht => FrIn.spec h.1 t s ht, by simpa using hB.1, fun j hj => Nat.eq_of_beq_eq_true (List.all_eq_true.1 hB.2 j hj), hL, fr, rfl, h.2⟩
  | o :: l, k, listed, fr, hl, hc, hB, hL, h => by
    have h0 : ops[k]? = some o := by simpa using (hl 0 (by simp)).symm
    simp only [List.length_cons, lexOkC, h0, Bool.and_eq_true, Bool.not_eq_true'] at hB
    obtain ⟨⟨⟨⟨⟨hr, hnt⟩, hkT⟩, hbu⟩, hf⟩, hB'⟩ := hB
    have hr' : k ∈ Region.ready .any ops listed := by simpa using hr
    have hl' : ∀ j, j < l.length → l[j]? = ops[k + 1 + j]? := fun j hj => by have := hl (j + 1) (by simpa using hj); simpa [Nat.add_assoc, Nat.add_comm 1 j] using this
    obtain ⟨s, d, hd, hy, hy2, hL2⟩ := h
    have hU : Bef ops T k = true ∨ getF U d = none := by
      rw [hd] at hbu
      rcases Bool.or_eq_true _ _ ▸ hbu with hb | hb
      · exact .inl hb
      · exact .inr (getF_keys (by simpa using hb))
    refine anyC_first h0 hoT hnt hd (by simpa using hkT) hU l.length listed _ hc ?_ hr' hy hy2 ?_
    · intro j oj hoj hjk hjT hun
      have hlt : j < ops.size := (Array.getElem?_eq_some_iff.1 hoj).1
      have := List.all_eq_true.1 hf j (List.mem_range.2 hlt)
      rw [beq_no hjk, beq_no hjT, hun, hoj] at this
      simp only [Bool.false_or, Bool.or_eq_true, Bool.and_eq_true, Bool.not_eq_true'] at this
      exact this
    · rw [← getF_cons_putF]
      exact anyC_lex hoT l (k + 1) _ _ hl' (closed_set hc hr') hB' hL hL2
def storeOk (nt : Nat) (l : List Oper) (n : Nat) (ks : List Nat) : Bool :=
  let ops := l.toArray
  let L0 := Array.replicate l.length false
  let L := listN n 0 L0
  lexOkC ops n ks n 0 L0 && dstsIn nt ops && Nat.ble (n + 1) l.length && Nat.beq (l.take n).length n &&
    ((List.range ops.size).all fun j => match ops[j]? with | some oj => !(oj.after.toList.any fun e => Region.binds .any e && Nat.beq e.on n) || (List.range n).all fun p => Bef ops j p | none => true) &&
    lexOk ops (l.drop (n + 1)).length (n + 1) (L.setIfInBounds n true)
theorem c_region_store {id : Nat} {l : List Oper} (n : Nat) {oT : Oper} (U : Fr) {fr : Fr} {ob ob' : Obs} {Q : Post} (hm : P.follows .mixedOrders = true) (hB : storeOk nt l n (U.map (·.1)) = true) (hc : l[n]? = some oT) (hA : EffU P oT U ob ob') (hg : oT.guard = none) (hdT : oT.dst = none)
    (h : LexC P nt l.toArray U ob ob' (fun fr => LexD P nt l.toArray (fun fr ob => Q .normal fr ob) (l.drop (n + 1)) fr ob') (l.take n) fr) : WpC P nt (.region id l.toArray true) fr ob Q := by
  intro S G a w hn hs
  unfold storeOk at hB
  simp only [Bool.and_eq_true] at hB
  obtain ⟨⟨⟨⟨⟨b1, b2⟩, b3⟩, b4⟩, b6⟩, b8⟩ := hB
  have hlen : n + 1 ≤ l.length := Nat.le_of_ble_eq_true b3
  have htl : (l.take n).length = n := Nat.eq_of_beq_eq_true b4
  have hdst : ∀ (j t : Nat), (l.toArray[j]?).bind (fun o => o.dst) = some t → t < nt := by
    intro j t ht
    cases ho : l.toArray[j]? with
    | none => simp [ho] at ht
    | some o =>
      simp [ho] at ht
      have hmem : o ∈ l := by
        rw [List.getElem?_toArray] at ho
        exact List.mem_of_getElem? ho
      have := List.all_eq_true.1 b2 o (by simpa using hmem)
      rw [ht] at this
      simpa using this
  refine wp_region_any hm ?_
  have hcl : Closed l.toArray (Array.replicate l.length false) := by
    intro j o ho hl
    simp only [Array.getD_eq_getD_getElem?] at hl
    rcases Nat.lt_or_ge j l.length with h' | h'
    · simp [h'] at hl
    · simp [h'] at hl
  have hoc : l.toArray[n]? = some oT := by rw [List.getElem?_toArray]; exact hc
  have hpost : ∀ j oj, l.toArray[j]? = some oj → (∃ e ∈ oj.after.toList, Region.binds .any e = true ∧ e.on = n) → ∀ p, p < n → Bef l.toArray j p = true := by
    rintro j oj hoj ⟨e, he, hb, hon⟩ p hp
    have hlt : j < l.toArray.size := (Array.getElem?_eq_some_iff.1 hoj).1
    have h1 := List.all_eq_true.1 b6 j (List.mem_range.2 hlt)
    rw [hoj] at h1
    have h1 : ((!(oj.after.toList.any fun e => Region.binds .any e && Nat.beq e.on n)) || (List.range n).all fun p => Bef l.toArray j p) = true := h1
    have h2 : (oj.after.toList.any fun e => Region.binds .any e && Nat.beq e.on n) = true := List.any_eq_true.2 ⟨e, he, by rw [hb, hon, Nat.beq_refl]; rfl⟩
    rw [h2] at h1
    simp only [Bool.not_true, Bool.false_or] at h1
    exact List.all_eq_true.1 h1 p (List.mem_range.2 hp)
  have key : AnyT P nt l.toArray n (fun φ ob => ∃ fr', φ = getF fr' ∧ Q .normal fr' ob) ((l.drop (n + 1)).length + (l.take n).length + 1) (Array.replicate l.length false) (getF fr) ob := by
    refine anyC_before hoc hA hg hdT hpost ?_ (l.take n).length _ _ hcl (anyC_lex hoc (L := listN n 0 (Array.replicate l.length false)) (l.take n) 0 _ fr (fun j hj => ?_) hcl (by rw [htl]; exact b1) (by rw [htl]) h)
    · rintro listed φ hcl2 hTl ⟨rfl, fr', rfl, hL⟩
      exact anyT_of _ _ _ _ hTl (anyD_lex (l.drop (n + 1)) (n + 1) _ _ _ (fun i => by rw [List.getElem?_drop, List.getElem?_toArray]) hcl2 b8 hL)
    · rw [Nat.zero_add, List.getElem?_toArray, List.getElem?_take_of_lt (by rw [htl] at hj; exact hj)]
  have hx : Below w.heap.size w { w with drawn := w.drawn + 1 } := ⟨rfl, rfl, rfl, Nat.le_refl _, fun _ _ => rfl⟩
  have hs' : SimF P S (getF fr) ob G a { w with drawn := w.drawn + 1 } := (simF_iff.2 hs).ext hx
  have := anyT_sound (Q := PostOf P S Q) hn hdst (fun φ ob' G' a' w' ⟨fr', he, hq⟩ hsf => ⟨fr', ob', G', hq, simF_iff.1 (he ▸ hsf)⟩) _ _ _ ob G a _ key hs'
  have hfuel : (l.drop (n + 1)).length + (l.take n).length + 1 = l.length := by rw [List.length_drop, htl]; omega
  rw [hfuel] at this
  simpa using this
theorem s_nil {U : Fr} {ob ob' : Obs} {E : Fr → Prop} {fr : Fr} (hf : FrIn fr U) (h : E fr) : LexC P nt ops U ob ob' E [] fr := ⟨hf, h⟩
theorem s_neu {d : Nat} {U : Fr} {ob ob' : Obs} {E : Fr → Prop} {fr : Fr} {rest : List Oper} {op : Op} {ty : TypeId} {pos : String} {af : Array Edge} {s : SV} (h : Neu P ⟨some d, op, ty, pos, af, none⟩ (keepF fr (usesOp op)) ob (fun s' => s' = s)) (hd : Nat.blt d nt = true)
    (h2 : Neu P ⟨some d, op, ty, pos, af, none⟩ (keepF fr (usesOp op)) ob' (fun s' => s' = s)) (kk : LexC P nt ops U ob ob' E rest ((d, s) :: fr)) : LexC P nt ops U ob ob' E (⟨some d, op, ty, pos, af, none⟩ :: rest) fr :=
  ⟨s, d, rfl, yields_neu h hd, yields_neu h2 hd, kk⟩
theorem n_pick_t {fr : Fr} {ob : Obs} {dst : Option Tmp} {ty : TypeId} {pos : String} {af : Array Edge} {gd : Option (Nat × Bool)} {c x y : Operand} {b p : Bool} (hc : opv fr c = some (sBool b)) (hb : b = true) (hx : opv fr x = some (sBool p)) :
    Neu P ⟨dst, .pick c x y, ty, pos, af, gd⟩ fr ob (fun s' => s' = sBool p) :=
  neu_same fun S G a w h => by
    have := opv_val h hc
    subst hb
    exact ⟨.bool p, by simp [execOp, this, asBool, opv_val h hx], rfl, rfl⟩
theorem n_pick_f {fr : Fr} {ob : Obs} {dst : Option Tmp} {ty : TypeId} {pos : String} {af : Array Edge} {gd : Option (Nat × Bool)} {c x y : Operand} {b p : Bool} (hc : opv fr c = some (sBool b)) (hb : b = false) (hx : opv fr y = some (sBool p)) :
    Neu P ⟨dst, .pick c x y, ty, pos, af, gd⟩ fr ob (fun s' => s' = sBool p) :=
  neu_same fun S G a w h => by
    have := opv_val h hc
    subst hb
    exact ⟨.bool p, by simp [execOp, this, asBool, opv_val h hx], rfl, rfl⟩
end
end Go.AL
namespace Go.AL
open Go Go.RowKit
theorem retc3 {P : Program} {fn : Func} {fr : Fr} {ob : Obs} {t t' t'' : Tmp} {k n : Nat} {tt : TypeId} {ts : List TC} {cs : List Cell} {s' s'' : S1} {p' p'' : PV} [TyAgg P tt n] (hr : fn.results = #[.cell t tt, .tmp t', .tmp t'']) (ht : getT fr t = some (.s (.one (.ref k 0)))) (hk : getO ob k = some (.box ts)) (hn : ts.length = n) (hp : pureL ts = some cs)
    (ht' : getT fr t' = some (.s s')) (hp' : s'.pv? = some p') (ht'' : getT fr t'' = some (.s s'')) (hp'' : s''.pv? = some p'') : RetOk P fn fr ob [.agg cs, p', p''] :=
  fun S G a w h => by
    obtain ⟨b, vs, h1, h2, h3⟩ := box_pv h (tt := tt) ht hk hn hp
    rw [Array.getD_eq_getD_getElem?] at h1
    exact ⟨_, by simp [results, hr, h1, asAddr, h2], [_, _, _], rfl, h3, slot_pv h ht' hp', slot_pv h ht'' hp'', trivial⟩
end Go.AL
namespace Go.AL
open Go Go.RowKit
set_option linter.unusedVariables false
inductive CK | int (k : IntKind) | str | bool
def ckOf (P : Program) (t : TypeId) : Option CK :=
  match P.underlying t with
  | some (.int k) => some (.int k)
  | some .string => some .str
  | some .bool => some .bool
  | _ => none
def cmpFs (P : Program) : Nat → List Field → List CK → Bool
  | _, [], [] => true
  | i, f :: fs, k :: ks => f.name != "_" && (f.offset == i && ((match ckOf P f.type, k with | some (.int k), .int k' => decide (k = k') | some .str, .str => true | some .bool, .bool => true | _, _ => false) && cmpFs P (i + 1) fs ks))
  | _, _, _ => false
class TyCmp (P : Program) (t : TypeId) (ks : outParam (List CK)) : Prop where
  out : P.underlying t = some (.struct (P.fieldsOf t)) ∧ (cmpFs P 0 (P.fieldsOf t).toList ks && (!P.stoodInHeld t && !P.eqGuardType P.depth t)) = true
section
variable {P : Program} {dst : Option Tmp} {ty : TypeId} {pos : String} {af : Array Edge} {gd : Option (Nat × Bool)} {fr : Fr} {ob : Obs}
end
end Go.AL
namespace Go.AL
open Go Go.RowKit
set_option linter.unusedVariables false
def usesC : Op → List Nat
  | .store _ x y => tmO x ++ tmO y
  | .box _ x => tmO x
  | .makeSlice _ x y => tmO x ++ tmO y
  | op => usesOp op
def svAt (sv : List SV) (i : Nat) : SV := sv.getD i .any
def allFr : List Oper → List SV → Fr → Fr
  | o :: l, s :: sv, fr => match o.dst with
    | some d => (d, s) :: allFr l sv fr
    | none => allFr l sv fr
  | _, _, fr => fr
abbrev Xe := List (Nat × Bool × (Nat × Ob))
def xAt : Xe → Nat → Option (Bool × (Nat × Ob))
  | [], _ => none
  | (i, x) :: r, e => cond (Nat.beq i e) (some x) (xAt r e)
def obD (xe : Xe) (ob : Obs) : List Nat → Obs
  | [] => ob
  | e :: D => match xAt xe e with
    | some x => x.2 :: obD xe ob D
    | none => obD xe ob D
def hasN (l : List Nat) (e : Nat) : Bool := l.any (Nat.beq e)
theorem hasN_iff {l : List Nat} {e : Nat} : hasN l e = true ↔ e ∈ l := by
  unfold hasN
  rw [List.any_eq_true]
  exact ⟨fun ⟨x, h, he⟩ => by rw [Nat.eq_of_beq_eq_true he]; exact h, fun h => ⟨e, h, Nat.beq_refl e⟩⟩
def dstL : List Oper → List Nat
  | [] => []
  | o :: l => match o.dst with
    | some d => d :: dstL l
    | none => dstL l
section
variable {P : Program} {nt : Nat}
def EffQ (P : Program) (nt : Nat) (ops : Array Oper) (o : Oper) (U : Fr) (new : Bool) (ob : Obs) (x : Nat × Ob) (s : SV) : Prop :=
  ∀ φ, Told U φ → (new = true → FreeF x.1 φ) → StepE P nt ops o φ ob (fun φ' ob'' => φ' = (match o.dst with | some d => putF φ d s | none => φ) ∧ ob'' = x :: ob)
def Ob1 (P : Program) (nt : Nat) (l : List Oper) (sv : List SV) (xe : Xe) (fr : Fr) (ob : Obs) (i : Nat) (D : List Nat) : Prop :=
  ∃ o, l[i]? = some o ∧ ((turns o.op = false ∧ Neu P o (keepF (allFr l sv fr) (usesC o.op)) (obD xe ob D) (fun s => s = svAt sv i)) ∨
    ∃ new x, xAt xe i = some (new, x) ∧ EffQ P nt l.toArray o (keepF (allFr l sv fr) (usesC o.op)) new (obD xe ob D) x (svAt sv i))
def Ob1s (P : Program) (nt : Nat) (l : List Oper) (sv : List SV) (xe : Xe) (fr : Fr) (ob : Obs) : List (Nat × List Nat) → Prop
  | [] => True
  | (i, D) :: r => Ob1 P nt l sv xe fr ob i D ∧ Ob1s P nt l sv xe fr ob r
theorem Ob1s.get {l : List Oper} {sv : List SV} {xe : Xe} {fr : Fr} {ob : Obs} : ∀ {r : List (Nat × List Nat)}, Ob1s P nt l sv xe fr ob r → ∀ p ∈ r, Ob1 P nt l sv xe fr ob p.1 p.2
  | [], _, p, hp => by simp at hp
  | (i, D) :: r, h, p, hp => by
    rcases List.mem_cons.1 hp with rfl | hp
    · exact h.1
    · exact Ob1s.get h.2 p hp
structure InvC (l : List Oper) (sv : List SV) (fr : Fr) (listed : Array Bool) (φ : Fa) : Prop where
  put : ∀ j o d, l[j]? = some o → listed.getD j false = true → o.dst = some d → φ d = some (svAt sv j)
  from' : ∀ t s, φ t = some s → (∃ j o, l[j]? = some o ∧ listed.getD j false = true ∧ o.dst = some t ∧ s = svAt sv j) ∨ getF fr t = some s
  old : ∀ t s, getF fr t = some s → t ∉ dstL l → φ t = some s
end
end Go.AL
namespace Go.AL
open Go Go.RowKit
set_option linter.unusedVariables false
section
variable {P : Program} {dst : Option Tmp} {ty : TypeId} {pos : String} {af : Array Edge} {gd : Option (Nat × Bool)} {fr : Fr} {ob : Obs}
section
variable {nt : Nat} {ops : Array Oper} {rest : List Oper} {Q : Post} {d : Nat}
end
class TyMap (P : Program) (t : TypeId) (kt : outParam TypeId) (kd : outParam TypeDesc) (z : outParam Value) : Prop where
  out : ∃ et, P.underlying t = some (.map kt et) ∧ P.underlying kt = some kd ∧ (P.info? et).bind (·.zero) = some z ∧ z.oneCell' = true
end
end Go.AL
namespace Go.AL
open Go Go.RowKit
set_option linter.unusedVariables false
section
variable {P : Program} {dst : Option Tmp} {ty : TypeId} {pos : String} {af : Array Edge} {gd : Option (Nat × Bool)} {fr : Fr} {ob : Obs}
end
end Go.AL
namespace Go.AL
open Go Go.RowKit
set_option linter.unusedVariables false
abbrev Sv := List (Nat × SV)
def lookV : Sv → Nat → Option SV
  | [], _ => none
  | (i, s) :: r, j => cond (Nat.beq i j) (some s) (lookV r j)
abbrev Ed := List (Nat × (List Nat × List Nat))
def edAt : Ed → Nat → List Nat × List Nat
  | [], _ => ([], [])
  | (i, x) :: r, e => cond (Nat.beq i e) x (edAt r e)
def dropK (ks : List Nat) (fr : Fr) : Fr := fr.filter fun p => !(hasN ks p.1)
theorem getF_dropK {ks : List Nat} : ∀ {fr : Fr} {t : Nat} {s : SV}, getF (dropK ks fr) t = some s ↔ t ∉ ks ∧ getF fr t = some s
  | [], t, s => by simp [dropK, getF]
  | (i, x) :: r, t, s => by
    have ih := getF_dropK (ks := ks) (fr := r) (t := t) (s := s)
    unfold dropK at ih ⊢
    cases hh : hasN ks i
    · rw [List.filter_cons_of_pos (by simp [hh])]
      by_cases he : i = t
      · subst he
        rw [getF_cons_same, getF_cons_same]
        have : i ∉ ks := fun q => by rw [hasN_iff.2 q] at hh; cases hh
        simp [this]
      · rw [getF_cons_other he, getF_cons_other he]; exact ih
    · rw [List.filter_cons_of_neg (by simp [hh])]
      rw [ih]
      by_cases he : i = t
      · subst he
        have : i ∈ ks := hasN_iff.1 hh
        simp [this]
      · rw [getF_cons_other he]
def UIn2 (l : List Oper) (svs : Sv) (fr : Fr) (o : Oper) (U : Fr) : Prop :=
  ∀ t s, getF U t = some s → t ∈ usesC o.op ∧ ((∃ j o', l[j]? = some o' ∧ o'.dst = some t ∧ lookV svs j = some s) ∨ (t ∉ dstL l ∧ getF fr t = some s))
section
variable {P : Program} {nt : Nat}
structure InvK (l : List Oper) (E : List Nat) (svs : Sv) (ed : Ed) (fr : Fr) (listed : Array Bool) (frc : Fr) : Prop where
  put : ∀ j o d s, l[j]? = some o → listed.getD j false = true → o.dst = some d → lookV svs j = some s → (∀ e ∈ E, listed.getD e false = true → d ∉ (edAt ed e).2) → getF frc d = some s
  from' : ∀ t s, getF frc t = some s → (∃ j o, l[j]? = some o ∧ listed.getD j false = true ∧ o.dst = some t ∧ lookV svs j = some s) ∨ getF fr t = some s
  old : ∀ t s, getF fr t = some s → t ∉ dstL l → (∀ e ∈ E, listed.getD e false = true → t ∉ (edAt ed e).2) → getF frc t = some s
end
end Go.AL
namespace Go.AL
open Go Go.RowKit
set_option linter.unusedVariables false
section
variable {P : Program} {nt : Nat}
theorem UIn2.mono {l : List Oper} {svs svs' : Sv} {fr : Fr} {o : Oper} {U : Fr} (h : UIn2 l svs fr o U) (hm : ∀ j x, lookV svs j = some x → lookV svs' j = some x) : UIn2 l svs' fr o U := fun t s ht => by
  obtain ⟨h1, h2⟩ := h t s ht
  refine ⟨h1, ?_⟩
  rcases h2 with ⟨j, o', h3, h4, h5⟩ | h2
  · exact .inl ⟨j, o', h3, h4, hm j s h5⟩
  · exact .inr h2
end
end Go.AL
namespace Go.AL
open Go Go.RowKit
set_option linter.unusedVariables false
section
variable {P : Program} {nt : Nat} {fr : Fr} {ob : Obs}
end
end Go.AL
namespace Go.AL
open Go Go.RowKit
set_option linter.unusedVariables false
section
variable {P : Program} {nt : Nat} {fr gf : Fr} {ob : Obs}
end
end Go.AL
namespace Go.AL
open Go Go.RowKit
set_option linter.unusedVariables false
section
variable {P : Program} {nt : Nat} {fr : Fr} {ob : Obs} {dst : Option Tmp} {ty : TypeId} {pos : String} {af : Array Edge} {gd : Option (Nat × Bool)}
theorem Sim.retold {S : Ctx} {G : Gh} {a : Act} {w : World} (h : Sim P S fr ob G a w) {k : Nat} {o o' : Ob} (hk : getO ob k = some o) (hown : ∀ b i, Own (G k) o' b i → Own (G k) o b i)
    (ho : ∀ rd : Rd, ObOk S rd G w (G k) o → ObOk S rd G w (G k) o') : Sim P S fr ((k, o') :: ob) G a w := by
  have hget : ∀ k' o1, getO ((k, o') :: ob) k' = some o1 → ∃ o0, getO ob k' = some o0 ∧ ∀ b i, Own (G k') o1 b i → Own (G k') o0 b i := by
    intro k' o1 hk'
    by_cases hkk : k' = k
    · subst hkk; rw [getO_cons_same] at hk'; cases hk'; exact ⟨_, hk, hown⟩
    · rw [getO_cons_other (Ne.symm hkk)] at hk'; exact ⟨_, hk', fun _ _ ho => ho⟩
  have hrd : ∀ b i z, rdOf (Mut S ob G) w b i z → rdOf (Mut S ((k, o') :: ob) G) w b i z := by
    intro b i z hr
    refine ⟨hr.1, fun hm => hr.2 ?_⟩
    rcases hm with hm | ⟨k', o1, hk', hb⟩
    · exact .inl hm
    · obtain ⟨o0, h0, hi⟩ := hget k' o1 hk'
      exact .inr ⟨k', o0, h0, hi _ _ hb⟩
  refine { h with old := ?_, dis := ?_, obs := ?_, facts := ?_ }
  · intro k' o1 b hk' hb
    obtain ⟨o0, h0, _⟩ := hget k' o1 hk'
    exact h.old k' o0 b h0 hb
  · intro k1 k2 o1 o2 b h1 h2 hb1 hb2
    obtain ⟨oa, ha, _⟩ := hget k1 o1 h1
    obtain ⟨ob', hb', _⟩ := hget k2 o2 h2
    exact h.dis k1 k2 oa ob' b ha hb' hb1 hb2
  · intro k' o1 hk'
    by_cases hkk : k' = k
    · subst hkk; rw [getO_cons_same] at hk'; cases hk'
      exact ho _ ((h.obs k' _ hk).ext hrd (Below.refl _ _))
    · rw [getO_cons_other (Ne.symm hkk)] at hk'
      exact (h.obs k' o1 hk').ext hrd (Below.refl _ _)
  · intro i s hi
    exact SV.rep_mono hrd (h.facts i s hi)
theorem Sim.grow_cell {S : Ctx} {G : Gh} {a : Act} {w : World} (h : Sim P S fr ob G a w) {k b n cap i o ec : Nat} {e : TypeId} {α : Type} {c : α → Nat → Cell} {xs : List α} {v : α} (hk : getO ob k = some (.grow e α ec c xs)) (hg : G k = .slice (some ⟨b, 0, none⟩) n cap) (hv : xs[i]? = some v) (ho : o < ec) :
    ∃ z, w.cell? ⟨b, i * ec + o, none⟩ = some z ∧ (c v o).rep (rdOf (Mut S ob G) w) z := by
  obtain ⟨vs, hown, _, hc⟩ := h.obs k _ hk
  obtain ⟨hi, rfl⟩ := List.getElem?_eq_some_iff.1 hv
  obtain ⟨z, h1, h2⟩ := hc i hi o ho
  have := hown.cells (g := b) (by rw [hg]; rfl) (i * ec + o) z h1
  exact ⟨z, by simpa [Addr.add_lit] using this, h2⟩
theorem n_load_g {x : Operand} {t e : TypeId} {k i o : Nat} {α : Type} {ec : Nat} {c : α → Nat → Cell} {xs : List α} {v : α} [ht : TyOne P t] (hx : opv fr x = some (.s (.one (.mref k ec i o)))) (hk : getO ob k = some (.grow e α ec c xs)) (hv : xs[i]? = some v)
    (ho : Nat.blt o ec = true) : Neu P ⟨dst, .load t x, ty, pos, af, gd⟩ fr ob (fun s' => s' = .s (.one (.p (c v o)))) :=
  neu_same fun S G a w h => by
    obtain ⟨b, n, cap, hg, hu⟩ := opv_one h hx
    obtain ⟨z, hz1, hz2⟩ := h.grow_cell hk hg hv (by simpa using ho)
    refine ⟨z, ?_, hz2⟩
    simp only [execOp, hu]
    exact run_v (by simp [Instr.loadAt, Instr.sureAddr, run_loadVar_one hz1])
end
end Go.AL
namespace Go.AL
open Go Go.RowKit
set_option linter.unusedVariables false
section
variable {P : Program} {nt : Nat} {fr : Fr} {ob : Obs} {dst : Option Tmp} {ty : TypeId} {pos : String} {af : Array Edge} {gd : Option (Nat × Bool)}
theorem tail_drop {gf : Fr} {ks : List Nat} (hk : (ks.all fun k => Nat.blt k 1000000) = true) (h : Tail gf fr) : Tail gf (dropK ks fr) := fun i s hi hg => by
  refine getF_dropK.2 ⟨fun hin => ?_, h i s hi hg⟩
  have := List.all_eq_true.1 hk i hin
  have : i < 1000000 := by simpa using this
  omega
end
end Go.AL
namespace Go.AL
open Go Go.RowKit
set_option linter.unusedVariables false
section
variable {P : Program} {nt : Nat} {fr : Fr} {ob : Obs} {dst : Option Tmp} {ty : TypeId} {pos : String} {af : Array Edge} {gd : Option (Nat × Bool)}
theorem row_le {xs ec p : Nat} (hp : p < xs) : p * ec + ec ≤ xs * ec := by
  have : (p + 1) * ec ≤ xs * ec := Nat.mul_le_mul_right _ hp
  rw [Nat.add_mul, Nat.one_mul] at this; omega
theorem row_get {ec : Nat} {vs : List Value} {p o : Nat} (ho : o < ec) : ((vs.drop (p * ec)).take ec)[o]? = vs[p * ec + o]? := by
  rw [List.getElem?_take_of_lt ho, List.getElem?_drop]
theorem row_length {ec n : Nat} {vs : List Value} {p : Nat} (hl : vs.length = n * ec) (hp : p < n) : ((vs.drop (p * ec)).take ec).length = ec := by
  have := row_le (ec := ec) hp
  rw [List.length_take, List.length_drop]; omega
theorem Sees.closeA (k : Nat) {e : TypeId} {α : Type} {ec : Nat} {c : α → Nat → Cell} {xs : List α} {p : Nat} {ts : List TC} (y : α) (hk : getO ob k = some (.growA e α ec c xs p ts)) (hts : pureL ts = some (cellsOf c y 0 ec)) :
    Sees P nt fr ob fr ((k, .grow e α ec c (xs.set p y)) :: ob) := fun S G a w hn h => by
  refine ⟨G, h.retold hk (fun b i ho => ⟨ho.1, trivial⟩) ?_⟩
  rintro rd ⟨vs, hown, hlen, hp, htl, hc, ha⟩
  refine ⟨vs, by simpa using hown, by simpa using hlen, fun i hi j hj => ?_⟩
  have hi' : i < xs.length := by simpa using hi
  by_cases hip : i = p
  · subst hip
    have hset : (xs.set i y)[i]'hi = y := by simp
    rw [hset]
    have hget : (cellsOf c y 0 ec)[j]? = some (c y j) := by
      have hlt : j < (cellsOf c y 0 ec).length := by rw [cellsOf_length]; exact hj
      rw [List.getElem?_eq_getElem hlt]
      have := cellsOf_get c y ec 0 j _ (List.getElem?_eq_getElem hlt)
      rw [this.1, Nat.zero_add]
    obtain ⟨z, h1, h2⟩ := (pureL_rep hts ha).get _ _ hget
    rw [row_get hj] at h1
    exact ⟨z, h1, h2⟩
  · have hset : (xs.set p y)[i]'hi = xs[i] := by rw [List.getElem_set_ne (Ne.symm hip)]
    rw [hset]
    exact hc i hi' hip j hj
theorem n_len_gA {x : Operand} {t e e' : TypeId} {eb bytes k ec p : Nat} {α : Type} {c : α → Nat → Cell} {xs : List α} {ts : List TC} (hx : opv fr x = some (.s (.one (.mut k)))) (hk : getO ob k = some (.growA e' α ec c xs p ts)) [ht : TySl P t e eb bytes] :
    Neu P ⟨dst, .call ⟨.builtin .len, #[x], #[t]⟩, ty, pos, af, gd⟩ fr ob (fun s' => s' = sInt xs.length) :=
  neu_same fun S G a w h => by
    refine ⟨.int .i64 xs.length, ?_, rfl, rfl⟩
    obtain ⟨hu, _⟩ := opv_one h hx
    obtain ⟨vs, hown, _⟩ := h.obs k _ hk
    rcases hown.2 with ⟨hg, h0⟩ | ⟨g, cap, cur, hg, _⟩
    · rw [hg] at hu
      simp [execOp, resolve, invoke, builtin, hu, Builtin.len_, run_underlying ht.out.1, goInt, h0]
    · rw [hg] at hu
      simp [execOp, resolve, invoke, builtin, hu, Builtin.len_, run_underlying ht.out.1, goInt]
theorem n_indexAddr_gA {x y : Operand} {t e e' : TypeId} {ec bytes k p : Nat} {α : Type} {c : α → Nat → Cell} {xs : List α} {ts : List TC} {ki : IntKind} {i : Int} [ht : TySl P t e ec bytes] (hx : opv fr x = some (.s (.one (.mut k)))) (hk : getO ob k = some (.growA e' α ec c xs p ts))
    (hy : opv fr y = some (sVal (.int ki i))) (h0 : 0 ≤ i) (h1 : i < xs.length) : Neu P ⟨dst, .indexAddr t x y, ty, pos, af, gd⟩ fr ob (fun s' => s' = .s (.one (.mref k ec i.toNat 0))) :=
  neu_same fun S G a w h => by
    obtain ⟨hu, _⟩ := opv_one h hx
    obtain ⟨vs, hown, _⟩ := h.obs k _ hk
    rcases hown.2 with ⟨hg, h2⟩ | ⟨g, cap, cur, hg, _⟩
    · omega
    · rw [hg] at hu
      refine ⟨.pointer (some ⟨g, i.toNat * ec, none⟩), ?_, g, xs.length, cap, hg, rfl⟩
      simp only [execOp, hu, opv_val h hy]
      refine run_v ?_
      have hb : 0 ≤ i ∧ i < (xs.length : Int) := ⟨h0, h1⟩
      simp [Instr.indexAt, run_underlying ht.out.1, asIntOf, hb, run_sizeOf ht.size, Addr.add_lit]
theorem n_load_gA {x : Operand} {t e : TypeId} {k p q o : Nat} {α : Type} {ec : Nat} {c : α → Nat → Cell} {xs : List α} {ts : List TC} {s : TC} [ht : TyOne P t] (hx : opv fr x = some (.s (.one (.mref k ec q o)))) (hk : getO ob k = some (.growA e α ec c xs p ts)) (hq : q = p) (hv : ts[o]? = some s) :
    Neu P ⟨dst, .load t x, ty, pos, af, gd⟩ fr ob (fun s' => s' = .s (.one s)) :=
  neu_same fun S G a w h => by
    subst hq
    obtain ⟨b, m, cap, hg, hu⟩ := opv_one h hx
    obtain ⟨vs, hown, _, hp, htl, _, ha⟩ := h.obs k _ hk
    obtain ⟨z, hz1, hz2⟩ := ha.get _ s hv
    have ho : o < ec := by have := (List.getElem?_eq_some_iff.1 hv).1; omega
    rw [row_get ho] at hz1
    have := hown.cells (g := b) (by rw [hg]; rfl) (q * ec + o) z hz1
    refine ⟨z, ?_, hz2⟩
    simp only [execOp, hu]
    refine run_v ?_
    have hcell : w.cell? ⟨b, q * ec + o, none⟩ = some z := by simpa [Addr.add_lit] using this
    simp [Instr.loadAt, Instr.sureAddr, run_loadVar_one (ht := ht) hcell]
theorem Sim.freezeG {S : Ctx} {G : Gh} {a : Act} {w : World} (h : Sim P S fr ob G a w) {k : Nat} {α : Type} {ec : Nat} {c : α → Nat → Cell} {xs : List α} {e : TypeId} (hk : getO ob k = some (.grow e α ec c xs)) (hec : 0 < ec) :
    Sim P S (Fr.mapS (SV.freeze k α ec c xs) fr) (Obs.mapO (Ob.freeze k α ec c xs) (Obs.drop k ob)) G a w := by
  have hd := h.drop k
  obtain ⟨vs, hown, hlen, hc⟩ := h.obs k _ hk
  have hget : ∀ k' o, getO (Obs.mapO (Ob.freeze k α ec c xs) (Obs.drop k ob)) k' = some o → ∃ o0, getO (Obs.drop k ob) k' = some o0 ∧ o = o0.freeze k α ec c xs := by
    intro k' o hk'
    rw [getO_mapO] at hk'
    cases hg' : getO (Obs.drop k ob) k' with
    | none => simp [hg'] at hk'
    | some o0 => simp [hg'] at hk'; exact ⟨o0, rfl, hk'.symm⟩
  have hownf : ∀ (u : Value) (o : Ob) (b i : Nat), Own u (o.freeze k α ec c xs) b i ↔ Own u o b i := by intro u o b i; cases o <;> simp [Own, Ob.freeze]
  have hmut : ∀ b i, Mut S (Obs.mapO (Ob.freeze k α ec c xs) (Obs.drop k ob)) G b i → Mut S (Obs.drop k ob) G b i := by
    intro b i hm
    rcases hm with hm | ⟨k', o, hk', hb⟩
    · exact .inl hm
    · obtain ⟨o0, h0, rfl⟩ := hget k' o hk'
      exact .inr ⟨k', o0, h0, (hownf _ _ _ _).1 hb⟩
  have hrd : ∀ b i z, rdOf (Mut S (Obs.drop k ob) G) w b i z → rdOf (Mut S (Obs.mapO (Ob.freeze k α ec c xs) (Obs.drop k ob)) G) w b i z := fun b i z hr => ⟨hr.1, fun hm => hr.2 (hmut b i hm)⟩
  have hrd0 : ∀ b i z, rdOf (Mut S ob G) w b i z → rdOf (Mut S (Obs.drop k ob) G) w b i z := by
    intro b i z hr
    refine ⟨hr.1, fun hm => hr.2 ?_⟩
    rcases hm with hm | ⟨k', o', hk', hb⟩
    · exact .inl hm
    · refine .inr ⟨k', o', ?_, hb⟩
      by_cases hkk : k' = k
      · subst hkk; rw [getO_drop_same] at hk'; cases hk'
      · rwa [getO_drop_other hkk] at hk'
  have hlist : (Cell.list α ec c xs).rep (rdOf (Mut S (Obs.mapO (Ob.freeze k α ec c xs) (Obs.drop k ob)) G) w) (G k) := by
    refine ownsRow_list hown hec hlen ?_ (fun i hi j hj => let ⟨z, h1, h2⟩ := hc i hi j hj; ⟨z, h1, Cell.rep_mono (fun _ _ _ hr => hrd _ _ _ (hrd0 _ _ _ hr)) _ _ h2⟩)
    intro g hg j z hj hcell
    refine ⟨hcell, fun hm => ?_⟩
    rcases hmut _ _ hm with hm | ⟨k', o', hk', hb, _⟩
    · have := h.m0 _ _ hm
      rcases h.old k _ g hk hg with h1 | h1
      · omega
      · exact h.m0io _ _ hm h1.1
    · by_cases hkk : k' = k
      · subst hkk; rw [getO_drop_same] at hk'; cases hk'
      · rw [getO_drop_other hkk] at hk'
        exact hkk (h.dis k' k o' _ g hk' hk hb hg)
  exact { hd with
    old := fun k' o b hk' => let ⟨o0, h0, _⟩ := hget k' o hk'; hd.old k' o0 b h0
    dis := fun k1 k2 o1 o2 b h1 h2 => let ⟨oa, ha, _⟩ := hget k1 o1 h1; let ⟨ob', hb', _⟩ := hget k2 o2 h2; hd.dis k1 k2 oa ob' b ha hb'
    obs := fun k' o hk' => by
      obtain ⟨o0, h0, rfl⟩ := hget k' o hk'
      have hob := (hd.obs k' o0 h0).ext hrd (Below.refl _ _)
      cases o0 with
      | box ts => obtain ⟨b', vs', t', h1, h2, h3⟩ := hob; exact ⟨b', vs', t', h1, h2, h3.map (TC.freeze k α ec c xs) fun _ _ => TC.rep_freeze hlist⟩
      | tbx e ts => obtain ⟨b', vs', h1, h2, h3⟩ := hob; exact ⟨b', vs', h1, h2, h3.map (TC.freeze k α ec c xs) fun _ _ => TC.rep_freeze hlist⟩
      | tarr n ec' ts => obtain ⟨b', vs', t', h1, hl, h2, hn, h3⟩ := hob; exact ⟨b', vs', t', h1, hl, h2, by simpa using hn, h3.map (TC.freeze k α ec c xs) fun _ _ => TC.rep_freeze hlist⟩
      | arr => exact hob
      | spare => exact hob
      | grow => exact hob
      | map => exact hob
      | growA e' α' ec' c' xs' p ts => obtain ⟨vs, h1, h2, h3, h4, h5, h6⟩ := hob; exact ⟨vs, h1, h2, h3, by simpa using h4, h5, h6.map (TC.freeze k α ec c xs) fun _ _ => TC.rep_freeze hlist⟩
      | growT e' n' ec' ts => obtain ⟨vs, h1, h2, h3, h4⟩ := hob; exact ⟨vs, h1, h2, by simpa using h3, h4.map (TC.freeze k α ec c xs) fun _ _ => TC.rep_freeze hlist⟩
    facts := fun i s hi => by
      rw [getF_mapS] at hi
      cases hg' : getF fr i with
      | none => simp [hg'] at hi
      | some s0 =>
        simp [hg'] at hi; subst hi
        exact SV.rep_freeze hlist (SV.rep_mono hrd (hd.facts i s0 hg')) }
theorem Sees.freezeG {k : Nat} {α : Type} {ec : Nat} {c : α → Nat → Cell} {xs : List α} {e : TypeId} (hk : getO ob k = some (.grow e α ec c xs)) (hec : Nat.blt 0 ec = true) :
    Sees P nt fr ob (Fr.mapS (SV.freeze k α ec c xs) fr) (Obs.mapO (Ob.freeze k α ec c xs) (Obs.drop k ob)) := fun S G a w hn h => ⟨G, h.freezeG hk (by simpa using hec)⟩
end
end Go.AL
namespace Go.AL
open Go Go.RowKit
set_option linter.unusedVariables false
section
variable {P : Program} {nt : Nat} {fr : Fr} {ob : Obs}
theorem Sees.fewer {ob' : Obs} (ho : ∀ k o, getO ob' k = some o → getO ob k = some o) : Sees P nt fr ob fr ob' := fun S G a w hn hs => ⟨G, hs.weakenO ho⟩
theorem Sees.adoptBG (k : Nat) (α : Type) (ec : Nat) (c : α → Nat → Cell) (e : TypeId) {kb o : Nat} {ts : List TC} (hb : getO ob kb = some (.box ts)) (hts : ts[o]? = some (.p (.v (.slice none 0 0)))) (hf : (frFree k fr && obFree k ob) = true) :
    Sees P nt fr ob fr ((kb, .box (ts.set o (.mut k))) :: (k, .grow e α ec c []) :: ob) := by
  simp only [Bool.and_eq_true] at hf
  obtain ⟨h1, h2⟩ := hf
  obtain ⟨h4, h5, hp⟩ := ob_free h2
  intro S G a w hn h
  have h6 := h.new hp (o := .grow e α ec c []) (u := .slice none 0 0) (w1 := w) h5 (Below.refl _ _) (fun b hb => by simp [blk] at hb) ⟨[], World.ownsRow_nil w _ _ _, by simp, fun i hi => absurd hi (by simp)⟩
  rw [fr_free h1, h4] at h6
  have hkb : k ≠ kb := fun he => by rw [he, hb] at h5; cases h5
  have hb' : getO ((k, Ob.grow e α ec c []) :: ob) kb = some (.box ts) := by rw [getO_cons_other hkb]; exact hb
  obtain ⟨b, vs, t, hg, hh, ha⟩ := h6.obs kb _ hb'
  have hbk : blk (upd G k (.slice none 0 0) kb) = some b := by rw [hg]; rfl
  refine ⟨_, h6.retell hb' hbk (fun i => ⟨hbk, trivial⟩) (fun i => ⟨hbk, trivial⟩) ?_⟩
  rintro rd ⟨b', vs', t', hg', hh', ha'⟩
  refine ⟨b', vs', t', hg', hh', All2.setL o (fun z hz => ?_) ha'⟩
  obtain ⟨z', hz1, hz2⟩ := ha'.get o _ hts
  rw [hz] at hz1; cases hz1
  rw [hz2.1]
  exact ⟨(upd_same _ _ _).symm, rfl⟩
end
end Go.AL
namespace Go.AL
open Go Go.RowKit
set_option linter.unusedVariables false
section
variable {P : Program} {nt : Nat} {fr : Fr} {ob : Obs} {dst : Option Tmp} {ty : TypeId} {pos : String} {af : Array Edge} {gd : Option (Nat × Bool)}
end
end Go.AL
namespace Go.AL
open Go Go.RowKit
set_option linter.unusedVariables false
section
variable {P : Program} {fr : Fr} {ob : Obs}
end
end Go.AL
namespace Go.AL
open Go Go.RowKit
set_option linter.unusedVariables false
section
variable {P : Program} {nt : Nat} {fr : Fr} {ob : Obs} {dst : Option Tmp} {ty : TypeId} {pos : String} {af : Array Edge} {gd : Option (Nat × Bool)}
theorem all2_one {rd : Rd} {G : Gh} : ∀ {ts : List TC} {vs : List Value}, All2 (TC.rep rd G) ts vs → ∀ u ∈ vs, u.oneCell' = true
  | [], [], _, u, hu => by cases hu
  | t :: ts, v :: vs, h, u, hu => by
    rcases List.mem_cons.1 hu with rfl | hu
    · exact TC.rep_one h.1
    · exact all2_one h.2 u hu
theorem f_buildT (k : Nat) {t e : TypeId} {ec bytes : Nat} {x : Operand} {s : S1} [ht : TySl P t e ec bytes] (hx : opv fr x = some (.s s)) (hc : constOk x = true) (hsl : s.cells.length = ec) (hecb : Nat.ble ec 100 = true)
    (hfs : s.cells.all (TC.free k) = true) (hf : (frFree k fr && obFree k ob) = true) : EffV P ⟨dst, .buildSlice t 1 #[(0, x)], ty, pos, af, gd⟩ fr ob (.s (.one (.mut k))) fr ((k, .tarr 1 ec s.cells) :: ob) := by
  simp only [Bool.and_eq_true] at hf
  obtain ⟨hf1, hf2⟩ := hf
  obtain ⟨hob, hk, hp0⟩ := ob_free hf2
  have hfr := fr_free hf1
  intro S G a w h
  have hec := ht.out.2.2.1
  have hec' : ec ≤ 100 := by simpa using hecb
  obtain ⟨_, _, _, _, hzero⟩ := ht.out
  cases hi : P.info? e with
  | none => simp [hi] at hzero
  | some i =>
  cases hz : i.zero with
  | none => simp [hi, hz] at hzero
  | some z =>
  have hzv : (P.info? e).bind (·.zero) = some z := by simp [hi, hz]
  have hcells := S1.rep_cells (s := s) (opv_rep h hx hc)
  have hlen : (a.eval x).cells.size = ec := by rw [← hsl, hcells.length]; simp
  let cs0 : Array Value := (Array.range (1 * ec)).map (z.cells[· % z.cells.size]!)
  have hcs0 : cs0.size = ec := by simp [cs0]
  have hfill : Instr.fill (fun i => some (i * ec, ec)) cs0 [(0, a.eval x)] = some (a.eval x).cells.toList.toArray := by
    have hfold : (a.eval x).cells.zipIdx.foldl (fun cs (x : Value × Nat) => cs.setIfInBounds (0 * ec + x.2) x.1) cs0 = (cs0.toList.take (0 * ec) ++ (a.eval x).cells.toList ++ cs0.toList.drop (0 * ec + (a.eval x).cells.toList.length)).toArray := by
      rw [← Array.foldl_toList, Array.toList_zipIdx]
      have := fold_set (0 * ec) (a.eval x).cells.toList 0 cs0 (by simp; omega)
      simpa using this
    simp only [Instr.fill, hlen, ne_eq, not_true_eq_false, decide_false, Bool.false_or, decide_eq_true_eq]
    rw [if_neg (by omega), hfold]
    have : cs0.toList.drop (0 * ec + (a.eval x).cells.toList.length) = [] := by rw [List.drop_eq_nil_iff]; simp; omega
    rw [this]; simp
  refine does_of_run (w' := w.alloc (.cells (a.eval x).cells.toList.toArray e)) (v := .slice (some ⟨w.heap.size, 0, none⟩) 1 1) ?_ ?_
  · simp only [execOp]
    refine run_v ?_
    simp only [Instr.buildSlice, Sem.run_bind, run_underlying ht.out.1, Result.andThen_ok, run_sizeOf ht.size]
    rw [if_neg (by omega)]
    rw [if_neg (by omega)]
    simp only [Sem.run_bind, run_zeroValue hzv, Sem.run_pure, Result.andThen_ok]
    have hp : (#[(0, x)] : Array (Nat × Operand)).map (fun (x : Nat × Operand) => match x with | (i, x) => (i, a.eval x)) = #[(0, a.eval x)] := by simp
    rw [hp]
    have hfill' : Instr.fill (fun i => some (i * ec, ec)) ((Array.range (1 * ec)).map (z.cells[· % z.cells.size]!)) (#[(0, a.eval x)] : Array (Nat × Value)).toList = some (a.eval x).cells.toList.toArray := hfill
    rw [hfill']
    simp [newRow]
  · have hxw : Below w.heap.size w (w.alloc (.cells (a.eval x).cells.toList.toArray e)) := (Below.refl _ _).alloc (Nat.le_refl _) _
    have hu : ∀ b, blk (.slice (some ⟨w.heap.size, 0, none⟩) 1 1) = some b → w.heap.size ≤ b := by intro b hb; simp [blk] at hb; omega
    have hsim := h.new hp0 hk (o := .tarr 1 ec s.cells) (u := .slice (some ⟨w.heap.size, 0, none⟩) 1 1) hxw hu (by
      refine ⟨w.heap.size, (a.eval x).cells.toList, e, rfl, by omega, heap_alloc_new w _, by rw [hsl]; omega, ?_⟩
      have h1 : All2 (TC.rep (rdOf (Mut S ((k, Ob.tarr 1 ec s.cells) :: Obs.forget k ob) (upd G k (.slice (some ⟨w.heap.size, 0, none⟩) 1 1))) (w.alloc (.cells (a.eval x).cells.toList.toArray e))) G) s.cells (a.eval x).cells.toList :=
        hcells.mono fun _ _ => TC.rep_mono (fun _ _ _ hr => h.rd_new hxw hu hr)
      have h2 := h1.map (TC.forget k) (fun _ _ => TC.rep_forget (G' := upd G k (.slice (some ⟨w.heap.size, 0, none⟩) 1 1)) (fun j hj => upd_other G _ hj))
      rwa [tcs_free hfs] at h2)
    rw [hfr, hob] at hsim
    exact ⟨_, hsim, (upd_same _ _ _).symm, rfl⟩
end
end Go.AL
namespace Go.AL
open Go Go.RowKit
set_option linter.unusedVariables false
def TC.refs : TC → List Nat
  | .buf k _ _ _ _ => [k]
  | .ref k _ => [k]
  | .mut k => [k]
  | .mref k _ _ _ => [k]
  | .msl k _ _ _ => [k]
  | .clo _ nf nc => nf.map (·.1) ++ nc.map (·.1)
  | _ => []
def S1.refs : S1 → List Nat
  | .one t => t.refs
  | .agg ts => ts.flatMap TC.refs
def SV.refs : SV → List Nat
  | .s x => x.refs
  | .tup l => l.flatMap S1.refs
  | _ => []
def Ob.refs : Ob → List Nat
  | .box ts => ts.flatMap TC.refs
  | .tbx _ ts => ts.flatMap TC.refs
  | .tarr _ _ ts => ts.flatMap TC.refs
  | .growA _ _ _ _ _ _ ts => ts.flatMap TC.refs
  | .growT _ _ _ ts => ts.flatMap TC.refs
  | _ => []
def frRefs : Fr → List Nat
  | [] => []
  | (_, s) :: r => s.refs ++ frRefs r
def obRefs : Obs → List Nat
  | [] => []
  | (_, o) :: r => o.refs ++ obRefs r
theorem refAt_congr {G G' : Gh} : ∀ {l : List (Nat × Nat)} {us : List Value}, (∀ k ∈ l.map (·.1), G' k = G k) → All2 (RefAt G) l us → All2 (RefAt G') l us
  | [], [], _, _ => trivial
  | [], _ :: _, _, h => h.elim
  | _ :: _, [], _, h => h.elim
  | p :: l, u :: us, hk, h => by
    obtain ⟨⟨b, h1, h2⟩, h3⟩ := h
    exact ⟨⟨b, by rw [hk p.1 (by simp)]; exact h1, h2⟩, refAt_congr (fun k hm => hk k (by simp at hm ⊢; exact .inr hm)) h3⟩
theorem TC.rep_congr {rd : Rd} {G G' : Gh} : ∀ {t : TC} {u : Value}, (∀ k ∈ t.refs, G' k = G k) → t.rep rd G u → t.rep rd G' u
  | .p _, _, _, h => h
  | .eref _ _ _ _ _, _, _, h => h
  | .any, _, _, h => h
  | .full _ _ _ _, _, _, h => h
  | .buf k _ _ _ _, _, hk, h => ⟨by rw [hk k (by simp [TC.refs])]; exact h.1, h.2⟩
  | .ref k _, _, hk, h => by simp only [TC.rep]; rw [hk k (by simp [TC.refs])]; exact h
  | .mut k, _, hk, h => by simp only [TC.rep]; rw [hk k (by simp [TC.refs])]; exact h
  | .mref k _ _ _, _, hk, h => by simp only [TC.rep]; rw [hk k (by simp [TC.refs])]; exact h
  | .msl k _ _ _, _, hk, h => by simp only [TC.rep]; rw [hk k (by simp [TC.refs])]; exact h
  | .clo _ nf nc, _, hk, ⟨vs, ws, h1, h2, h3⟩ => ⟨vs, ws, h1, refAt_congr (fun k hm => hk k (by simp only [TC.refs, List.mem_append]; exact .inl hm)) h2, refAt_congr (fun k hm => hk k (by simp only [TC.refs, List.mem_append]; exact .inr hm)) h3⟩
theorem all2_congr {rd : Rd} {G G' : Gh} : ∀ {ts : List TC} {vs : List Value}, (∀ k ∈ ts.flatMap TC.refs, G' k = G k) → All2 (TC.rep rd G) ts vs → All2 (TC.rep rd G') ts vs
  | [], [], _, _ => trivial
  | [], _ :: _, _, h => h.elim
  | _ :: _, [], _, h => h.elim
  | t :: ts, v :: vs, hs, h => ⟨TC.rep_congr (fun k hm => hs k (by rw [List.flatMap_cons]; exact List.mem_append.2 (.inl hm))) h.1, all2_congr (fun k hm => hs k (by rw [List.flatMap_cons]; exact List.mem_append.2 (.inr hm))) h.2⟩
theorem S1.rep_congr {rd : Rd} {G G' : Gh} : ∀ {t : S1} {u : Value}, (∀ k ∈ t.refs, G' k = G k) → t.rep rd G u → t.rep rd G' u
  | .one t, u, hs, h => TC.rep_congr (t := t) hs h
  | .agg ts, u, hs, ⟨vs, h1, h2⟩ => ⟨vs, h1, all2_congr hs h2⟩
theorem all2_congr1 {rd : Rd} {G G' : Gh} : ∀ {ts : List S1} {vs : List Value}, (∀ k ∈ ts.flatMap S1.refs, G' k = G k) → All2 (S1.rep rd G) ts vs → All2 (S1.rep rd G') ts vs
  | [], [], _, _ => trivial
  | [], _ :: _, _, h => h.elim
  | _ :: _, [], _, h => h.elim
  | t :: ts, v :: vs, hs, h => ⟨S1.rep_congr (fun k hm => hs k (by rw [List.flatMap_cons]; exact List.mem_append.2 (.inl hm))) h.1, all2_congr1 (fun k hm => hs k (by rw [List.flatMap_cons]; exact List.mem_append.2 (.inr hm))) h.2⟩
theorem SV.rep_congr {rd : Rd} {G G' : Gh} : ∀ {t : SV} {u : Value}, (∀ k ∈ t.refs, G' k = G k) → t.rep rd G u → t.rep rd G' u
  | .s t, u, hs, h => S1.rep_congr (t := t) hs h
  | .tup ts, u, hs, ⟨vs, h1, h2⟩ => ⟨vs, h1, all2_congr1 hs h2⟩
  | .any, _, _, _ => trivial
  | .un, _, _, h => h
theorem ObOk.congr {S : Ctx} {rd : Rd} {G G' : Gh} {w : World} {u : Value} {o : Ob} (hs : ∀ k ∈ o.refs, G' k = G k) (h : ObOk S rd G w u o) : ObOk S rd G' w u o := by
  cases o with
  | box ts => obtain ⟨b, vs, t, h1, h2, h3⟩ := h; exact ⟨b, vs, t, h1, h2, all2_congr hs h3⟩
  | tbx e ts => obtain ⟨b, vs, h1, h2, h3⟩ := h; exact ⟨b, vs, h1, h2, all2_congr hs h3⟩
  | tarr n ec ts => obtain ⟨b, vs, t, h1, h2, h3, h4, h5⟩ := h; exact ⟨b, vs, t, h1, h2, h3, h4, all2_congr hs h5⟩
  | growA e α ec c xs p ts => obtain ⟨vs, h1, h2, h3, h4, h5, h6⟩ := h; exact ⟨vs, h1, h2, h3, h4, h5, all2_congr hs h6⟩
  | growT e n ec ts => obtain ⟨vs, h1, h2, h3, h4⟩ := h; exact ⟨vs, h1, h2, h3, all2_congr hs h4⟩
  | arr α ec c xs => exact h
  | map κ kf kvs => exact h
  | spare n ec e => exact h
  | grow e α ec c xs => exact h
theorem frRefs_get : ∀ {fr : Fr} {i : Nat} {s : SV}, getF fr i = some s → ∀ k ∈ s.refs, k ∈ frRefs fr
  | [], i, s, h, _, _ => by cases h
  | (j, x) :: r, i, s, h, k, hm => by
    unfold getF at h
    unfold frRefs
    cases hb : Nat.beq j i
    · rw [hb] at h; exact List.mem_append.2 (.inr (frRefs_get h k hm))
    · rw [hb] at h; cases h; exact List.mem_append.2 (.inl hm)
theorem obRefs_get : ∀ {ob : Obs} {i : Nat} {o : Ob}, getO ob i = some o → ∀ k ∈ o.refs, k ∈ obRefs ob
  | [], i, s, h, _, _ => by cases h
  | (j, x) :: r, i, s, h, k, hm => by
    unfold getO at h
    unfold obRefs
    cases hb : Nat.beq j i
    · rw [hb] at h; exact List.mem_append.2 (.inr (obRefs_get h k hm))
    · rw [hb] at h; cases h; exact List.mem_append.2 (.inl hm)
theorem getO_apps : ∀ {a b : Obs} {k : Nat}, getO (a ++ b) k = match getO a k with | some o => some o | none => getO b k
  | [], b, k => rfl
  | (j, x) :: r, b, k => by
    show (bif Nat.beq j k then some x else getO (r ++ b) k) = (match (bif Nat.beq j k then some x else getO r k) with | some o => some o | none => getO b k)
    cases Nat.beq j k
    · exact getO_apps (a := r)
    · rfl
def newOk (rs : List S1) (ob' : Obs) (fr : Fr) (ob : Obs) : Bool :=
  (rs.flatMap S1.refs ++ obRefs ob').all (fun k => (getO ob' k).isSome) && (frRefs fr ++ obRefs ob).all (fun k => (getO ob' k).isNone) && ob.all (fun p => (getO ob' p.1).isNone)
theorem getO_mem : ∀ {ob : Obs} {k : Nat} {o : Ob}, getO ob k = some o → ∃ p ∈ ob, p.1 = k
  | [], k, o, h => by cases h
  | (j, x) :: r, k, o, h => by
    unfold getO at h
    cases hb : Nat.beq j k
    · rw [hb] at h; obtain ⟨p, h1, h2⟩ := getO_mem h; exact ⟨p, List.mem_cons_of_mem _ h1, h2⟩
    · exact ⟨_, List.mem_cons_self, by simpa using hb⟩
theorem ownsRow_low {w : World} {B B' : Nat} {e : TypeId} {ec n : Nat} {v : Value} {xs : List Value} (hB : B ≤ B') (h : w.ownsRow B' e ec v n xs) : w.ownsRow B e ec v n xs :=
  ⟨h.1, h.2.imp id fun ⟨b, cap, cur, hg, hb, r⟩ => ⟨b, cap, cur, hg, Nat.le_trans hB hb, r⟩⟩
theorem ObOk.low {S S' : Ctx} {rd : Rd} {G : Gh} {w : World} {u : Value} {o : Ob} (hB : S.B ≤ S'.B) (h : ObOk S' rd G w u o) : ObOk S rd G w u o := by
  cases o with
  | box ts => exact h
  | tbx e ts => exact h
  | tarr n ec ts => exact h
  | arr α ec c xs => exact h
  | map κ kf kvs => exact h
  | spare n ec e => obtain ⟨vs, h1⟩ := h; exact ⟨vs, ownsRow_low hB h1⟩
  | grow e α ec c xs => obtain ⟨vs, h1, h2⟩ := h; exact ⟨vs, ownsRow_low hB h1, h2⟩
  | growA e α ec c xs p ts => obtain ⟨vs, h1, h2⟩ := h; exact ⟨vs, ownsRow_low hB h1, h2⟩
  | growT e n ec ts => obtain ⟨vs, h1, h2⟩ := h; exact ⟨vs, ownsRow_low hB h1, h2⟩
section
variable {P : Program} {nt : Nat} {ops : Array Oper} {rest : List Oper} {fr : Fr} {ob : Obs} {Q : Post} {d : Nat}
theorem l_new {f : FuncId} {xs : List Operand} {ats : Array TypeId} {ty : TypeId} {pos : String} {af : Array Edge} {args : List S1} {ks : List Nat} {post : List S1 → Obs → Prop}
    (hf : Met P f args [] [] ks post) (ha : argsS fr xs = some args) (hc : xs.all constOk = true) (hst : (args.flatMap S1.refs).isEmpty = true) (hd : Nat.blt d nt = true)
    (kk : ∀ rs ob', post rs ob' → newOk rs ob' fr ob = true ∧ WpL P nt ops rest ((d, resS rs) :: fr) (ob' ++ ob) Q) : WpL P nt ops (⟨some d, .call ⟨.value (.func f), xs.toArray, ats⟩, ty, pos, af, none⟩ :: rest) fr ob Q := by
  intro S G a w hn h
  have hvals := argsS_rep h xs args ha hc
  let S' : Ctx := { S with w0 := w, M0 := fun b i => Mut S ob G b i, io := fun _ => False }
  have hSB : S'.B = w.heap.size := rfl
  have hhigh : High ([] : Fr) := fun i s hi => by cases hi
  have hgrd : Grd P (fun _ => False) w := by
    obtain ⟨wg, h1, h2, h3⟩ := h.grd
    refine ⟨wg, h1, Nat.le_trans h2 h.size, fun j hj => ?_⟩
    obtain ⟨h4, h5⟩ := h3 j hj
    exact ⟨(h.keep j (Nat.lt_of_lt_of_le hj h2) h5).trans h4, fun e => e⟩
  have hs : Sim P S' [] [] G a w := { nt := h.nt, ntb := h.ntb, defers := h.defers, os := rfl, tape := rfl, output := rfl, size := Nat.le_refl _, keep := fun _ _ _ => rfl, m0 := fun b i hm => h.mut_lt hm, m0io := fun _ _ _ e => e, grd := hgrd, pin := h.pin, old := fun _ _ _ e => (by cases e), dis := fun _ _ _ _ _ e => (by cases e), obs := fun _ _ e => (by cases e), facts := fun _ _ e => (by cases e) }
  have hrd0 : ∀ b i z, rdOf (Mut S ob G) w b i z → rdOf (Mut S' [] G) w b i z := fun b i z hr => ⟨hr.1, fun hm => hr.2 (by
    rcases hm with hm | ⟨k, o, hk, _⟩
    · exact hm
    · cases hk)⟩
  have hcalls := hf.2 hhigh S' G a w _ hs (hvals.mono fun _ _ => S1.rep_mono hrd0)
  refine wpList_plain rfl fun K hK => wp_of_does (K := fun v w' => ∃ rs ob' G', post rs ob' ∧ ResRepS (rdOf (Mut S' ob' G') w') G' rs v ∧ Sim P S' (fForgets ks []) ob' G' a w') ?_ ?_
  · have he : (execOp a.eval ⟨some d, .call ⟨.value (.func f), xs.toArray, ats⟩, ty, pos, af, none⟩).run P w = .ok (.enter f (xs.map a.eval).toArray) w := by
      have := run_callFunc (P := P) (f := f) (args := (xs.map a.eval).toArray) (w := w) hf.1
      have hm : xs.toArray.map a.eval = (xs.map a.eval).toArray := by simp
      simp only [execOp, resolve, Act.eval, Deferred.ofValue, Sem.run_bind, Sem.run_pure, Result.andThen_ok, invoke]
      rw [show (#[] : Array Value) ++ Array.map a.eval xs.toArray ++ #[] = (xs.map a.eval).toArray by rw [← hm]; simp]
      exact this
    unfold Does
    rw [he]
    refine hcalls.mono ?_
    rintro e w' ⟨v, rs, ob', G', rfl, hpost, hres, hs'⟩
    exact ⟨v, rfl, rs, ob', G', hpost, hres, hs'⟩
  · rintro v w' ⟨rs, ob', G', hp, hres, hs'⟩
    obtain ⟨hnew, hk3⟩ := kk rs ob' hp
    simp only [newOk, Bool.and_eq_true, List.all_eq_true, List.mem_append] at hnew
    obtain ⟨⟨n1, n2⟩, n3⟩ := hnew
    have hdj : ∀ {k o}, getO ob k = some o → getO ob' k = none := fun {k o} hk => by
      obtain ⟨p, p1, p2⟩ := getO_mem hk
      have := n3 p p1
      rw [p2] at this; simpa using this
    obtain ⟨H, hH⟩ : ∃ H : Gh, H = fun k => match getO ob' k with | some _ => G' k | none => G k := ⟨_, rfl⟩
    have hH1 : ∀ {k}, (getO ob' k).isSome = true → H k = G' k := fun {k} hk => by
      rw [hH]; dsimp only
      cases hg : getO ob' k with
      | none => rw [hg] at hk; cases hk
      | some o => rfl
    have hH2 : ∀ {k}, (getO ob' k).isNone = true → H k = G k := fun {k} hk => by
      rw [hH]; dsimp only
      cases hg : getO ob' k with
      | none => rfl
      | some o => rw [hg] at hk; cases hk
    have hlt : d < S.nt := by rw [hn]; simpa using hd
    have hsz : w.heap.size ≤ w'.heap.size := hs'.size
    have hkeep : ∀ k, k < w.heap.size → w'.heap[k]? = w.heap[k]? := fun k hk => hs'.keep k hk (fun e => e)
    have hold : ∀ k o b, getO ob' k = some o → blk (G' k) = some b → w.heap.size ≤ b := fun k o b h1 h2 => by
      rcases hs'.old k o b h1 h2 with h3 | h3
      · exact h3
      · exact h3.1.elim
    have hcase : ∀ {k o}, getO (ob' ++ ob) k = some o → (getO ob' k = some o ∧ H k = G' k) ∨ (getO ob k = some o ∧ H k = G k) := fun {k o} hk => by
      rw [getO_apps] at hk
      cases hg : getO ob' k with
      | some o' => rw [hg] at hk; exact .inl ⟨hk, hH1 (by rw [hg]; rfl)⟩
      | none => rw [hg] at hk; exact .inr ⟨hk, hH2 (by rw [hg]; rfl)⟩
    have hrd1 : ∀ b i z, rdOf (Mut S' ob' G') w' b i z → rdOf (Mut S (ob' ++ ob) H) w' b i z := fun b i z hr => ⟨hr.1, fun hm => hr.2 (by
      rcases hm with hm | ⟨k, o, hk, hb⟩
      · exact .inl (.inl hm)
      · rcases hcase hk with ⟨k1, e⟩ | ⟨k1, e⟩
        · rw [e] at hb; exact .inr ⟨k, o, k1, hb⟩
        · rw [e] at hb; exact .inl (.inr ⟨k, o, k1, hb⟩))⟩
    have hrd2 : ∀ b i z, rdOf (Mut S ob G) w b i z → rdOf (Mut S (ob' ++ ob) H) w' b i z := fun b i z hr => by
      have hlt : b < w.heap.size := World.block_lt_of_cell? w _ hr.1
      refine ⟨by rw [World.cell?_of_block (w := w) (a := ⟨b, i, none⟩) (hkeep b hlt)]; exact hr.1, fun hm => ?_⟩
      rcases hm with hm | ⟨k, o, hk, hb⟩
      · exact hr.2 (.inl hm)
      · rcases hcase hk with ⟨k1, e⟩ | ⟨k1, e⟩
        · rw [e] at hb; have := hold k o b k1 hb.1; omega
        · rw [e] at hb; exact hr.2 (.inr ⟨k, o, k1, hb⟩)
    have hbelow : Below w.heap.size w w' := ⟨hs'.os, hs'.tape, hs'.output, hsz, fun k hk => hkeep k hk⟩
    have hsim : Sim P S fr (ob' ++ ob) H a w' := by
      refine { nt := h.nt, ntb := h.ntb, defers := h.defers, os := hs'.os.trans h.os, tape := hs'.tape.trans h.tape, output := hs'.output.trans h.output, size := Nat.le_trans h.size hsz, keep := fun k hk hio => (hkeep k (Nat.lt_of_lt_of_le hk h.size)).trans (h.keep k hk hio), m0 := h.m0, m0io := h.m0io, grd := h.grd, pin := fun k hk => ?_, old := fun k o b h1 h2 => ?_, dis := fun k k' o o' b h1 h2 h3 h4 => ?_, obs := fun k o hk => ?_, facts := fun i s hi => ?_ }
      · cases hg : getO ob' k with
        | some o => rw [hH1 (by rw [hg]; rfl)]; exact hs'.pin k hk
        | none => rw [hH2 (by rw [hg]; rfl)]; exact h.pin k hk
      · rcases hcase h1 with ⟨k1, e⟩ | ⟨k1, e⟩
        · rw [e] at h2; exact .inl (Nat.le_trans h.size (hold k o b k1 h2))
        · rw [e] at h2; exact h.old k o b k1 h2
      · rcases hcase h1 with ⟨k1, e1⟩ | ⟨k1, e1⟩ <;> rcases hcase h2 with ⟨k2, e2⟩ | ⟨k2, e2⟩ <;> rw [e1] at h3 <;> rw [e2] at h4
        · exact hs'.dis k k' o o' b k1 k2 h3 h4
        · have := hold k o b k1 h3
          have := (h.obs k' o' k2).blk_lt _ h4
          omega
        · have := hold k' o' b k2 h4
          have := (h.obs k o k1).blk_lt _ h3
          omega
        · exact h.dis k k' o o' b k1 k2 h3 h4
      · rcases hcase hk with ⟨k1, e⟩ | ⟨k1, e⟩
        · rw [e]
          exact (((hs'.obs k o k1).low (S := S) (by rw [hSB]; exact h.size)).ext hrd1 (Below.refl _ _)).congr fun j hj => hH1 (n1 j (.inr (obRefs_get k1 j hj)))
        · rw [e]
          exact ((h.obs k o k1).ext hrd2 hbelow).congr fun j hj => hH2 (n2 j (.inr (obRefs_get k1 j hj)))
      · exact SV.rep_congr (fun j hj => hH2 (n2 j (.inl (frRefs_get hi j hj)))) (SV.rep_mono hrd2 (h.facts i s hi))
    have hres' : (resS rs).rep (rdOf (Mut S (ob' ++ ob) H) w') H v := by
      refine SV.rep_congr (fun j hj => hH1 (n1 j (.inl ?_))) (SV.rep_mono hrd1 hres)
      revert hj
      match rs with
      | [] => intro hj; cases hj
      | [r] => intro hj; simpa [resS, SV.refs] using hj
      | r :: r2 :: rest => intro hj; exact hj
    exact hK _ _ (hk3 S H _ w' hn (hsim.put hlt hres'))
end
end Go.AL
namespace Go.AL
open Go Go.RowKit
set_option linter.unusedVariables false
section
variable {P : Program} {dst : Option Tmp} {ty : TypeId} {pos : String} {af : Array Edge} {gd : Option (Nat × Bool)} {fr : Fr} {ob : Obs}
end
end Go.AL
namespace Go.AL
open Go Go.RowKit
set_option linter.unusedVariables false
section
variable {P : Program} {nt : Nat} {ops : Array Oper} {rest : List Oper} {fr : Fr} {ob : Obs} {Q : Post} {d : Nat}
theorem l_frozen {f : FuncId} {args : Array Operand} {ats : Array TypeId} {ty : TypeId} {pos : String} {af : Array Edge} {ps : List PV} {post : List PV → Prop} {fr2 : Fr} {ob2 : Obs} (hs : Sees P nt fr ob fr2 ob2)
    (hf : FnOk P f ps post) (ha : argsPV fr2 args.toList = some ps) (hc : args.toList.all constOk = true) (hd : Nat.blt d nt = true)
    (k : ∀ rs, post rs → (∀ (rd rd' : Rd) v, ResRep rd rs v → ResRep rd' rs v) ∧ WpL P nt ops rest ((d, resSV rs) :: fr) ob Q) : WpL P nt ops (⟨some d, .call ⟨.value (.func f), args, ats⟩, ty, pos, af, none⟩ :: rest) fr ob Q := by
  intro S G a w hn h
  obtain ⟨G', h'⟩ := hs S G a w hn h
  have hrep := argsPV_rep h' args.toList ps ha hc
  have hcall := hf.2 w (Mut S ob2 G') (args.toList.map a.eval) h.grdW (fun b i hm => h'.mut_lt hm) hrep
  have hargs : (args.toList.map a.eval).toArray = args.map a.eval := by rw [← Array.toList_map, Array.toArray_toList]
  refine wpList_plain rfl fun K hK => wp_of_does (K := fun v w' => ∃ rs, post rs ∧ ResRep (rdOf (Mut S ob2 G') w') rs v ∧ Below w.heap.size w w') ?_ ?_
  · have he : (execOp a.eval ⟨some d, .call ⟨.value (.func f), args, ats⟩, ty, pos, af, none⟩).run P w = .ok (.enter f (args.map a.eval)) w := by
      simp only [execOp, resolve, Act.eval, Deferred.ofValue, Sem.run_bind, Sem.run_pure, Result.andThen_ok, invoke]
      rw [show (#[] : Array Value) ++ Array.map a.eval args ++ #[] = args.map a.eval by simp]
      exact run_callFunc hf.1
    unfold Does
    rw [he]
    rw [hargs] at hcall
    refine hcall.mono ?_
    rintro e w' ⟨v, rs, rfl, hp, hr, hb⟩
    exact ⟨v, rfl, rs, hp, hr, hb⟩
  · rintro v w' ⟨rs, hp, hr, hb⟩
    obtain ⟨k1, k2⟩ := k rs hp
    have hlt : d < S.nt := by rw [hn]; simpa using hd
    exact hK _ _ (k2 S G _ w' hn ((h.ext hb).put hlt (ResRep.sv (k1 _ _ _ hr))))
end
end Go.AL
namespace Go.AL
open Go Go.RowKit
set_option linter.unusedVariables false
section
variable {P : Program} {nt : Nat} {ops : Array Oper}
end
end Go.AL
namespace Go.AL
open Go Go.RowKit
set_option linter.unusedVariables false
section
variable {P : Program} {nt : Nat} {ops : Array Oper} {rest : List Oper} {fr : Fr} {ob : Obs} {K : Fr → Obs → Prop} {d : Nat}
end
end Go.AL
namespace Go.AL
open Go Go.RowKit
set_option linter.unusedVariables false
section
variable {P : Program} {nt : Nat} {fr : Fr} {ob : Obs} {dst : Option Tmp} {ty : TypeId} {pos : String} {af : Array Edge} {gd : Option (Nat × Bool)}
theorem Sees.toGT (k : Nat) {e : TypeId} {α : Type} {ec : Nat} {c : α → Nat → Cell} {xs : List α} (hk : getO ob k = some (.grow e α ec c xs)) :
    Sees P nt fr ob fr ((k, .growT e xs.length ec (flatC ec c xs)) :: ob) := fun S G a w hn h => by
  refine ⟨G, h.retold hk (fun b i ho => ⟨ho.1, trivial⟩) ?_⟩
  rintro rd ⟨vs, hown, hlen, hc⟩
  refine ⟨vs, hown, hlen, flatC_length xs, ?_⟩
  refine all2_of_get (by rw [flatC_length, hown.1]) fun q t z h1 h2 => ?_
  have hq : q < xs.length * ec := by have := (List.getElem?_eq_some_iff.1 h1).1; rwa [flatC_length] at this
  have hec : 0 < ec := Nat.pos_of_ne_zero fun e => by rw [e] at hq; simp at hq
  have hi : q / ec < xs.length := Nat.div_lt_of_lt_mul (by rw [Nat.mul_comm]; exact hq)
  have hj : q % ec < ec := Nat.mod_lt _ hec
  have hqq : q = q / ec * ec + q % ec := by rw [Nat.mul_comm]; exact (Nat.div_add_mod q ec).symm
  have h3 := flatC_get (c := c) xs (q / ec) (q % ec) _ (List.getElem?_eq_getElem hi) hj
  rw [← hqq, h1] at h3
  cases h3
  obtain ⟨z', h4, h5⟩ := hc (q / ec) hi (q % ec) hj
  rw [← hqq, h2] at h4
  cases h4
  exact h5
theorem Sees.ofGT (k : Nat) {e : TypeId} {α : Type} {ec : Nat} {c : α → Nat → Cell} {n : Nat} {ts : List TC} (xs : List α) (hk : getO ob k = some (.growT e n ec ts)) (hn : xs.length = n) (hts : ts = flatC ec c xs) :
    Sees P nt fr ob fr ((k, .grow e α ec c xs) :: ob) := by
  subst hts hn
  intro S G a w hn h
  refine ⟨G, h.retold hk (fun b i ho => ⟨ho.1, trivial⟩) ?_⟩
  rintro rd ⟨vs, hown, hlen, hl, hc⟩
  refine ⟨vs, hown, hlen, fun i hi j hj => ?_⟩
  have hf := flatC_get (c := c) xs i j _ (List.getElem?_eq_getElem hi) hj
  obtain ⟨z, hz1, hz2⟩ := hc.get _ _ hf
  exact ⟨z, hz1, hz2⟩
theorem e_append_gTT {x y : Operand} {k k2 n m : Nat} {ec bytes : Nat} {ts us : List TC} {t e : TypeId} [ht : TySl P t e ec bytes] (hx : opv fr x = some (.s (.one (.mut k)))) (hk : getO ob k = some (.growT e n ec ts))
    (hy : opv fr y = some (.s (.one (.mut k2)))) (hk2 : getO ob k2 = some (.tarr m ec us)) (hlen : n + m ≤ 1073741824) (hp : Nat.blt k 1000000 = true) :
    EffV P ⟨dst, .call ⟨.builtin .append, #[x, y], #[t, t]⟩, ty, pos, af, gd⟩ fr ob (.s (.one (.mut k))) (Fr.forget k fr) ((k, .growT e (n + m) ec ((ts ++ us).map (TC.forget k))) :: Obs.forget k ob) := by
  intro S G a w h
  have hec := ht.out.2.2.1
  obtain ⟨hux, _⟩ := opv_one h hx
  obtain ⟨huy, _⟩ := opv_one h hy
  obtain ⟨b2, vs, t2, hG2, hm2, hh2, htl, ha2⟩ := h.obs k2 _ hk2
  rw [hG2] at huy
  have hvl : vs.length = m * ec := by rw [← ha2.length, htl]
  obtain ⟨ws, hown, _, hwl, hws⟩ := h.obs k _ hk
  obtain ⟨v', w', hrun, hown', hgrow, hblk', hleave⟩ := run_append_at (P := P) (ty := ty) S.B ht hown h.size (u := a.eval y) (ad := some ⟨b2, 0, none⟩) (m := m) (c := m) (news := vs) huy (by intro h; cases h) (Nat.le_refl _) hvl
    (fun b o hb j z hz => by
      injection hb with hb; injection hb with e1 e2; subst e1; subst e2
      rw [Lib.cell_of_heap hh2]
      simpa using hz)
    (.inr ⟨b2, 0, rfl⟩) (all2_one ha2) hlen
  have hbv : (G k).ownBlock = blk (G k) := ownBlock_blk (ownsRow_noPtr hown)
  have hread : ∀ b i z, rdOf (Mut S ob G) w b i z → w'.cell? ⟨b, i, none⟩ = some z := by
    intro b i z hr
    have hlt : b < w.heap.size := World.block_lt_of_cell? w _ hr.1
    by_cases hb : blk (G k) = some b
    · exact absurd (Or.inr ⟨k, _, hk, hb, trivial⟩) hr.2
    · rw [World.cell?_of_block (w := w) (a := ⟨b, i, none⟩) (hgrow.block b hlt (by rw [hbv]; exact fun e => hb e.symm))]
      exact hr.1
  have hsim := h.turn (o' := .growT e (n + m) ec ((ts ++ us).map (TC.forget k))) (u' := v') (by simpa using hp) hk hgrow.os hgrow.tape hgrow.output hgrow.size (fun j hj hb => hgrow.block j hj (by rw [hbv]; exact fun e => hb e.symm)) hread hblk'
    (by
      intro b i hb ho
      rcases hblk' b ho.1 with h1 | h1
      · exact ⟨h1, trivial⟩
      · omega)
    (fun rd hrd' G' hG' => by
      refine ⟨_, hown', by omega, by rw [List.length_map, List.length_append, hwl, htl, Nat.add_mul], ?_⟩
      exact ((hws.append ha2).mono fun _ _ => TC.rep_mono hrd').map (TC.forget k) fun _ _ => TC.rep_forget hG')
  exact does_of_run (w' := w') (v := v') (by simp [execOp, resolve, invoke, builtin, hux, hrun]) ⟨upd G k v', hsim, (upd_same _ _ _).symm, ownsRow_one hown'⟩
end
end Go.AL
namespace Go.AL
open Go Go.RowKit
set_option linter.unusedVariables false
section
variable {P : Program} {nt : Nat} {fr : Fr} {ob : Obs} {dst : Option Tmp} {ty : TypeId} {pos : String} {af : Array Edge} {gd : Option (Nat × Bool)}
end
end Go.AL
namespace Go.AL
open Go Go.RowKit
set_option linter.unusedVariables false
section
variable {P : Program} {nt : Nat} {fr gf : Fr} {ob : Obs}
theorem TC.forget_comm (k q : Nat) (t : TC) : (t.forget q).forget k = (t.forget k).forget q := by
  cases t with
  | p c => rfl
  | buf k' α ec c xs => cases hb : Nat.beq k' k <;> cases hq : Nat.beq k' q <;> simp [TC.forget, hb, hq]
  | ref k' o => cases hb : Nat.beq k' k <;> cases hq : Nat.beq k' q <;> simp [TC.forget, hb, hq]
  | eref α ec c x o => rfl
  | «mut» k' => cases hb : Nat.beq k' k <;> cases hq : Nat.beq k' q <;> simp [TC.forget, hb, hq]
  | mref k' ec i o => cases hb : Nat.beq k' k <;> cases hq : Nat.beq k' q <;> simp [TC.forget, hb, hq]
  | any => rfl
  | clo f nf nc => cases hb : (anyK k nf || anyK k nc) <;> cases hq : (anyK q nf || anyK q nc) <;> simp [TC.forget, hb, hq]
  | msl k' ec o n => cases hb : Nat.beq k' k <;> cases hq : Nat.beq k' q <;> simp [TC.forget, hb, hq]
  | full α ec c xs => rfl
theorem S1.forget_comm (k q : Nat) (s : S1) : (s.forget q).forget k = (s.forget k).forget q := by
  cases s with
  | one t => simp only [S1.forget, TC.forget_comm k q t]
  | agg ts => simp only [S1.forget, List.map_map]; congr 1; exact List.map_congr_left fun t _ => TC.forget_comm k q t
theorem SV.forget_comm (k q : Nat) (s : SV) : (s.forget q).forget k = (s.forget k).forget q := by
  cases s with
  | s x => simp only [SV.forget, S1.forget_comm k q x]
  | tup l => simp only [SV.forget, List.map_map]; congr 1; exact List.map_congr_left fun t _ => S1.forget_comm k q t
  | any => rfl
  | un => rfl
theorem Fr.forget_comm (k q : Nat) (fr : Fr) : Fr.forget k (Fr.forget q fr) = Fr.forget q (Fr.forget k fr) := by
  unfold Fr.forget
  rw [List.map_map, List.map_map]
  exact List.map_congr_left fun p _ => by simp only [Function.comp]; rw [SV.forget_comm]
end
end Go.AL
namespace Go.AL
open Go Go.RowKit
set_option linter.unusedVariables false
section
variable {P : Program} {nt : Nat} {fr : Fr} {ob : Obs}
def TC.ren (j k : Nat) : TC → TC
  | .buf k' α ec c xs => cond (Nat.beq k' j) (.buf k α ec c xs) (.buf k' α ec c xs)
  | .ref k' off => cond (Nat.beq k' j) (.ref k off) (.ref k' off)
  | .mut k' => cond (Nat.beq k' j) (.mut k) (.mut k')
  | .mref k' ec i off => cond (Nat.beq k' j) (.mref k ec i off) (.mref k' ec i off)
  | .msl k' ec off n => cond (Nat.beq k' j) (.msl k ec off n) (.msl k' ec off n)
  | t => t
def Ob.ren (j k : Nat) : Ob → Ob
  | .box ts => .box (ts.map (TC.ren j k))
  | .tbx e ts => .tbx e (ts.map (TC.ren j k))
  | .tarr n ec ts => .tarr n ec (ts.map (TC.ren j k))
  | .growA e α ec c xs p ts => .growA e α ec c xs p (ts.map (TC.ren j k))
  | .growT e n ec ts => .growT e n ec (ts.map (TC.ren j k))
  | o => o
theorem TC.rep_ren {rd : Rd} {G : Gh} {j k : Nat} (hG : G k = G j) : ∀ {t : TC} {u : Value}, t.rep rd G u → (t.ren j k).rep rd G u
  | .p c, u, h => h
  | .buf k' α ec c xs, u, h => by
    simp only [TC.ren]
    cases hb : Nat.beq k' j
    · exact h
    · have e : k' = j := Nat.eq_of_beq_eq_true hb
      subst e
      simp only [cond, TC.rep]; rw [hG]; exact h
  | .ref k' off, u, h => by
    simp only [TC.ren]
    cases hb : Nat.beq k' j
    · exact h
    · have e : k' = j := Nat.eq_of_beq_eq_true hb
      subst e
      simp only [cond, TC.rep]; rw [hG]; exact h
  | .eref _ _ _ _ _, u, h => h
  | .mut k', u, h => by
    simp only [TC.ren]
    cases hb : Nat.beq k' j
    · exact h
    · have e : k' = j := Nat.eq_of_beq_eq_true hb
      subst e
      simp only [cond, TC.rep]; rw [hG]; exact h
  | .mref k' ec i off, u, h => by
    simp only [TC.ren]
    cases hb : Nat.beq k' j
    · exact h
    · have e : k' = j := Nat.eq_of_beq_eq_true hb
      subst e
      simp only [cond, TC.rep]; rw [hG]; exact h
  | .any, u, h => h
  | .clo _ _ _, _, h => h
  | .msl k' ec off n, u, h => by
    simp only [TC.ren]
    cases hb : Nat.beq k' j
    · exact h
    · have e : k' = j := Nat.eq_of_beq_eq_true hb
      subst e
      simp only [cond, TC.rep]; rw [hG]; exact h
  | .full _ _ _ _, u, h => h
theorem ObOk.ren {S : Ctx} {rd : Rd} {G : Gh} {w : World} {u : Value} {j k : Nat} {o : Ob} (hG : G k = G j) (h : ObOk S rd G w u o) : ObOk S rd G w u (o.ren j k) := by
  cases o with
  | box ts => obtain ⟨b, vs, t, h1, h2, h3⟩ := h; exact ⟨b, vs, t, h1, h2, h3.map (TC.ren j k) fun _ _ => TC.rep_ren hG⟩
  | tbx e ts => obtain ⟨b, vs, h1, h2, h3⟩ := h; exact ⟨b, vs, h1, h2, h3.map (TC.ren j k) fun _ _ => TC.rep_ren hG⟩
  | tarr n ec ts => obtain ⟨b, vs, t, h1, hl, h2, hn, h3⟩ := h; exact ⟨b, vs, t, h1, hl, h2, by simpa using hn, h3.map (TC.ren j k) fun _ _ => TC.rep_ren hG⟩
  | arr α ec c xs => exact h
  | spare n ec e => exact h
  | grow e α ec c xs => exact h
  | map κ kf kvs => exact h
  | growA e α ec c xs p ts => obtain ⟨vs, h1, h2, h3, h4, h5, h6⟩ := h; exact ⟨vs, h1, h2, h3, by simpa using h4, h5, h6.map (TC.ren j k) fun _ _ => TC.rep_ren hG⟩
  | growT e n ec ts => obtain ⟨vs, h1, h2, h3, h4⟩ := h; exact ⟨vs, h1, h2, by simpa using h3, h4.map (TC.ren j k) fun _ _ => TC.rep_ren hG⟩
theorem own_ren {u : Value} {j k b i : Nat} {o : Ob} : Own u (o.ren j k) b i ↔ Own u o b i := by cases o <;> simp [Own, Ob.ren]
theorem Sees.rename {j k : Nat} {ob' : Obs} (hj : Nat.blt j 1000000 = true) (hk : Nat.blt k 1000000 = true) (hjk : j ≠ k) (hfr : frFree k fr = true)
    (hm : ∀ i o, getO ob' i = some o → i ≠ j ∧ ∃ o0, getO ob (if i = k then j else i) = some o0 ∧ o0.free k = true ∧ o = o0.ren j k) : Sees P nt fr ob fr ob' := by
  intro S G a w hn h
  have hj' : j < 1000000 := by simpa using hj
  have hk' : k < 1000000 := by simpa using hk
  obtain ⟨G', hG'⟩ : ∃ G' : Gh, G' = fun i => if i = k then G j else G i := ⟨_, rfl⟩
  have g1 : ∀ i, i ≠ k → G' i = G i := fun i hi => by rw [hG']; exact if_neg hi
  have g2 : G' k = G j := by rw [hG']; exact if_pos rfl
  have g3 : G' k = G' j := by rw [g2, g1 j hjk]
  obtain ⟨r, hr⟩ : ∃ r : Nat → Nat, r = fun i => if i = k then j else i := ⟨_, rfl⟩
  have r1 : ∀ i, G' i = G (r i) := fun i => by
    rw [hr]
    by_cases hi : i = k
    · subst hi; rw [g2]; simp
    · rw [g1 i hi]; simp [hi]
  have hget : ∀ i o, getO ob' i = some o → i ≠ j ∧ ∃ o0, getO ob (r i) = some o0 ∧ o0.free k = true ∧ o = o0.ren j k := fun i o hi => by rw [hr]; exact hm i o hi
  have rinj : ∀ i i', i ≠ j → i' ≠ j → r i = r i' → i = i' := by
    intro i i' h1 h2 h3
    rw [hr] at h3
    dsimp only at h3
    by_cases a1 : i = k <;> by_cases a2 : i' = k
    · rw [a1, a2]
    · rw [if_pos a1, if_neg a2] at h3; exact absurd h3.symm h2
    · rw [if_neg a1, if_pos a2] at h3; exact absurd h3 h1
    · rwa [if_neg a1, if_neg a2] at h3
  have hmut : ∀ b i, Mut S ob' G' b i → Mut S ob G b i := by
    intro b i hm'
    rcases hm' with hm' | ⟨q, o, hq, ho⟩
    · exact .inl hm'
    · obtain ⟨_, o0, h1, _, rfl⟩ := hget q o hq
      rw [r1 q] at ho
      exact .inr ⟨r q, o0, h1, own_ren.1 ho⟩
  have hrd : ∀ b i z, rdOf (Mut S ob G) w b i z → rdOf (Mut S ob' G') w b i z := fun b i z hz => ⟨hz.1, fun hx => hz.2 (hmut b i hx)⟩
  refine ⟨G', { h with pin := fun q hq => by rw [g1 q (by omega)]; exact h.pin q hq, old := ?_, dis := ?_, obs := ?_, facts := ?_ }⟩
  · intro q o b hq hb
    obtain ⟨hqj, o0, h1, _, _⟩ := hget q o hq
    rw [r1 q] at hb
    rcases h.old (r q) o0 b h1 hb with h2 | ⟨h2, h3⟩
    · exact .inl h2
    · by_cases hqk : q = k
      · rw [hr] at h3; dsimp only at h3; rw [if_pos hqk] at h3; omega
      · rw [hr] at h3; dsimp only at h3; rw [if_neg hqk] at h3; exact .inr ⟨h2, h3⟩
  · intro q q' o o' b hq hq' hb hb'
    obtain ⟨hqj, o0, h1, _, _⟩ := hget q o hq
    obtain ⟨hqj', o0', h1', _, _⟩ := hget q' o' hq'
    rw [r1] at hb hb'
    exact rinj q q' hqj hqj' (h.dis _ _ _ _ b h1 h1' hb hb')
  · intro q o hq
    obtain ⟨hqj, o0, h1, hf, rfl⟩ := hget q o hq
    have h2 := (h.obs (r q) o0 h1).ext hrd (Below.refl _ _)
    have h3 := h2.forget (k := k) (G' := G') g1
    rw [Ob.forget_free hf] at h3
    rw [r1 q]
    exact h3.ren g3
  · intro i s hi
    have h1 := h.facts i s hi
    have h2 : s.free k = true := by
      have key : ∀ (f : Fr), frFree k f = true → ∀ i s, getF f i = some s → s.free k = true := by
        intro f
        induction f with
        | nil => intro _ i s h; cases h
        | cons p r ih =>
          obtain ⟨q, s0⟩ := p
          intro hf i s hg
          simp only [frFree, Bool.and_eq_true] at hf
          by_cases hq : q = i
          · subst hq; rw [getF_cons_same] at hg; cases hg
            first | exact hf.1 | exact hf.1.2 | exact hf.2.1
          · rw [getF_cons_other hq] at hg
            exact ih (by first | exact hf.2 | exact hf.2.2) i s hg
      exact key fr hfr i s hi
    have h3 := SV.rep_forget (G' := G') g1 (SV.rep_mono hrd h1)
    rwa [SV.forget_free h2] at h3
end
end Go.AL
namespace Go.AL
open Go Go.RowKit
set_option linter.unusedVariables false
section
variable {P : Program} {nt : Nat} {fr gf : Fr} {ob : Obs}
theorem TC.free_forget (k : Nat) (t : TC) : (t.forget k).free k = true := by
  cases t with
  | p c => rfl
  | buf k' α ec c xs => cases hb : Nat.beq k' k <;> simp [TC.forget, TC.free, hb]
  | ref k' o => cases hb : Nat.beq k' k <;> simp [TC.forget, TC.free, hb]
  | eref α ec c x o => rfl
  | «mut» k' => cases hb : Nat.beq k' k <;> simp [TC.forget, TC.free, hb]
  | mref k' ec i o => cases hb : Nat.beq k' k <;> simp [TC.forget, TC.free, hb]
  | any => rfl
  | clo f nf nc =>
    simp only [TC.forget]
    cases hb : (anyK k nf || anyK k nc)
    · rw [Bool.or_eq_false_iff] at hb; simp [TC.free, hb.1, hb.2]
    · rfl
  | msl k' ec o n => cases hb : Nat.beq k' k <;> simp [TC.forget, TC.free, hb]
  | full α ec c xs => rfl
theorem S1.free_forget (k : Nat) (s : S1) : (s.forget k).free k = true := by
  cases s with
  | one t => exact TC.free_forget k t
  | agg ts =>
    show (ts.map (TC.forget k)).all (TC.free k) = true
    rw [List.all_map, List.all_eq_true]
    exact fun t _ => TC.free_forget k t
theorem SV.free_forget (k : Nat) (s : SV) : (s.forget k).free k = true := by
  cases s with
  | s x => exact S1.free_forget k x
  | tup l =>
    show (l.map (S1.forget k)).all (S1.free k) = true
    rw [List.all_map, List.all_eq_true]
    exact fun t _ => S1.free_forget k t
  | any => rfl
  | un => rfl
end
end Go.AL
namespace Go.AL
open Go Go.RowKit
set_option linter.unusedVariables false
section
variable {P : Program}
end
end Go.AL
namespace Go.AL
open Go Go.RowKit
set_option linter.unusedVariables false
section
variable {P : Program} {nt : Nat} {fr : Fr} {ob : Obs} {dst : Option Tmp} {ty : TypeId} {pos : String} {af : Array Edge} {gd : Option (Nat × Bool)}
end
end Go.AL
namespace Go.AL
open Go Go.RowKit
set_option linter.unusedVariables false
def Cell.flat : Cell → Bool
  | .v _ => true
  | _ => false
def PV.flat : PV → Bool
  | .one c => c.flat
  | .agg cs => cs.all Cell.flat
section
variable {P : Program} {dst : Option Tmp} {ty : TypeId} {pos : String} {af : Array Edge} {gd : Option (Nat × Bool)} {fr fr' : Fr} {ob ob' : Obs}
end
end Go.AL
namespace Go.AL
open Go Go.RowKit
set_option linter.unusedVariables false
section
variable {P : Program} {nt : Nat} {fr : Fr} {ob : Obs}
theorem Sees.nilObj (k : Nat) (α : Type) (ec : Nat) (c : α → Nat → Cell) (e : TypeId) (hf : (frFree k fr && obFree k ob) = true) : Sees P nt fr ob fr ((k, .grow e α ec c []) :: ob) := by
  simp only [Bool.and_eq_true] at hf
  obtain ⟨h1, h2⟩ := hf
  obtain ⟨h4, h5, hp⟩ := ob_free h2
  intro S G a w hn h
  have h6 := h.new hp (o := .grow e α ec c []) (u := .slice none 0 0) (w1 := w) h5 (Below.refl _ _) (fun b hb => by simp [blk] at hb) ⟨[], World.ownsRow_nil w _ _ _, by simp, fun i hi => absurd hi (by simp)⟩
  rw [fr_free h1, h4] at h6
  exact ⟨_, h6⟩
end
end Go.AL
namespace Go.AL
open Go Go.RowKit
set_option linter.unusedVariables false
section
variable {P : Program} {nt : Nat} {fr : Fr} {ob : Obs}
theorem Sees.openT (k p : Nat) {e : TypeId} {ec n : Nat} {ts : List TC} {α : Type} {c : α → Nat → Cell} (xs : List α) (row : List TC) (hk : getO ob k = some (.growT e n ec ts)) (hn : xs.length = n) (hp : p < xs.length) (hrow : row.length = ec)
    (h1 : ∀ i (hi : i < xs.length), i ≠ p → ∀ j, j < ec → ts[i * ec + j]? = some (.p (c xs[i] j))) (h2 : ∀ j, j < ec → ts[p * ec + j]? = row[j]?) :
    Sees P nt fr ob fr ((k, .growA e α ec c xs p row) :: ob) := by
  subst hn
  intro S G a w hnt h
  refine ⟨G, h.retold hk (fun b i ho => ⟨ho.1, trivial⟩) ?_⟩
  rintro rd ⟨vs, hown, hlen, hl, ha⟩
  refine ⟨vs, hown, hlen, hp, hrow, fun i hi hip j hj => ?_, ?_⟩
  · obtain ⟨z, hz1, hz2⟩ := ha.get _ _ (h1 i hi hip j hj)
    exact ⟨z, hz1, hz2⟩
  · refine all2_of_get (by rw [row_length hown.1 hp]; exact hrow.symm) fun j t z q1 q2 => ?_
    have hj : j < ec := by have := (List.getElem?_eq_some_iff.1 q1).1; omega
    rw [row_get hj] at q2
    have h3 := h2 j hj
    rw [q1] at h3
    obtain ⟨z', hz1, hz2⟩ := ha.get _ _ h3
    rw [q2] at hz1; cases hz1; exact hz2
theorem c_joinE {x y : Code} {Q : Post} {X : Type} (E : X → Fr × Obs) (I : X → Prop) (hx : WpC P nt x fr ob (thenP (fun f o => ∃ v, I v ∧ Sees P nt f o (E v).1 (E v).2) Q)) (k : ∀ v, I v → WpC P nt y (E v).1 (E v).2 Q) : WpC P nt (.seq x y) fr ob Q :=
  c_seq (hx.mono fun e f o hq => by
    cases e with
    | normal => obtain ⟨v, hv, hs⟩ := hq; exact c_sees hs (k v hv)
    | _ => exact hq)
theorem c_joinE2 {x y z : Code} {Q : Post} {X : Type} (E : X → Fr × Obs) (I : X → Prop) (hx : WpC P nt x fr ob (thenP (fun f o => WpC P nt y f o (thenP (fun f o => ∃ v, I v ∧ Sees P nt f o (E v).1 (E v).2) Q)) Q)) (k : ∀ v, I v → WpC P nt z (E v).1 (E v).2 Q) : WpC P nt (.seq x (.seq y z)) fr ob Q :=
  c_seq (hx.mono fun e f o hq => by
    cases e with
    | normal => exact c_joinE E I hq k
    | _ => exact hq)
end
end Go.AL
