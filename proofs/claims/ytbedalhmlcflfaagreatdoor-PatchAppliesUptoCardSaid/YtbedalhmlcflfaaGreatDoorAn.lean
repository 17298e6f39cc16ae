/- The abstract logic, its third part. No project text. -/
import Derived.Test.YtbedalhmlcflfaaGreatDoorAm
attribute [local semireducible] Go.AL.Neu Go.AL.Eff Go.AL.EffV Go.AL.WpL Go.AL.WpC Go.AL.FnOk Go.AL.LexD Go.AL.Sees Go.AL.RetOk Go.AL.FnIo Go.AL.Met Go.AL.RetS
/- The abstract logic, part 31: a drawn region with one store into a box; pure operations before it in the text may come behind it. -/
namespace Go.AL
open Go Go.RowKit
set_option linter.unusedVariables false

section
variable {P : Program} {nt : Nat} {ops : Array Oper}

/-- an effect that leaves all slots as they are -/
def EffU (P : Program) (o : Oper) (U : Fr) (ob ob' : Obs) : Prop :=
  ∀ S G a w, Sim P S U ob G a w → Does P o a w (fun _ w' => ∃ G', ∀ fr, Sim P S fr ob G a w → Sim P S fr ob' G' a w')

theorem u_store_ref {t : TypeId} {x y : Operand} {k o n : Nat} {ts : List TC} {s : S1} {fr : Fr} {ob : Obs} {ty : TypeId} {pos : String} {af : Array Edge} {gd : Option (Nat × Bool)} (hsz : (P.info? t).map (·.size) = some n) (hx : opv fr x = some (.s (.one (.ref k o)))) (hk : getO ob k = some (.box ts)) (hy : opv fr y = some (.s s)) (hc : constOk y = true)
    (hn : s.cells.length = n) (hfit : Nat.ble (o + n) ts.length = true) : EffU P ⟨none, .store t x y, ty, pos, af, gd⟩ fr ob ((k, .box (setTs ts o s.cells)) :: ob) := by
  intro S G a w h
  obtain ⟨b, hg, hu⟩ := opv_one h hx
  obtain ⟨b', vs, tt, hg', hh, ha⟩ := h.box hk
  rw [hg] at hg'; cases hg'
  have hr : (SV.s s).rep (rdOf (Mut S ob G) w) G (a.eval y) := opv_rep h hy hc
  have hcells := S1.rep_cells hr
  have hlen : (a.eval y).cells.size = n := by rw [← hn, hcells.length]; simp
  have hle : o + n ≤ ts.length := by simpa using hfit
  have hone : ∀ u ∈ (a.eval y).cells.toList, u.oneCell' = true := by
    intro u hu
    have : ∀ (ts : List TC) (vs : List Value), All2 (TC.rep (rdOf (Mut S ob G) w) G) ts vs → ∀ u ∈ vs, u.oneCell' = true := by
      intro ts
      induction ts with
      | nil => intro vs h u hu; cases vs with | nil => cases hu | cons => exact h.elim
      | cons t ts ih =>
        intro vs h u hu
        cases vs with
        | nil => exact h.elim
        | cons v vs =>
          rcases List.mem_cons.1 hu with rfl | hu
          · exact TC.rep_one h.1
          · exact ih vs h.2 u hu
    exact this _ _ hcells u hu
  obtain ⟨w', hrun, hos, htape, hout, hsize, hother, hheap⟩ := run_storeVar (P := P) (t := t) (w := w) (b := b) (o := o) (v := a.eval y) (by rw [hsz, hlen]) hh hone (by rw [hlen, ← ha.length]; exact hle)
  unfold Does
  have he : (execOp a.eval ⟨none, .store t x y, ty, pos, af, gd⟩).run P w = .ok .skip w' := by
    simp [execOp, hu, Instr.storeAt, Instr.sureAddr, hrun]
  rw [he]
  have hbk : blk (G k) = some b := by rw [hg]; rfl
  refine ⟨G, fun fr2 h2 => h2.write hk hbk (fun i => ⟨hbk, trivial⟩) (fun i => ⟨hbk, trivial⟩) hos htape hout (Nat.le_of_eq hsize.symm) (fun j _ => hother j) ?_⟩
  intro rd hrd
  refine ⟨b, _, tt, hg, hheap, ?_⟩
  have hd : vs.drop (o + (a.eval y).cells.size) = vs.drop (o + s.cells.length) := by rw [hlen, hn]
  unfold setTs
  rw [hd]
  exact (((ha.take o).append hcells).append (ha.drop _)).mono fun _ _ => TC.rep_mono hrd

/-- these facts hold -/
def Told (U : Fr) (φ : Fa) : Prop := ∀ t s, getF U t = some s → φ t = some s
theorem told_unput {U : Fr} {φ : Fa} {d : Nat} {s : SV} (hd : getF U d = none) (h : Told U (putF φ d s)) : Told U φ := fun t s' ht => by
  have h1 := h t s' ht
  unfold putF at h1
  by_cases he : t = d
  · subst he; rw [hd] at ht; cases ht
  · rwa [if_neg he] at h1

theorem effU_step {o : Oper} {U : Fr} {ob ob' : Obs} {φ : Fa} (h : EffU P o U ob ob') (hg : o.guard = none) (hd : o.dst = none) (hφ : Told U φ) : StepE P nt ops o φ ob (fun φ' ob'' => φ' = φ ∧ ob'' = ob') := by
  refine ⟨hg, fun S G a w hn hs => does_imp (h S G a w (hs.sub hφ)) ?_⟩
  rintro v w' ⟨G', hG⟩
  refine ⟨φ, ob', G', ⟨rfl, rfl⟩, ?_⟩
  rw [hd]
  refine ⟨hG [] hs.1, fun i s hi => ?_⟩
  have h1 : Sim P S [(i, s)] ob G a w := hs.sub fun j t hj => by
    by_cases he : i = j
    · subst he; rw [getF_cons_same] at hj; cases hj; exact hi
    · rw [getF_cons_other he] at hj; simp [getF] at hj
  exact (hG _ h1).facts i s (by rw [getF_cons_same])

/-- pure operations, told before and behind the effect T -/
def AnyC (P : Program) (nt : Nat) (ops : Array Oper) (T : Nat) (U : Fr) (ob ob' : Obs) (E : Array Bool → Fa → Prop) : Nat → Array Bool → Fa → Prop
  | 0, listed, φ => (T ∈ Region.ready .any ops listed → Told U φ) ∧ T ∈ Region.ready .any ops listed ∧ (∀ j ∈ Region.ready .any ops listed, j = T) ∧ E listed φ
  | fuel + 1, listed, φ => (T ∈ Region.ready .any ops listed → Told U φ) ∧ (∃ p, p < T ∧ p ∈ Region.ready .any ops listed) ∧ ∀ i ∈ Region.ready .any ops listed, i ≠ T →
      ∃ o s d, ops[i]? = some o ∧ o.dst = some d ∧ turns o.op = false ∧ YieldsN P nt ops o φ ob s ∧ YieldsN P nt ops o φ ob' s ∧ AnyC P nt ops T U ob ob' E fuel (listed.setIfInBounds i true) (putF φ d s)

theorem AnyC.told {T : Nat} {U : Fr} {ob ob' : Obs} {E : Array Bool → Fa → Prop} {fuel : Nat} {listed : Array Bool} {φ : Fa} (h : AnyC P nt ops T U ob ob' E fuel listed φ) : T ∈ Region.ready .any ops listed → Told U φ := by
  cases fuel <;> exact h.1

theorem anyC_first {T : Nat} {U : Fr} {ob ob' : Obs} {E : Array Bool → Fa → Prop} {i d : Nat} {oi oT : Oper} {s : SV} (hi : ops[i]? = some oi) (hoT : ops[T]? = some oT) (hti : turns oi.op = false) (hdi : oi.dst = some d) (hiT : i < T)
    (hU : Bef ops T i = true ∨ getF U d = none) :
    ∀ (fuel : Nat) (listed : Array Bool) (φ : Fa), Closed ops listed →
      (∀ j oj, ops[j]? = some oj → j ≠ i → j ≠ T → listed.getD j true = false → Bef ops j i = true ∨ (turns oj.op = false ∧ apartB ops oi oj = true)) →
      i ∈ Region.ready .any ops listed → YieldsN P nt ops oi φ ob s → YieldsN P nt ops oi φ ob' s →
      AnyC P nt ops T U ob ob' E fuel (listed.setIfInBounds i true) (putF φ d s) → AnyC P nt ops T U ob ob' E (fuel + 1) listed φ := by
  have hto : ∀ (fuel : Nat) (listed : Array Bool) (φ : Fa), Closed ops listed → i ∈ Region.ready .any ops listed → AnyC P nt ops T U ob ob' E fuel (listed.setIfInBounds i true) (putF φ d s) → T ∈ Region.ready .any ops listed → Told U φ := by
    intro fuel listed φ hc hr H hT
    rcases hU with hb | hn
    · obtain ⟨hTun, oj, hoj, hall⟩ := mem_ready.1 hT
      have := bef_listed hc T hb (fun o ho e he hbd => by rw [hoj] at ho; cases ho; exact hall e (Array.mem_toList_iff.1 he) hbd)
      have hiun := ready_unlisted hr
      rw [hiun] at this; cases this
    · exact told_unput hn (H.told (ready_mono hT (by omega)))
  intro fuel
  induction fuel with
  | zero =>
    intro listed φ hc hN hr hy hy2 H
    refine ⟨hto 0 listed φ hc hr H, ⟨i, hiT, hr⟩, fun j hj hjT => ?_⟩
    by_cases hji : j = i
    · subst hji; exact ⟨oi, s, d, hi, hdi, hti, hy, hy2, H⟩
    · exact absurd (H.2.2.1 j (ready_mono hj hji)) hjT
  | succ fuel ih =>
    intro listed φ hc hN hr hy hy2 H
    refine ⟨hto (fuel + 1) listed φ hc hr H, ⟨i, hiT, hr⟩, fun j hj hjT => ?_⟩
    by_cases hji : j = i
    · subst hji; exact ⟨oi, s, d, hi, hdi, hti, hy, hy2, H⟩
    · obtain ⟨hjun, oj, hoj, hall⟩ := mem_ready.1 hj
      have hiun := ready_unlisted hr
      obtain ⟨htj, hap⟩ : turns oj.op = false ∧ apartB ops oi oj = true := by
        rcases hN j oj hoj hji hjT hjun with hb | h
        · have := bef_listed hc j hb (fun o ho e he hbd => by rw [hoj] at ho; cases ho; exact hall e (Array.mem_toList_iff.1 he) hbd)
          rw [hiun] at this; cases this
        · exact h
      obtain ⟨o', sj, dj, ho', hdj, _, hyj, hyj2, HK⟩ := H.2.2 j (ready_mono hj hji) hjT
      rw [hoj] at ho'; cases ho'
      simp only [apartB, hdi, hdj, Bool.and_eq_true, Bool.not_eq_true', List.contains_eq_mem, decide_eq_false_iff_not] at hap
      obtain ⟨⟨h1, h2⟩, h3⟩ := hap
      have h3 : d ≠ dj := fun e => by subst e; simp at h3
      refine ⟨oj, sj, dj, hoj, hdj, htj, hyj.unput h1, hyj2.unput h1, ?_⟩
      refine ih (listed.setIfInBounds j true) _ (closed_set hc hj) ?_ (ready_mono hr (Ne.symm hji)) (hy.put h2) (hy2.put h2) ?_
      · intro m om hm hmi hmT hun
        refine hN m om hm hmi hmT ?_
        by_cases hjm : j = m
        · subst hjm; exact hjun
        · rwa [getD_set_ne true hjm] at hun
      · rw [Array.setIfInBounds_comm _ _ hji, ← putF_comm h3]
        exact HK

/-- behind the effect -/
theorem anyC_after {T : Nat} {U : Fr} {ob ob' : Obs} {E : Array Bool → Fa → Prop} {K : Fa → Obs → Prop} {fuel2 : Nat}
    (hpost : ∀ j oj, ops[j]? = some oj → (∃ e ∈ oj.after.toList, Region.binds .any e = true ∧ e.on = T) → ∀ p, p < T → Bef ops j p = true)
    (hE : ∀ listed φ, Closed ops (listed.setIfInBounds T true) → (listed.setIfInBounds T true).getD T false = true → E listed φ → AnyT P nt ops T K fuel2 (listed.setIfInBounds T true) φ ob') :
    ∀ (fuel : Nat) (listed : Array Bool) (φ : Fa), Closed ops listed → T ∈ Region.ready .any ops listed → AnyC P nt ops T U ob ob' E fuel listed φ →
      AnyT P nt ops T K (fuel2 + fuel) (listed.setIfInBounds T true) φ ob'
  | 0, listed, φ, hc, hT, h => by
    have hTl : (listed.setIfInBounds T true).getD T false = true := by
      have := (mem_ready.1 hT).1
      have hlt : T < listed.size := by
        rcases Nat.lt_or_ge T listed.size with h' | h'
        · exact h'
        · simp only [Array.getD_eq_getD_getElem?] at this
          rw [Array.getElem?_eq_none h'] at this; simp at this
      simp [Array.getD_eq_getD_getElem?, hlt]
    exact hE _ φ (closed_set hc hT) hTl h.2.2.2
  | fuel + 1, listed, φ, hc, hT, h => by
    obtain ⟨p, hp, hpr⟩ := h.2.1
    have hc2 := closed_set hc hT
    have hpT : p ≠ T := by omega
    refine ⟨fun he => (by have := ready_mono hpr hpT; rw [he] at this; cases this), fun i hi => ?_⟩
    have hiT : i ≠ T := fun e => by
      subst e
      have := ready_unlisted hi
      have hlt : i < listed.size := by
        have := (mem_ready.1 hT).1
        rcases Nat.lt_or_ge i listed.size with h' | h'
        · exact h'
        · simp only [Array.getD_eq_getD_getElem?] at this
          rw [Array.getElem?_eq_none h'] at this; simp at this
      simp [Array.getD_eq_getD_getElem?, hlt] at this
    have hir : i ∈ Region.ready .any ops listed := by
      obtain ⟨hiun, oi, hoi, hall⟩ := mem_ready.1 hi
      refine mem_ready.2 ⟨by rwa [getD_set_ne true (Ne.symm hiT)] at hiun, oi, hoi, fun e he hb => ?_⟩
      have h1 := hall e he hb
      by_cases heT : e.on = T
      · exfalso
        have hb2 := hpost i oi hoi ⟨e, Array.mem_toList_iff.2 he, hb, heT⟩ p hp
        have := bef_listed hc2 i hb2 (fun o ho e he hbd => by rw [hoi] at ho; cases ho; exact hall e (Array.mem_toList_iff.1 he) hbd)
        have hpu := ready_unlisted (ready_mono hpr hpT)
        rw [hpu] at this; cases this
      · simp only [Array.getD_eq_getD_getElem?] at h1 ⊢
        rwa [Array.getElem?_setIfInBounds_ne (Ne.symm heT)] at h1
    obtain ⟨o, s, d, ho, hd, ht, _, hy2, HK⟩ := h.2.2 i hir hiT
    refine ⟨o, ho, ?_⟩
    have htn : tn T i o = false := by unfold tn; rw [beq_no hiT, ht]; rfl
    rw [htn]
    refine ⟨s, d, hd, hy2, ?_⟩
    rw [Array.setIfInBounds_comm _ _ (Ne.symm hiT)]
    exact anyC_after hpost hE fuel _ _ (closed_set hc hir) (ready_mono hT (Ne.symm hiT)) HK

/-- before the effect -/
theorem anyC_before {T : Nat} {U : Fr} {ob ob' : Obs} {E : Array Bool → Fa → Prop} {K : Fa → Obs → Prop} {fuel2 : Nat} {oT : Oper} (hoT : ops[T]? = some oT) (hA : EffU P oT U ob ob') (hg : oT.guard = none) (hd : oT.dst = none)
    (hpost : ∀ j oj, ops[j]? = some oj → (∃ e ∈ oj.after.toList, Region.binds .any e = true ∧ e.on = T) → ∀ p, p < T → Bef ops j p = true)
    (hE : ∀ listed φ, Closed ops (listed.setIfInBounds T true) → (listed.setIfInBounds T true).getD T false = true → E listed φ → AnyT P nt ops T K fuel2 (listed.setIfInBounds T true) φ ob') :
    ∀ (fuel : Nat) (listed : Array Bool) (φ : Fa), Closed ops listed → AnyC P nt ops T U ob ob' E fuel listed φ → AnyT P nt ops T K (fuel2 + fuel + 1) listed φ ob := by
  have hTn : tn T T oT = true := by unfold tn; rw [Nat.beq_refl]; rfl
  have hstep : ∀ (fuel : Nat) (listed : Array Bool) (φ : Fa), Closed ops listed → T ∈ Region.ready .any ops listed → AnyC P nt ops T U ob ob' E fuel listed φ → StepT P nt ops T T φ ob (AnyT P nt ops T K (fuel2 + fuel) (listed.setIfInBounds T true)) := by
    intro fuel listed φ hc hT h
    refine ⟨oT, hoT, ?_⟩
    rw [hTn]
    have h1 : StepE P nt ops oT φ ob (fun φ' ob'' => φ' = φ ∧ ob'' = ob') := effU_step hA hg hd (h.told hT)
    refine ⟨h1.1, fun S G a w hn hs => does_imp (h1.2 S G a w hn hs) ?_⟩
    rintro v w' ⟨φ', ob', G', ⟨rfl, rfl⟩, hs'⟩
    exact ⟨_, _, G', anyC_after hpost hE fuel listed _ hc hT h, hs'⟩
  intro fuel
  induction fuel with
  | zero =>
    intro listed φ hc h
    refine ⟨fun he => (by have := h.2.1; rw [he] at this; cases this), fun i hi => ?_⟩
    have hiT := h.2.2.1 i hi
    subst hiT
    exact hstep 0 listed φ hc hi h
  | succ fuel ih =>
    intro listed φ hc h
    obtain ⟨p, hp, hpr⟩ := h.2.1
    refine ⟨fun he => (by rw [he] at hpr; cases hpr), fun i hi => ?_⟩
    by_cases hiT : i = T
    · subst hiT; exact hstep (fuel + 1) listed φ hc hi h
    · obtain ⟨o, s, d, ho, hd, ht, hy, _, HK⟩ := h.2.2 i hi hiT
      refine ⟨o, ho, ?_⟩
      have htn : tn T i o = false := by unfold tn; rw [beq_no hiT, ht]; rfl
      rw [htn]
      exact ⟨s, d, hd, hy, ih _ _ (closed_set hc hi) HK⟩

/-- the walk in the order of the text, before and behind -/
def LexC (P : Program) (nt : Nat) (ops : Array Oper) (U : Fr) (ob ob' : Obs) (E : Fr → Prop) : List Oper → Fr → Prop
  | [], fr => FrIn fr U ∧ E fr
  | o :: l, fr => ∃ s d, o.dst = some d ∧ YieldsN P nt ops o (getF fr) ob s ∧ YieldsN P nt ops o (getF fr) ob' s ∧ LexC P nt ops U ob ob' E l ((d, s) :: fr)

def lexOkC (ops : Array Oper) (T : Nat) (ks : List Nat) : Nat → Nat → Array Bool → Bool
  | 0, _, listed => (Region.ready .any ops listed).contains T && (Region.ready .any ops listed).all fun j => Nat.beq j T
  | fuel + 1, k, listed =>
    (match ops[k]? with
     | some o => (Region.ready .any ops listed).contains k && !(turns o.op) && Nat.blt k T && (Bef ops T k || match o.dst with | some d => !(ks.contains d) | none => false) &&
        ((List.range ops.size).all fun j => Nat.beq j k || Nat.beq j T || listed.getD j true || match ops[j]? with
          | some oj => Bef ops j k || (!(turns oj.op) && apartB ops o oj)
          | none => true)
     | none => false) && lexOkC ops T ks fuel (k + 1) (listed.setIfInBounds k true)

theorem getF_keys {U : Fr} {d : Nat} (h : (U.map (·.1)).contains d = false) : getF U d = none := by
  induction U with
  | nil => rfl
  | cons x r ih =>
    obtain ⟨i, s⟩ := x
    simp only [List.map_cons, List.contains_cons, Bool.or_eq_false_iff] at h
    have hne : i ≠ d := fun e => by subst e; simp at h
    rw [getF_cons_other hne]
    exact ih h.2

theorem anyC_lex {T : Nat} {U : Fr} {ob ob' : Obs} {E : Fr → Prop} {L : Array Bool} {oT : Oper} (hoT : ops[T]? = some oT) : ∀ (l : List Oper) (k : Nat) (listed : Array Bool) (fr : Fr), (∀ j, j < l.length → l[j]? = ops[k + j]?) → Closed ops listed → lexOkC ops T (U.map (·.1)) l.length k listed = true → listN l.length k listed = L →
    LexC P nt ops U ob ob' E l fr → AnyC P nt ops T U ob ob' (fun L' φ => L' = L ∧ ∃ fr', φ = getF fr' ∧ E fr') l.length listed (getF fr)
  | [], k, listed, fr, hl, hc, hB, hL, h => by
    simp only [List.length_nil, lexOkC, Bool.and_eq_true] at hB
    exact ⟨fun _ t s ht => FrIn.spec h.1 t s ht, by simpa using hB.1, fun j hj => Nat.eq_of_beq_eq_true (List.all_eq_true.1 hB.2 j hj), hL, fr, rfl, h.2⟩
  | o :: l, k, listed, fr, hl, hc, hB, hL, h => by
    have h0 : ops[k]? = some o := by simpa using (hl 0 (by simp)).symm
    simp only [List.length_cons, lexOkC, h0, Bool.and_eq_true, Bool.not_eq_true'] at hB
    obtain ⟨⟨⟨⟨⟨hr, hnt⟩, hkT⟩, hbu⟩, hf⟩, hB'⟩ := hB
    have hr' : k ∈ Region.ready .any ops listed := by simpa using hr
    have hl' : ∀ j, j < l.length → l[j]? = ops[k + 1 + j]? := fun j hj => by have := hl (j + 1) (by simpa using hj); simpa [Nat.add_assoc, Nat.add_comm 1 j] using this
    obtain ⟨s, d, hd, hy, hy2, hL2⟩ := h
    have hU : Bef ops T k = true ∨ getF U d = none := by
      rw [hd] at hbu
      rcases Bool.or_eq_true _ _ ▸ hbu with hb | hb
      · exact .inl hb
      · exact .inr (getF_keys (by simpa using hb))
    refine anyC_first h0 hoT hnt hd (by simpa using hkT) hU l.length listed _ hc ?_ hr' hy hy2 ?_
    · intro j oj hoj hjk hjT hun
      have hlt : j < ops.size := (Array.getElem?_eq_some_iff.1 hoj).1
      have := List.all_eq_true.1 hf j (List.mem_range.2 hlt)
      rw [beq_no hjk, beq_no hjT, hun, hoj] at this
      simp only [Bool.false_or, Bool.or_eq_true, Bool.and_eq_true, Bool.not_eq_true'] at this
      exact this
    · rw [← getF_cons_putF]
      exact anyC_lex hoT l (k + 1) _ _ hl' (closed_set hc hr') hB' hL hL2

def storeOk (nt : Nat) (l : List Oper) (n : Nat) (ks : List Nat) : Bool :=
  let ops := l.toArray
  let L0 := Array.replicate l.length false
  let L := listN n 0 L0
  lexOkC ops n ks n 0 L0 && dstsIn nt ops && Nat.ble (n + 1) l.length && Nat.beq (l.take n).length n &&
    ((List.range ops.size).all fun j => match ops[j]? with | some oj => !(oj.after.toList.any fun e => Region.binds .any e && Nat.beq e.on n) || (List.range n).all fun p => Bef ops j p | none => true) &&
    lexOk ops (l.drop (n + 1)).length (n + 1) (L.setIfInBounds n true)

theorem c_region_store {id : Nat} {l : List Oper} (n : Nat) {oT : Oper} (U : Fr) {fr : Fr} {ob ob' : Obs} {Q : Post} (hm : P.follows .mixedOrders = true) (hB : storeOk nt l n (U.map (·.1)) = true) (hc : l[n]? = some oT) (hA : EffU P oT U ob ob') (hg : oT.guard = none) (hdT : oT.dst = none)
    (h : LexC P nt l.toArray U ob ob' (fun fr => LexD P nt l.toArray (fun fr ob => Q .normal fr ob) (l.drop (n + 1)) fr ob') (l.take n) fr) : WpC P nt (.region id l.toArray true) fr ob Q := by
  intro S G a w hn hs
  unfold storeOk at hB
  simp only [Bool.and_eq_true] at hB
  obtain ⟨⟨⟨⟨⟨b1, b2⟩, b3⟩, b4⟩, b6⟩, b8⟩ := hB
  have hlen : n + 1 ≤ l.length := Nat.le_of_ble_eq_true b3
  have htl : (l.take n).length = n := Nat.eq_of_beq_eq_true b4
  have hdst : ∀ (j t : Nat), (l.toArray[j]?).bind (fun o => o.dst) = some t → t < nt := by
    intro j t ht
    cases ho : l.toArray[j]? with
    | none => simp [ho] at ht
    | some o =>
      simp [ho] at ht
      have hmem : o ∈ l := by
        rw [List.getElem?_toArray] at ho
        exact List.mem_of_getElem? ho
      have := List.all_eq_true.1 b2 o (by simpa using hmem)
      rw [ht] at this
      simpa using this
  refine wp_region_any hm ?_
  have hcl : Closed l.toArray (Array.replicate l.length false) := by
    intro j o ho hl
    simp only [Array.getD_eq_getD_getElem?] at hl
    rcases Nat.lt_or_ge j l.length with h' | h'
    · simp [h'] at hl
    · simp [h'] at hl
  have hoc : l.toArray[n]? = some oT := by rw [List.getElem?_toArray]; exact hc
  have hpost : ∀ j oj, l.toArray[j]? = some oj → (∃ e ∈ oj.after.toList, Region.binds .any e = true ∧ e.on = n) → ∀ p, p < n → Bef l.toArray j p = true := by
    rintro j oj hoj ⟨e, he, hb, hon⟩ p hp
    have hlt : j < l.toArray.size := (Array.getElem?_eq_some_iff.1 hoj).1
    have h1 := List.all_eq_true.1 b6 j (List.mem_range.2 hlt)
    rw [hoj] at h1
    have h1 : ((!(oj.after.toList.any fun e => Region.binds .any e && Nat.beq e.on n)) || (List.range n).all fun p => Bef l.toArray j p) = true := h1
    have h2 : (oj.after.toList.any fun e => Region.binds .any e && Nat.beq e.on n) = true := List.any_eq_true.2 ⟨e, he, by rw [hb, hon, Nat.beq_refl]; rfl⟩
    rw [h2] at h1
    simp only [Bool.not_true, Bool.false_or] at h1
    exact List.all_eq_true.1 h1 p (List.mem_range.2 hp)
  have key : AnyT P nt l.toArray n (fun φ ob => ∃ fr', φ = getF fr' ∧ Q .normal fr' ob) ((l.drop (n + 1)).length + (l.take n).length + 1) (Array.replicate l.length false) (getF fr) ob := by
    refine anyC_before hoc hA hg hdT hpost ?_ (l.take n).length _ _ hcl (anyC_lex hoc (L := listN n 0 (Array.replicate l.length false)) (l.take n) 0 _ fr (fun j hj => ?_) hcl (by rw [htl]; exact b1) (by rw [htl]) h)
    · rintro listed φ hcl2 hTl ⟨rfl, fr', rfl, hL⟩
      exact anyT_of _ _ _ _ hTl (anyD_lex (l.drop (n + 1)) (n + 1) _ _ _ (fun i => by rw [List.getElem?_drop, List.getElem?_toArray]) hcl2 b8 hL)
    · rw [Nat.zero_add, List.getElem?_toArray, List.getElem?_take_of_lt (by rw [htl] at hj; exact hj)]
  have hx : Below w.heap.size w { w with drawn := w.drawn + 1 } := ⟨rfl, rfl, rfl, Nat.le_refl _, fun _ _ => rfl⟩
  have hs' : SimF P S (getF fr) ob G a { w with drawn := w.drawn + 1 } := (simF_iff.2 hs).ext hx
  have := anyT_sound (Q := PostOf P S Q) hn hdst (fun φ ob' G' a' w' ⟨fr', he, hq⟩ hsf => ⟨fr', ob', G', hq, simF_iff.1 (he ▸ hsf)⟩) _ _ _ ob G a _ key hs'
  have hfuel : (l.drop (n + 1)).length + (l.take n).length + 1 = l.length := by rw [List.length_drop, htl]; omega
  rw [hfuel] at this
  simpa using this

theorem s_nil {U : Fr} {ob ob' : Obs} {E : Fr → Prop} {fr : Fr} (hf : FrIn fr U) (h : E fr) : LexC P nt ops U ob ob' E [] fr := ⟨hf, h⟩
theorem s_neu {d : Nat} {U : Fr} {ob ob' : Obs} {E : Fr → Prop} {fr : Fr} {rest : List Oper} {op : Op} {ty : TypeId} {pos : String} {af : Array Edge} {s : SV} (h : Neu P ⟨some d, op, ty, pos, af, none⟩ (keepF fr (usesOp op)) ob (fun s' => s' = s)) (hd : Nat.blt d nt = true)
    (h2 : Neu P ⟨some d, op, ty, pos, af, none⟩ (keepF fr (usesOp op)) ob' (fun s' => s' = s)) (kk : LexC P nt ops U ob ob' E rest ((d, s) :: fr)) : LexC P nt ops U ob ob' E (⟨some d, op, ty, pos, af, none⟩ :: rest) fr :=
  ⟨s, d, rfl, yields_neu h hd, yields_neu h2 hd, kk⟩

theorem n_pick_t {fr : Fr} {ob : Obs} {dst : Option Tmp} {ty : TypeId} {pos : String} {af : Array Edge} {gd : Option (Nat × Bool)} {c x y : Operand} {b p : Bool} (hc : opv fr c = some (sBool b)) (hb : b = true) (hx : opv fr x = some (sBool p)) :
    Neu P ⟨dst, .pick c x y, ty, pos, af, gd⟩ fr ob (fun s' => s' = sBool p) :=
  neu_same fun S G a w h => by
    have := opv_val h hc
    subst hb
    exact ⟨.bool p, by simp [execOp, this, asBool, opv_val h hx], rfl, rfl⟩
theorem n_pick_f {fr : Fr} {ob : Obs} {dst : Option Tmp} {ty : TypeId} {pos : String} {af : Array Edge} {gd : Option (Nat × Bool)} {c x y : Operand} {b p : Bool} (hc : opv fr c = some (sBool b)) (hb : b = false) (hx : opv fr y = some (sBool p)) :
    Neu P ⟨dst, .pick c x y, ty, pos, af, gd⟩ fr ob (fun s' => s' = sBool p) :=
  neu_same fun S G a w h => by
    have := opv_val h hc
    subst hb
    exact ⟨.bool p, by simp [execOp, this, asBool, opv_val h hx], rfl, rfl⟩
end
end Go.AL

/- The abstract logic, part 32: a struct variable and two more results. -/
namespace Go.AL
open Go Go.RowKit

theorem retc3 {P : Program} {fn : Func} {fr : Fr} {ob : Obs} {t t' t'' : Tmp} {k n : Nat} {tt : TypeId} {ts : List TC} {cs : List Cell} {s' s'' : S1} {p' p'' : PV} [TyAgg P tt n] (hr : fn.results = #[.cell t tt, .tmp t', .tmp t'']) (ht : getT fr t = some (.s (.one (.ref k 0)))) (hk : getO ob k = some (.box ts)) (hn : ts.length = n) (hp : pureL ts = some cs)
    (ht' : getT fr t' = some (.s s')) (hp' : s'.pv? = some p') (ht'' : getT fr t'' = some (.s s'')) (hp'' : s''.pv? = some p'') : RetOk P fn fr ob [.agg cs, p', p''] :=
  fun S G a w h => by
    obtain ⟨b, vs, h1, h2, h3⟩ := box_pv h (tt := tt) ht hk hn hp
    rw [Array.getD_eq_getD_getElem?] at h1
    exact ⟨_, by simp [results, hr, h1, asAddr, h2], [_, _, _], rfl, h3, slot_pv h ht' hp', slot_pv h ht'' hp'', trivial⟩
end Go.AL
