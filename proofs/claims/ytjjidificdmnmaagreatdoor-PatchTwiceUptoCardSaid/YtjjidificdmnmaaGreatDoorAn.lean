/- The abstract logic, its third part. No project text. -/
import Derived.Test.YtjjidificdmnmaaGreatDoorAm
import Derived.Laws.StructEq
attribute [local semireducible] Go.AL.Neu Go.AL.Eff Go.AL.EffV Go.AL.WpL Go.AL.WpC Go.AL.FnOk Go.AL.LexD Go.AL.Sees Go.AL.RetOk Go.AL.FnIo Go.AL.Met Go.AL.RetS
/- The abstract logic, part 31: a drawn region with one store into a box; pure operations before it in the text may come behind it. -/
namespace Go.AL
open Go Go.RowKit
set_option linter.unusedVariables false

section
variable {P : Program} {nt : Nat} {ops : Array Oper}

/-- an effect that leaves all slots as they are -/
def EffU (P : Program) (o : Oper) (U : Fr) (ob ob' : Obs) : Prop :=
  ∀ S G a w, Sim P S U ob G a w → Does P o a w (fun _ w' => ∃ G', ∀ fr, Sim P S fr ob G a w → Sim P S fr ob' G' a w')

theorem u_store_ref {t : TypeId} {x y : Operand} {k o n : Nat} {ts : List TC} {s : S1} {fr : Fr} {ob : Obs} {ty : TypeId} {pos : String} {af : Array Edge} {gd : Option (Nat × Bool)} (hsz : (P.info? t).map (·.size) = some n) (hx : opv fr x = some (.s (.one (.ref k o)))) (hk : getO ob k = some (.box ts)) (hy : opv fr y = some (.s s)) (hc : constOk y = true)
    (hn : s.cells.length = n) (hfit : Nat.ble (o + n) ts.length = true) : EffU P ⟨none, .store t x y, ty, pos, af, gd⟩ fr ob ((k, .box (setTs ts o s.cells)) :: ob) := by
  intro S G a w h
  obtain ⟨b, hg, hu⟩ := opv_one h hx
  obtain ⟨b', vs, tt, hg', hh, ha⟩ := h.box hk
  rw [hg] at hg'; cases hg'
  have hr : (SV.s s).rep (rdOf (Mut S ob G) w) G (a.eval y) := opv_rep h hy hc
  have hcells := S1.rep_cells hr
  have hlen : (a.eval y).cells.size = n := by rw [← hn, hcells.length]; simp
  have hle : o + n ≤ ts.length := by simpa using hfit
  have hone : ∀ u ∈ (a.eval y).cells.toList, u.oneCell' = true := by
    intro u hu
    have : ∀ (ts : List TC) (vs : List Value), All2 (TC.rep (rdOf (Mut S ob G) w) G) ts vs → ∀ u ∈ vs, u.oneCell' = true := by
      intro ts
      induction ts with
      | nil => intro vs h u hu; cases vs with | nil => cases hu | cons => exact h.elim
      | cons t ts ih =>
        intro vs h u hu
        cases vs with
        | nil => exact h.elim
        | cons v vs =>
          rcases List.mem_cons.1 hu with rfl | hu
          · exact TC.rep_one h.1
          · exact ih vs h.2 u hu
    exact this _ _ hcells u hu
  obtain ⟨w', hrun, hos, htape, hout, hsize, hother, hheap⟩ := run_storeVar (P := P) (t := t) (w := w) (b := b) (o := o) (v := a.eval y) (by rw [hsz, hlen]) hh hone (by rw [hlen, ← ha.length]; exact hle)
  unfold Does
  have he : (execOp a.eval ⟨none, .store t x y, ty, pos, af, gd⟩).run P w = .ok .skip w' := by
    simp [execOp, hu, Instr.storeAt, Instr.sureAddr, hrun]
  rw [he]
  have hbk : blk (G k) = some b := by rw [hg]; rfl
  refine ⟨G, fun fr2 h2 => h2.write hk hbk (fun i => ⟨hbk, trivial⟩) (fun i => ⟨hbk, trivial⟩) hos htape hout (Nat.le_of_eq hsize.symm) (fun j _ => hother j) ?_⟩
  intro rd hrd
  refine ⟨b, _, tt, hg, hheap, ?_⟩
  have hd : vs.drop (o + (a.eval y).cells.size) = vs.drop (o + s.cells.length) := by rw [hlen, hn]
  unfold setTs
  rw [hd]
  exact (((ha.take o).append hcells).append (ha.drop _)).mono fun _ _ => TC.rep_mono hrd

/-- these facts hold -/
def Told (U : Fr) (φ : Fa) : Prop := ∀ t s, getF U t = some s → φ t = some s
theorem told_unput {U : Fr} {φ : Fa} {d : Nat} {s : SV} (hd : getF U d = none) (h : Told U (putF φ d s)) : Told U φ := fun t s' ht => by
  have h1 := h t s' ht
  unfold putF at h1
  by_cases he : t = d
  · subst he; rw [hd] at ht; cases ht
  · rwa [if_neg he] at h1

theorem effU_step {o : Oper} {U : Fr} {ob ob' : Obs} {φ : Fa} (h : EffU P o U ob ob') (hg : o.guard = none) (hd : o.dst = none) (hφ : Told U φ) : StepE P nt ops o φ ob (fun φ' ob'' => φ' = φ ∧ ob'' = ob') := by
  refine ⟨hg, fun S G a w hn hs => does_imp (h S G a w (hs.sub hφ)) ?_⟩
  rintro v w' ⟨G', hG⟩
  refine ⟨φ, ob', G', ⟨rfl, rfl⟩, ?_⟩
  rw [hd]
  refine ⟨hG [] hs.1, fun i s hi => ?_⟩
  have h1 : Sim P S [(i, s)] ob G a w := hs.sub fun j t hj => by
    by_cases he : i = j
    · subst he; rw [getF_cons_same] at hj; cases hj; exact hi
    · rw [getF_cons_other he] at hj; simp [getF] at hj
  exact (hG _ h1).facts i s (by rw [getF_cons_same])

/-- pure operations, told before and behind the effect T -/
def AnyC (P : Program) (nt : Nat) (ops : Array Oper) (T : Nat) (U : Fr) (ob ob' : Obs) (E : Array Bool → Fa → Prop) : Nat → Array Bool → Fa → Prop
  | 0, listed, φ => (T ∈ Region.ready .any ops listed → Told U φ) ∧ T ∈ Region.ready .any ops listed ∧ (∀ j ∈ Region.ready .any ops listed, j = T) ∧ E listed φ
  | fuel + 1, listed, φ => (T ∈ Region.ready .any ops listed → Told U φ) ∧ (∃ p, p < T ∧ p ∈ Region.ready .any ops listed) ∧ ∀ i ∈ Region.ready .any ops listed, i ≠ T →
      ∃ o s d, ops[i]? = some o ∧ o.dst = some d ∧ turns o.op = false ∧ YieldsN P nt ops o φ ob s ∧ YieldsN P nt ops o φ ob' s ∧ AnyC P nt ops T U ob ob' E fuel (listed.setIfInBounds i true) (putF φ d s)

theorem AnyC.told {T : Nat} {U : Fr} {ob ob' : Obs} {E : Array Bool → Fa → Prop} {fuel : Nat} {listed : Array Bool} {φ : Fa} (h : AnyC P nt ops T U ob ob' E fuel listed φ) : T ∈ Region.ready .any ops listed → Told U φ := by
  cases fuel <;> exact h.1

theorem anyC_first {T : Nat} {U : Fr} {ob ob' : Obs} {E : Array Bool → Fa → Prop} {i d : Nat} {oi oT : Oper} {s : SV} (hi : ops[i]? = some oi) (hoT : ops[T]? = some oT) (hti : turns oi.op = false) (hdi : oi.dst = some d) (hiT : i < T)
    (hU : Bef ops T i = true ∨ getF U d = none) :
    ∀ (fuel : Nat) (listed : Array Bool) (φ : Fa), Closed ops listed →
      (∀ j oj, ops[j]? = some oj → j ≠ i → j ≠ T → listed.getD j true = false → Bef ops j i = true ∨ (turns oj.op = false ∧ apartB ops oi oj = true)) →
      i ∈ Region.ready .any ops listed → YieldsN P nt ops oi φ ob s → YieldsN P nt ops oi φ ob' s →
      AnyC P nt ops T U ob ob' E fuel (listed.setIfInBounds i true) (putF φ d s) → AnyC P nt ops T U ob ob' E (fuel + 1) listed φ := by
  have hto : ∀ (fuel : Nat) (listed : Array Bool) (φ : Fa), Closed ops listed → i ∈ Region.ready .any ops listed → AnyC P nt ops T U ob ob' E fuel (listed.setIfInBounds i true) (putF φ d s) → T ∈ Region.ready .any ops listed → Told U φ := by
    intro fuel listed φ hc hr H hT
    rcases hU with hb | hn
    · obtain ⟨hTun, oj, hoj, hall⟩ := mem_ready.1 hT
      have := bef_listed hc T hb (fun o ho e he hbd => by rw [hoj] at ho; cases ho; exact hall e (Array.mem_toList_iff.1 he) hbd)
      have hiun := ready_unlisted hr
      rw [hiun] at this; cases this
    · exact told_unput hn (H.told (ready_mono hT (by omega)))
  intro fuel
  induction fuel with
  | zero =>
    intro listed φ hc hN hr hy hy2 H
    refine ⟨hto 0 listed φ hc hr H, ⟨i, hiT, hr⟩, fun j hj hjT => ?_⟩
    by_cases hji : j = i
    · subst hji; exact ⟨oi, s, d, hi, hdi, hti, hy, hy2, H⟩
    · exact absurd (H.2.2.1 j (ready_mono hj hji)) hjT
  | succ fuel ih =>
    intro listed φ hc hN hr hy hy2 H
    refine ⟨hto (fuel + 1) listed φ hc hr H, ⟨i, hiT, hr⟩, fun j hj hjT => ?_⟩
    by_cases hji : j = i
    · subst hji; exact ⟨oi, s, d, hi, hdi, hti, hy, hy2, H⟩
    · obtain ⟨hjun, oj, hoj, hall⟩ := mem_ready.1 hj
      have hiun := ready_unlisted hr
      obtain ⟨htj, hap⟩ : turns oj.op = false ∧ apartB ops oi oj = true := by
        rcases hN j oj hoj hji hjT hjun with hb | h
        · have := bef_listed hc j hb (fun o ho e he hbd => by rw [hoj] at ho; cases ho; exact hall e (Array.mem_toList_iff.1 he) hbd)
          rw [hiun] at this; cases this
        · exact h
      obtain ⟨o', sj, dj, ho', hdj, _, hyj, hyj2, HK⟩ := H.2.2 j (ready_mono hj hji) hjT
      rw [hoj] at ho'; cases ho'
      simp only [apartB, hdi, hdj, Bool.and_eq_true, Bool.not_eq_true', List.contains_eq_mem, decide_eq_false_iff_not] at hap
      obtain ⟨⟨h1, h2⟩, h3⟩ := hap
      have h3 : d ≠ dj := fun e => by subst e; simp at h3
      refine ⟨oj, sj, dj, hoj, hdj, htj, hyj.unput h1, hyj2.unput h1, ?_⟩
      refine ih (listed.setIfInBounds j true) _ (closed_set hc hj) ?_ (ready_mono hr (Ne.symm hji)) (hy.put h2) (hy2.put h2) ?_
      · intro m om hm hmi hmT hun
        refine hN m om hm hmi hmT ?_
        by_cases hjm : j = m
        · subst hjm; exact hjun
        · rwa [getD_set_ne true hjm] at hun
      · rw [Array.setIfInBounds_comm _ _ hji, ← putF_comm h3]
        exact HK

/-- behind the effect -/
theorem anyC_after {T : Nat} {U : Fr} {ob ob' : Obs} {E : Array Bool → Fa → Prop} {K : Fa → Obs → Prop} {fuel2 : Nat}
    (hpost : ∀ j oj, ops[j]? = some oj → (∃ e ∈ oj.after.toList, Region.binds .any e = true ∧ e.on = T) → ∀ p, p < T → Bef ops j p = true)
    (hE : ∀ listed φ, Closed ops (listed.setIfInBounds T true) → (listed.setIfInBounds T true).getD T false = true → E listed φ → AnyT P nt ops T K fuel2 (listed.setIfInBounds T true) φ ob') :
    ∀ (fuel : Nat) (listed : Array Bool) (φ : Fa), Closed ops listed → T ∈ Region.ready .any ops listed → AnyC P nt ops T U ob ob' E fuel listed φ →
      AnyT P nt ops T K (fuel2 + fuel) (listed.setIfInBounds T true) φ ob'
  | 0, listed, φ, hc, hT, h => by
    have hTl : (listed.setIfInBounds T true).getD T false = true := by
      have := (mem_ready.1 hT).1
      have hlt : T < listed.size := by
        rcases Nat.lt_or_ge T listed.size with h' | h'
        · exact h'
        · simp only [Array.getD_eq_getD_getElem?] at this
          rw [Array.getElem?_eq_none h'] at this; simp at this
      simp [Array.getD_eq_getD_getElem?, hlt]
    exact hE _ φ (closed_set hc hT) hTl h.2.2.2
  | fuel + 1, listed, φ, hc, hT, h => by
    obtain ⟨p, hp, hpr⟩ := h.2.1
    have hc2 := closed_set hc hT
    have hpT : p ≠ T := by omega
    refine ⟨fun he => (by have := ready_mono hpr hpT; rw [he] at this; cases this), fun i hi => ?_⟩
    have hiT : i ≠ T := fun e => by
      subst e
      have := ready_unlisted hi
      have hlt : i < listed.size := by
        have := (mem_ready.1 hT).1
        rcases Nat.lt_or_ge i listed.size with h' | h'
        · exact h'
        · simp only [Array.getD_eq_getD_getElem?] at this
          rw [Array.getElem?_eq_none h'] at this; simp at this
      simp [Array.getD_eq_getD_getElem?, hlt] at this
    have hir : i ∈ Region.ready .any ops listed := by
      obtain ⟨hiun, oi, hoi, hall⟩ := mem_ready.1 hi
      refine mem_ready.2 ⟨by rwa [getD_set_ne true (Ne.symm hiT)] at hiun, oi, hoi, fun e he hb => ?_⟩
      have h1 := hall e he hb
      by_cases heT : e.on = T
      · exfalso
        have hb2 := hpost i oi hoi ⟨e, Array.mem_toList_iff.2 he, hb, heT⟩ p hp
        have := bef_listed hc2 i hb2 (fun o ho e he hbd => by rw [hoi] at ho; cases ho; exact hall e (Array.mem_toList_iff.1 he) hbd)
        have hpu := ready_unlisted (ready_mono hpr hpT)
        rw [hpu] at this; cases this
      · simp only [Array.getD_eq_getD_getElem?] at h1 ⊢
        rwa [Array.getElem?_setIfInBounds_ne (Ne.symm heT)] at h1
    obtain ⟨o, s, d, ho, hd, ht, _, hy2, HK⟩ := h.2.2 i hir hiT
    refine ⟨o, ho, ?_⟩
    have htn : tn T i o = false := by unfold tn; rw [beq_no hiT, ht]; rfl
    rw [htn]
    refine ⟨s, d, hd, hy2, ?_⟩
    rw [Array.setIfInBounds_comm _ _ (Ne.symm hiT)]
    exact anyC_after hpost hE fuel _ _ (closed_set hc hir) (ready_mono hT (Ne.symm hiT)) HK

/-- before the effect -/
theorem anyC_before {T : Nat} {U : Fr} {ob ob' : Obs} {E : Array Bool → Fa → Prop} {K : Fa → Obs → Prop} {fuel2 : Nat} {oT : Oper} (hoT : ops[T]? = some oT) (hA : EffU P oT U ob ob') (hg : oT.guard = none) (hd : oT.dst = none)
    (hpost : ∀ j oj, ops[j]? = some oj → (∃ e ∈ oj.after.toList, Region.binds .any e = true ∧ e.on = T) → ∀ p, p < T → Bef ops j p = true)
    (hE : ∀ listed φ, Closed ops (listed.setIfInBounds T true) → (listed.setIfInBounds T true).getD T false = true → E listed φ → AnyT P nt ops T K fuel2 (listed.setIfInBounds T true) φ ob') :
    ∀ (fuel : Nat) (listed : Array Bool) (φ : Fa), Closed ops listed → AnyC P nt ops T U ob ob' E fuel listed φ → AnyT P nt ops T K (fuel2 + fuel + 1) listed φ ob := by
  have hTn : tn T T oT = true := by unfold tn; rw [Nat.beq_refl]; rfl
  have hstep : ∀ (fuel : Nat) (listed : Array Bool) (φ : Fa), Closed ops listed → T ∈ Region.ready .any ops listed → AnyC P nt ops T U ob ob' E fuel listed φ → StepT P nt ops T T φ ob (AnyT P nt ops T K (fuel2 + fuel) (listed.setIfInBounds T true)) := by
    intro fuel listed φ hc hT h
    refine ⟨oT, hoT, ?_⟩
    rw [hTn]
    have h1 : StepE P nt ops oT φ ob (fun φ' ob'' => φ' = φ ∧ ob'' = ob') := effU_step hA hg hd (h.told hT)
    refine ⟨h1.1, fun S G a w hn hs => does_imp (h1.2 S G a w hn hs) ?_⟩
    rintro v w' ⟨φ', ob', G', ⟨rfl, rfl⟩, hs'⟩
    exact ⟨_, _, G', anyC_after hpost hE fuel listed _ hc hT h, hs'⟩
  intro fuel
  induction fuel with
  | zero =>
    intro listed φ hc h
    refine ⟨fun he => (by have := h.2.1; rw [he] at this; cases this), fun i hi => ?_⟩
    have hiT := h.2.2.1 i hi
    subst hiT
    exact hstep 0 listed φ hc hi h
  | succ fuel ih =>
    intro listed φ hc h
    obtain ⟨p, hp, hpr⟩ := h.2.1
    refine ⟨fun he => (by rw [he] at hpr; cases hpr), fun i hi => ?_⟩
    by_cases hiT : i = T
    · subst hiT; exact hstep (fuel + 1) listed φ hc hi h
    · obtain ⟨o, s, d, ho, hd, ht, hy, _, HK⟩ := h.2.2 i hi hiT
      refine ⟨o, ho, ?_⟩
      have htn : tn T i o = false := by unfold tn; rw [beq_no hiT, ht]; rfl
      rw [htn]
      exact ⟨s, d, hd, hy, ih _ _ (closed_set hc hi) HK⟩

/-- the walk in the order of the text, before and behind -/
def LexC (P : Program) (nt : Nat) (ops : Array Oper) (U : Fr) (ob ob' : Obs) (E : Fr → Prop) : List Oper → Fr → Prop
  | [], fr => FrIn fr U ∧ E fr
  | o :: l, fr => ∃ s d, o.dst = some d ∧ YieldsN P nt ops o (getF fr) ob s ∧ YieldsN P nt ops o (getF fr) ob' s ∧ LexC P nt ops U ob ob' E l ((d, s) :: fr)

def lexOkC (ops : Array Oper) (T : Nat) (ks : List Nat) : Nat → Nat → Array Bool → Bool
  | 0, _, listed => (Region.ready .any ops listed).contains T && (Region.ready .any ops listed).all fun j => Nat.beq j T
  | fuel + 1, k, listed =>
    (match ops[k]? with
     | some o => (Region.ready .any ops listed).contains k && !(turns o.op) && Nat.blt k T && (Bef ops T k || match o.dst with | some d => !(ks.contains d) | none => false) &&
        ((List.range ops.size).all fun j => Nat.beq j k || Nat.beq j T || listed.getD j true || match ops[j]? with
          | some oj => Bef ops j k || (!(turns oj.op) && apartB ops o oj)
          | none => true)
     | none => false) && lexOkC ops T ks fuel (k + 1) (listed.setIfInBounds k true)

theorem getF_keys {U : Fr} {d : Nat} (h : (U.map (·.1)).contains d = false) : getF U d = none := by
  induction U with
  | nil => rfl
  | cons x r ih =>
    obtain ⟨i, s⟩ := x
    simp only [List.map_cons, List.contains_cons, Bool.or_eq_false_iff] at h
    have hne : i ≠ d := fun e => by subst e; simp at h
    rw [getF_cons_other hne]
    exact ih h.2

theorem anyC_lex {T : Nat} {U : Fr} {ob ob' : Obs} {E : Fr → Prop} {L : Array Bool} {oT : Oper} (hoT : ops[T]? = some oT) : ∀ (l : List Oper) (k : Nat) (listed : Array Bool) (fr : Fr), (∀ j, j < l.length → l[j]? = ops[k + j]?) → Closed ops listed → lexOkC ops T (U.map (·.1)) l.length k listed = true → listN l.length k listed = L →
    LexC P nt ops U ob ob' E l fr → AnyC P nt ops T U ob ob' (fun L' φ => L' = L ∧ ∃ fr', φ = getF fr' ∧ E fr') l.length listed (getF fr)
  | [], k, listed, fr, hl, hc, hB, hL, h => by
    simp only [List.length_nil, lexOkC, Bool.and_eq_true] at hB
    exact ⟨fun _ t s ht => FrIn.spec h.1 t s ht, by simpa using hB.1, fun j hj => Nat.eq_of_beq_eq_true (List.all_eq_true.1 hB.2 j hj), hL, fr, rfl, h.2⟩
  | o :: l, k, listed, fr, hl, hc, hB, hL, h => by
    have h0 : ops[k]? = some o := by simpa using (hl 0 (by simp)).symm
    simp only [List.length_cons, lexOkC, h0, Bool.and_eq_true, Bool.not_eq_true'] at hB
    obtain ⟨⟨⟨⟨⟨hr, hnt⟩, hkT⟩, hbu⟩, hf⟩, hB'⟩ := hB
    have hr' : k ∈ Region.ready .any ops listed := by simpa using hr
    have hl' : ∀ j, j < l.length → l[j]? = ops[k + 1 + j]? := fun j hj => by have := hl (j + 1) (by simpa using hj); simpa [Nat.add_assoc, Nat.add_comm 1 j] using this
    obtain ⟨s, d, hd, hy, hy2, hL2⟩ := h
    have hU : Bef ops T k = true ∨ getF U d = none := by
      rw [hd] at hbu
      rcases Bool.or_eq_true _ _ ▸ hbu with hb | hb
      · exact .inl hb
      · exact .inr (getF_keys (by simpa using hb))
    refine anyC_first h0 hoT hnt hd (by simpa using hkT) hU l.length listed _ hc ?_ hr' hy hy2 ?_
    · intro j oj hoj hjk hjT hun
      have hlt : j < ops.size := (Array.getElem?_eq_some_iff.1 hoj).1
      have := List.all_eq_true.1 hf j (List.mem_range.2 hlt)
      rw [beq_no hjk, beq_no hjT, hun, hoj] at this
      simp only [Bool.false_or, Bool.or_eq_true, Bool.and_eq_true, Bool.not_eq_true'] at this
      exact this
    · rw [← getF_cons_putF]
      exact anyC_lex hoT l (k + 1) _ _ hl' (closed_set hc hr') hB' hL hL2

def storeOk (nt : Nat) (l : List Oper) (n : Nat) (ks : List Nat) : Bool :=
  let ops := l.toArray
  let L0 := Array.replicate l.length false
  let L := listN n 0 L0
  lexOkC ops n ks n 0 L0 && dstsIn nt ops && Nat.ble (n + 1) l.length && Nat.beq (l.take n).length n &&
    ((List.range ops.size).all fun j => match ops[j]? with | some oj => !(oj.after.toList.any fun e => Region.binds .any e && Nat.beq e.on n) || (List.range n).all fun p => Bef ops j p | none => true) &&
    lexOk ops (l.drop (n + 1)).length (n + 1) (L.setIfInBounds n true)

theorem c_region_store {id : Nat} {l : List Oper} (n : Nat) {oT : Oper} (U : Fr) {fr : Fr} {ob ob' : Obs} {Q : Post} (hm : P.follows .mixedOrders = true) (hB : storeOk nt l n (U.map (·.1)) = true) (hc : l[n]? = some oT) (hA : EffU P oT U ob ob') (hg : oT.guard = none) (hdT : oT.dst = none)
    (h : LexC P nt l.toArray U ob ob' (fun fr => LexD P nt l.toArray (fun fr ob => Q .normal fr ob) (l.drop (n + 1)) fr ob') (l.take n) fr) : WpC P nt (.region id l.toArray true) fr ob Q := by
  intro S G a w hn hs
  unfold storeOk at hB
  simp only [Bool.and_eq_true] at hB
  obtain ⟨⟨⟨⟨⟨b1, b2⟩, b3⟩, b4⟩, b6⟩, b8⟩ := hB
  have hlen : n + 1 ≤ l.length := Nat.le_of_ble_eq_true b3
  have htl : (l.take n).length = n := Nat.eq_of_beq_eq_true b4
  have hdst : ∀ (j t : Nat), (l.toArray[j]?).bind (fun o => o.dst) = some t → t < nt := by
    intro j t ht
    cases ho : l.toArray[j]? with
    | none => simp [ho] at ht
    | some o =>
      simp [ho] at ht
      have hmem : o ∈ l := by
        rw [List.getElem?_toArray] at ho
        exact List.mem_of_getElem? ho
      have := List.all_eq_true.1 b2 o (by simpa using hmem)
      rw [ht] at this
      simpa using this
  refine wp_region_any hm ?_
  have hcl : Closed l.toArray (Array.replicate l.length false) := by
    intro j o ho hl
    simp only [Array.getD_eq_getD_getElem?] at hl
    rcases Nat.lt_or_ge j l.length with h' | h'
    · simp [h'] at hl
    · simp [h'] at hl
  have hoc : l.toArray[n]? = some oT := by rw [List.getElem?_toArray]; exact hc
  have hpost : ∀ j oj, l.toArray[j]? = some oj → (∃ e ∈ oj.after.toList, Region.binds .any e = true ∧ e.on = n) → ∀ p, p < n → Bef l.toArray j p = true := by
    rintro j oj hoj ⟨e, he, hb, hon⟩ p hp
    have hlt : j < l.toArray.size := (Array.getElem?_eq_some_iff.1 hoj).1
    have h1 := List.all_eq_true.1 b6 j (List.mem_range.2 hlt)
    rw [hoj] at h1
    have h1 : ((!(oj.after.toList.any fun e => Region.binds .any e && Nat.beq e.on n)) || (List.range n).all fun p => Bef l.toArray j p) = true := h1
    have h2 : (oj.after.toList.any fun e => Region.binds .any e && Nat.beq e.on n) = true := List.any_eq_true.2 ⟨e, he, by rw [hb, hon, Nat.beq_refl]; rfl⟩
    rw [h2] at h1
    simp only [Bool.not_true, Bool.false_or] at h1
    exact List.all_eq_true.1 h1 p (List.mem_range.2 hp)
  have key : AnyT P nt l.toArray n (fun φ ob => ∃ fr', φ = getF fr' ∧ Q .normal fr' ob) ((l.drop (n + 1)).length + (l.take n).length + 1) (Array.replicate l.length false) (getF fr) ob := by
    refine anyC_before hoc hA hg hdT hpost ?_ (l.take n).length _ _ hcl (anyC_lex hoc (L := listN n 0 (Array.replicate l.length false)) (l.take n) 0 _ fr (fun j hj => ?_) hcl (by rw [htl]; exact b1) (by rw [htl]) h)
    · rintro listed φ hcl2 hTl ⟨rfl, fr', rfl, hL⟩
      exact anyT_of _ _ _ _ hTl (anyD_lex (l.drop (n + 1)) (n + 1) _ _ _ (fun i => by rw [List.getElem?_drop, List.getElem?_toArray]) hcl2 b8 hL)
    · rw [Nat.zero_add, List.getElem?_toArray, List.getElem?_take_of_lt (by rw [htl] at hj; exact hj)]
  have hx : Below w.heap.size w { w with drawn := w.drawn + 1 } := ⟨rfl, rfl, rfl, Nat.le_refl _, fun _ _ => rfl⟩
  have hs' : SimF P S (getF fr) ob G a { w with drawn := w.drawn + 1 } := (simF_iff.2 hs).ext hx
  have := anyT_sound (Q := PostOf P S Q) hn hdst (fun φ ob' G' a' w' ⟨fr', he, hq⟩ hsf => ⟨fr', ob', G', hq, simF_iff.1 (he ▸ hsf)⟩) _ _ _ ob G a _ key hs'
  have hfuel : (l.drop (n + 1)).length + (l.take n).length + 1 = l.length := by rw [List.length_drop, htl]; omega
  rw [hfuel] at this
  simpa using this

theorem s_nil {U : Fr} {ob ob' : Obs} {E : Fr → Prop} {fr : Fr} (hf : FrIn fr U) (h : E fr) : LexC P nt ops U ob ob' E [] fr := ⟨hf, h⟩
theorem s_neu {d : Nat} {U : Fr} {ob ob' : Obs} {E : Fr → Prop} {fr : Fr} {rest : List Oper} {op : Op} {ty : TypeId} {pos : String} {af : Array Edge} {s : SV} (h : Neu P ⟨some d, op, ty, pos, af, none⟩ (keepF fr (usesOp op)) ob (fun s' => s' = s)) (hd : Nat.blt d nt = true)
    (h2 : Neu P ⟨some d, op, ty, pos, af, none⟩ (keepF fr (usesOp op)) ob' (fun s' => s' = s)) (kk : LexC P nt ops U ob ob' E rest ((d, s) :: fr)) : LexC P nt ops U ob ob' E (⟨some d, op, ty, pos, af, none⟩ :: rest) fr :=
  ⟨s, d, rfl, yields_neu h hd, yields_neu h2 hd, kk⟩

theorem n_pick_t {fr : Fr} {ob : Obs} {dst : Option Tmp} {ty : TypeId} {pos : String} {af : Array Edge} {gd : Option (Nat × Bool)} {c x y : Operand} {b p : Bool} (hc : opv fr c = some (sBool b)) (hb : b = true) (hx : opv fr x = some (sBool p)) :
    Neu P ⟨dst, .pick c x y, ty, pos, af, gd⟩ fr ob (fun s' => s' = sBool p) :=
  neu_same fun S G a w h => by
    have := opv_val h hc
    subst hb
    exact ⟨.bool p, by simp [execOp, this, asBool, opv_val h hx], rfl, rfl⟩
theorem n_pick_f {fr : Fr} {ob : Obs} {dst : Option Tmp} {ty : TypeId} {pos : String} {af : Array Edge} {gd : Option (Nat × Bool)} {c x y : Operand} {b p : Bool} (hc : opv fr c = some (sBool b)) (hb : b = false) (hx : opv fr y = some (sBool p)) :
    Neu P ⟨dst, .pick c x y, ty, pos, af, gd⟩ fr ob (fun s' => s' = sBool p) :=
  neu_same fun S G a w h => by
    have := opv_val h hc
    subst hb
    exact ⟨.bool p, by simp [execOp, this, asBool, opv_val h hx], rfl, rfl⟩
end
end Go.AL

/- The abstract logic, part 32: a struct variable and two more results. -/
namespace Go.AL
open Go Go.RowKit

theorem retc3 {P : Program} {fn : Func} {fr : Fr} {ob : Obs} {t t' t'' : Tmp} {k n : Nat} {tt : TypeId} {ts : List TC} {cs : List Cell} {s' s'' : S1} {p' p'' : PV} [TyAgg P tt n] (hr : fn.results = #[.cell t tt, .tmp t', .tmp t'']) (ht : getT fr t = some (.s (.one (.ref k 0)))) (hk : getO ob k = some (.box ts)) (hn : ts.length = n) (hp : pureL ts = some cs)
    (ht' : getT fr t' = some (.s s')) (hp' : s'.pv? = some p') (ht'' : getT fr t'' = some (.s s'')) (hp'' : s''.pv? = some p'') : RetOk P fn fr ob [.agg cs, p', p''] :=
  fun S G a w h => by
    obtain ⟨b, vs, h1, h2, h3⟩ := box_pv h (tt := tt) ht hk hn hp
    rw [Array.getD_eq_getD_getElem?] at h1
    exact ⟨_, by simp [results, hr, h1, asAddr, h2], [_, _, _], rfl, h3, slot_pv h ht' hp', slot_pv h ht'' hp'', trivial⟩
end Go.AL

/- The abstract logic, part 33: structs of plain cells, compared. -/
namespace Go.AL
open Go Go.RowKit
set_option linter.unusedVariables false

/-- the kind of a plain cell -/
inductive CK | int (k : IntKind) | str | bool
def ckOf (P : Program) (t : TypeId) : Option CK :=
  match P.underlying t with
  | some (.int k) => some (.int k)
  | some .string => some .str
  | some .bool => some .bool
  | _ => none
def cmpFs (P : Program) : Nat → List Field → List CK → Bool
  | _, [], [] => true
  | i, f :: fs, k :: ks => f.name != "_" && (f.offset == i && ((match ckOf P f.type, k with | some (.int k), .int k' => decide (k = k') | some .str, .str => true | some .bool, .bool => true | _, _ => false) && cmpFs P (i + 1) fs ks))
  | _, _, _ => false
/-- structs of these plain cells -/
class TyCmp (P : Program) (t : TypeId) (ks : outParam (List CK)) : Prop where
  out : P.underlying t = some (.struct (P.fieldsOf t)) ∧ (cmpFs P 0 (P.fieldsOf t).toList ks && (!P.stoodInHeld t && !P.eqGuardType P.depth t)) = true

def ckV : CK → Value → Bool
  | .int k, .int k' _ => decide (k = k')
  | .str, .string _ => true
  | .bool, .bool _ => true
  | _, _ => false
def eqV : Value → Value → Bool
  | .int _ a, .int _ b => a == b
  | .string a, .string b => a.toList == b.toList
  | .bool a, .bool b => a == b
  | _, _ => false
def ckVs : List CK → List Value → Bool
  | [], [] => true
  | k :: ks, v :: vs => ckV k v && ckVs ks vs
  | _, _ => false
def eqVs : List Value → List Value → Bool
  | u :: us, v :: vs => eqV u v && eqVs us vs
  | _, _ => true

theorem run_eqFields {P : Program} (d : Nat) (us vs : List Value) : ∀ (fs : List Field) (ks : List CK) (i : Nat), cmpFs P i fs ks = true → i + ks.length = us.length → i + ks.length = vs.length → ckVs ks (us.drop i) = true → ckVs ks (vs.drop i) = true →
    ∀ w : World, (Op.eqFields (d + 1) us.toArray vs.toArray fs).run P w = .ok (eqVs (us.drop i) (vs.drop i)) w
  | [], [], i, _, h1, h2, _, _, w => by
    rw [List.drop_eq_nil_of_le (by simp at h1; omega)]
    simp [Op.eqFields, eqVs]
  | [], _ :: _, _, h, _, _, _, _, _ => by simp [cmpFs] at h
  | _ :: _, [], _, h, _, _, _, _, _ => by simp [cmpFs] at h
  | f :: fs, k :: ks, i, h, h1, h2, h3, h4, w => by
    simp only [cmpFs, Bool.and_eq_true, bne_iff_ne, beq_iff_eq] at h
    obtain ⟨hn, ho, hk, hr⟩ := h
    have l1 : i < us.length := by simp at h1; omega
    have l2 : i < vs.length := by simp at h2; omega
    rw [List.drop_eq_getElem_cons l1] at h3 ⊢
    rw [List.drop_eq_getElem_cons l2] at h4 ⊢
    simp only [ckVs, Bool.and_eq_true] at h3 h4
    have ih := run_eqFields (P := P) d us vs fs ks (i + 1) hr (by simp at h1; omega) (by simp at h2; omega) h3.2 h4.2
    have key : ∀ w : World, (part f.type us.toArray f.offset).run P w = .ok us[i] w ∧ (part f.type vs.toArray f.offset).run P w = .ok vs[i] w ∧ (Op.equalIn (d + 1) f.type us[i] vs[i]).run P w = .ok (eqV us[i] vs[i]) w := by
      intro w
      have e1 : us.toArray[f.offset]? = some us[i] := by rw [ho]; simp [l1]
      have e2 : vs.toArray[f.offset]? = some vs[i] := by rw [ho]; simp [l2]
      have q3 := h3.1
      have q4 := h4.1
      unfold ckOf at hk
      generalize us[i] = u at *
      generalize vs[i] = v at *
      cases hu : P.underlying f.type with
      | none => rw [hu] at hk; simp at hk
      | some ty =>
        rw [hu] at hk
        cases ty <;> simp only at hk <;> try (simp at hk; done)
        all_goals (cases k <;> simp only [Bool.false_eq_true, decide_eq_true_eq] at hk)
        all_goals (cases u <;> simp only [ckV, Bool.false_eq_true, decide_eq_true_eq] at q3)
        all_goals (cases v <;> simp only [ckV, Bool.false_eq_true, decide_eq_true_eq] at q4)
        all_goals try subst q3
        all_goals try subst q4
        all_goals refine ⟨by simp [part, isAgg, run_underlying hu, e1], by simp [part, isAgg, run_underlying hu, e2], ?_⟩
        · exact run_equalIn_bool' w _ _ _ _ hu
        · exact run_equalIn_int w _ _ _ _ _ _ hu
        · exact run_equalIn_string w _ _ _ _ hu
    simp only [Op.eqFields, Sem.run_bind, Sem.run_ite]
    rw [if_pos hn, (key w).1]
    simp only [Result.andThen_ok]
    rw [(key w).2.1]
    simp only [Result.andThen_ok]
    rw [(key w).2.2]
    simp only [Result.andThen_ok]
    cases he : eqV us[i] vs[i]
    · simp [eqVs, he]
    · simp only [eqVs, he, Bool.true_and]
      simpa using ih w

theorem ckVs_len : ∀ {ks : List CK} {us : List Value}, ckVs ks us = true → ks.length = us.length
  | [], [], _ => rfl
  | [], _ :: _, h => by simp [ckVs] at h
  | _ :: _, [], h => by simp [ckVs] at h
  | _ :: ks, _ :: us, h => by simp only [ckVs, Bool.and_eq_true] at h; simp [ckVs_len h.2]

section
variable {P : Program} {dst : Option Tmp} {ty : TypeId} {pos : String} {af : Array Edge} {gd : Option (Nat × Bool)} {fr : Fr} {ob : Obs}
theorem agg_values {rd : Rd} {G : Gh} : ∀ {us vs : List Value}, All2 (TC.rep rd G) (us.map fun u => TC.p (.v u)) vs → vs = us
  | [], [], _ => rfl
  | [], _ :: _, h => h.elim
  | _ :: _, [], h => h.elim
  | u :: us, v :: vs, h => by
    obtain ⟨⟨h1, _⟩, h2⟩ := h
    rw [agg_values h2, h1]
theorem cmp_run {t : TypeId} {ks : List CK} {us vs : List Value} [ht : TyCmp P t ks] (h : (ckVs ks us && ckVs ks vs) = true) (w : World) : (Op.equalIn 10000 t (.agg us.toArray) (.agg vs.toArray)).run P w = .ok (eqVs us vs) w := by
  obtain ⟨h1, h2⟩ := ht.out
  simp only [Bool.and_eq_true, Bool.not_eq_true'] at h h2
  have e1 := ckVs_len h.1
  have e2 := ckVs_len h.2
  rw [run_equalIn_agg w 9999 t _ _ h1 h2.2.1]
  have := run_eqFields (P := P) 9998 us vs _ ks 0 h2.1 (by omega) (by omega) h.1 h.2 w
  exact this
theorem n_neq_st {t yt : TypeId} {x y : Operand} {ks : List CK} (us vs : List Value) {r : Bool} [ht : TyCmp P t ks] (hx : opv fr x = some (.s (.agg (us.map fun u => .p (.v u))))) (hy : opv fr y = some (.s (.agg (vs.map fun u => .p (.v u)))))
    (hc : (constOk x && constOk y) = true) (hk : (ckVs ks us && ckVs ks vs) = true) (hr : eqVs us vs = r) : Neu P ⟨dst, .binOp .neq t x y yt, ty, pos, af, gd⟩ fr ob (fun s' => s' = sBool (!r)) :=
  neu_same fun S G a w h => by
    simp only [Bool.and_eq_true] at hc
    obtain ⟨us', e1, a1⟩ := opv_rep h hx hc.1
    obtain ⟨vs', e2, a2⟩ := opv_rep h hy hc.2
    obtain rfl := agg_values a1
    obtain rfl := agg_values a2
    have hg := ht.out.2
    simp only [Bool.and_eq_true, Bool.not_eq_true'] at hg
    refine ⟨.bool (!r), ?_, rfl, rfl⟩
    simp only [execOp, e1, e2]
    refine run_v ?_
    simp only [Sem.run_bind]
    rw [run_eqGuard_agg (hm := hg.2.2)]
    simp only [Result.andThen_ok]
    rw [run_neq_struct, cmp_run hk, hr]
    rfl
end
end Go.AL

/- The abstract logic, part 34: a drawn region whose operations on objects may come in any order that is permitted. -/
namespace Go.AL
open Go Go.RowKit
set_option linter.unusedVariables false

theorem getB_set_ne {listed : Array Bool} {e j : Nat} (h : e ≠ j) : (listed.setIfInBounds e true).getD j false = listed.getD j false := by
  simp only [Array.getD_eq_getD_getElem?, Array.getElem?_setIfInBounds_ne h]
/-- the slots that an operation looks at, stores too -/
def usesC : Op → List Nat
  | .store _ x y => tmO x ++ tmO y
  | .box _ x => tmO x
  | op => usesOp op
def svAt (sv : List SV) (i : Nat) : SV := sv.getD i .any
/-- the slots behind a region -/
def allFr : List Oper → List SV → Fr → Fr
  | o :: l, s :: sv, fr => match o.dst with
    | some d => (d, s) :: allFr l sv fr
    | none => allFr l sv fr
  | _, _, fr => fr
/-- operations on objects: their places (descending), whether they make a new object, and what they leave -/
abbrev Xe := List (Nat × Bool × (Nat × Ob))
def xAt : Xe → Nat → Option (Bool × (Nat × Ob))
  | [], _ => none
  | (i, x) :: r, e => cond (Nat.beq i e) (some x) (xAt r e)
def obD (xe : Xe) (ob : Obs) : List Nat → Obs
  | [] => ob
  | e :: D => match xAt xe e with
    | some x => x.2 :: obD xe ob D
    | none => obD xe ob D
def insD (e : Nat) : List Nat → List Nat
  | [] => [e]
  | d :: D => cond (Nat.blt d e) (e :: d :: D) (d :: insD e D)
def hasN (l : List Nat) (e : Nat) : Bool := l.any (Nat.beq e)
theorem hasN_iff {l : List Nat} {e : Nat} : hasN l e = true ↔ e ∈ l := by
  unfold hasN
  rw [List.any_eq_true]
  exact ⟨fun ⟨x, h, he⟩ => by rw [Nat.eq_of_beq_eq_true he]; exact h, fun h => ⟨e, h, Nat.beq_refl e⟩⟩
def possD (ops : Array Oper) (E : List Nat) (i : Nat) (D : List Nat) : Bool := !(hasN D i) && ((E.all fun j => !(Bef ops i j) || hasN D j) && D.all fun j => !(Bef ops j i))
def sameL : List Nat → List Nat → Bool
  | [], [] => true
  | a :: l, b :: m => Nat.beq a b && sameL l m
  | _, _ => false
theorem sameL_eq : ∀ {l m : List Nat}, sameL l m = true → l = m
  | [], [], _ => rfl
  | [], _ :: _, h => by simp [sameL] at h
  | _ :: _, [], h => by simp [sameL] at h
  | a :: l, b :: m, h => by
    simp only [sameL, Bool.and_eq_true] at h
    rw [Nat.eq_of_beq_eq_true h.1, sameL_eq h.2]
def memM (M : List (List Nat)) (D : List Nat) : Bool := M.any (sameL D)
theorem memM_mem {M : List (List Nat)} {D : List Nat} (h : memM M D = true) : D ∈ M := by
  obtain ⟨x, h1, h2⟩ := List.any_eq_true.1 h
  rw [sameL_eq h2]; exact h1
def lexD (E : List Nat) (i : Nat) : List Nat := E.filter fun e => Nat.blt e i
def desc : List Nat → Bool
  | [] => true
  | a :: l => l.all (fun b => Nat.blt b a) && desc l
def dstL : List Oper → List Nat
  | [] => []
  | o :: l => match o.dst with
    | some d => d :: dstL l
    | none => dstL l
def nodupB : List Nat → Bool
  | [] => true
  | a :: l => !(hasN l a) && nodupB l
def confOk (nt : Nat) (l : List Oper) (E : List Nat) (M : List (List Nat)) (req : List (Nat × List Nat)) : Bool :=
  let ops := l.toArray
  let n := l.length
  (l.all fun o => o.guard.isNone && match o.dst with | some d => Nat.blt d nt | none => true) &&
  ((List.range n).all fun i => match ops[i]? with
    | some o => (turns o.op == hasN E i) && ((turns o.op || o.dst.isSome) && (((usesC o.op).all fun u => (List.range n).all fun j => match ops[j]? with
        | some oj => (match oj.dst with | some d => !(Nat.beq d u) || Bef ops i j | none => true)
        | none => true) &&
      ((List.range n).all fun j => !(Bef ops i j) || Nat.blt j i) && ((o.after.toList.all fun e => !(Region.binds .any e) || Nat.blt e.on i) && (M.all fun D => !(possD ops E i D) || (sameL D (lexD E i) || req.any fun p => Nat.beq p.1 i && sameL p.2 D)))))
    | none => false) &&
  nodupB (dstL l) && desc E && (E.all fun e => Nat.blt e n) && memM M [] && (M.all fun D => E.all fun e => !(possD ops E e D) || memM M (insD e D))

section
variable {P : Program} {nt : Nat}

/-- an operation on objects, whatever else is known -/
def EffQ (P : Program) (nt : Nat) (ops : Array Oper) (o : Oper) (U : Fr) (new : Bool) (ob : Obs) (x : Nat × Ob) (s : SV) : Prop :=
  ∀ φ, Told U φ → (new = true → FreeF x.1 φ) → StepE P nt ops o φ ob (fun φ' ob'' => φ' = (match o.dst with | some d => putF φ d s | none => φ) ∧ ob'' = x :: ob)

theorem q_alloc {ops : Array Oper} {U : Fr} {k : Nat} {e : TypeId} {z : Value} [hz : TyZero P e z] {ty : TypeId} {pos : String} {af : Array Edge} {al : Nat} {ob : Obs} (h2 : obFree k ob = true) (hd : Nat.blt al nt = true) :
    EffQ P nt ops ⟨some al, .alloc e, ty, pos, af, none⟩ U true ob (k, .box (z.cells.toList.map fun c => .p (.v c))) (.s (.one (.ref k 0))) :=
  fun φ _ hf => alloc_step (hf rfl) h2 hd
theorem q_store {ops : Array Oper} {U : Fr} {op : Op} {ty : TypeId} {pos : String} {af : Array Edge} {ob : Obs} {x : Nat × Ob} (h : EffU P ⟨none, op, ty, pos, af, none⟩ U ob (x :: ob)) : EffQ P nt ops ⟨none, op, ty, pos, af, none⟩ U false ob x .any :=
  fun φ hU _ => effU_step h rfl rfl hU

/-- facts that are known ahead of operation o -/
def UIn (l : List Oper) (sv : List SV) (fr : Fr) (o : Oper) (U : Fr) : Prop :=
  ∀ t s, getF U t = some s → t ∈ usesC o.op ∧ ((∃ j o', l[j]? = some o' ∧ o'.dst = some t ∧ s = svAt sv j) ∨ (t ∉ dstL l ∧ getF fr t = some s))
def ObG (P : Program) (nt : Nat) (l : List Oper) (sv : List SV) (xe : Xe) (fr : Fr) (ob : Obs) (i : Nat) (D : List Nat) : Prop :=
  ∃ o U, l[i]? = some o ∧ UIn l sv fr o U ∧ ((turns o.op = false ∧ Neu P o U (obD xe ob D) (fun s => s = svAt sv i)) ∨
    ∃ new x, xAt xe i = some (new, x) ∧ EffQ P nt l.toArray o U new (obD xe ob D) x (svAt sv i))
/-- what is to be shown of operation i where the operations D on objects are behind it -/
def Ob1 (P : Program) (nt : Nat) (l : List Oper) (sv : List SV) (xe : Xe) (fr : Fr) (ob : Obs) (i : Nat) (D : List Nat) : Prop :=
  ∃ o, l[i]? = some o ∧ ((turns o.op = false ∧ Neu P o (keepF (allFr l sv fr) (usesC o.op)) (obD xe ob D) (fun s => s = svAt sv i)) ∨
    ∃ new x, xAt xe i = some (new, x) ∧ EffQ P nt l.toArray o (keepF (allFr l sv fr) (usesC o.op)) new (obD xe ob D) x (svAt sv i))
def Ob1s (P : Program) (nt : Nat) (l : List Oper) (sv : List SV) (xe : Xe) (fr : Fr) (ob : Obs) : List (Nat × List Nat) → Prop
  | [] => True
  | (i, D) :: r => Ob1 P nt l sv xe fr ob i D ∧ Ob1s P nt l sv xe fr ob r
theorem Ob1s.get {l : List Oper} {sv : List SV} {xe : Xe} {fr : Fr} {ob : Obs} : ∀ {r : List (Nat × List Nat)}, Ob1s P nt l sv xe fr ob r → ∀ p ∈ r, Ob1 P nt l sv xe fr ob p.1 p.2
  | [], _, p, hp => by simp at hp
  | (i, D) :: r, h, p, hp => by
    rcases List.mem_cons.1 hp with rfl | hp
    · exact h.1
    · exact Ob1s.get h.2 p hp
/-- the facts that may stand where operation e comes -/
def frBut (ops : Array Oper) (e : Nat) (sv : List SV) (fr : Fr) : Fr :=
  (((List.range ops.size).filter fun j => !(Nat.beq j e) && !(Bef ops j e)).map fun j => (j, svAt sv j)) ++ fr
def freeOk (ops : Array Oper) (sv : List SV) (fr : Fr) : Xe → Bool
  | [] => true
  | (e, new, x) :: r => (!new || frFree x.1 (frBut ops e sv fr)) && freeOk ops sv fr r
def keysOk (xe : Xe) (M : List (List Nat)) : Bool :=
  M.all fun D => xe.all fun p => D.all fun e => hasN D p.1 || !(Nat.blt p.1 e) || (match xAt xe e with | some x => !(Nat.beq x.2.1 p.2.2.1) | none => true)

theorem xAt_mem {xe : Xe} {e : Nat} {x : Bool × (Nat × Ob)} (h : xAt xe e = some x) : (e, x) ∈ xe := by
  induction xe with
  | nil => cases h
  | cons y r ih =>
    obtain ⟨i, y⟩ := y
    unfold xAt at h
    cases hb : Nat.beq i e
    · rw [hb] at h; exact List.mem_cons_of_mem _ (ih h)
    · rw [hb] at h
      have h : some y = some x := h
      cases h
      rw [Nat.eq_of_beq_eq_true hb]; exact List.mem_cons_self ..

theorem getO_ins {xe : Xe} {ob : Obs} {e : Nat} {new : Bool} {x : Nat × Ob} (he : xAt xe e = some (new, x)) : ∀ {D : List Nat}, (∀ d ∈ D, e < d → ∀ y, xAt xe d = some y → y.2.1 ≠ x.1) → ∀ k o, getO (obD xe ob (insD e D)) k = some o → getO (x :: obD xe ob D) k = some o
  | [], _, k, o, h => by
    simp only [insD, obD, he] at h
    exact h
  | d :: D, hk, k, o, h => by
    unfold insD at h
    cases hb : Nat.blt d e
    · rw [hb] at h
      simp only [cond] at h
      have ih := getO_ins (ob := ob) he (D := D) (fun d' hd' => hk d' (List.mem_cons_of_mem _ hd'))
      have hge : e ≤ d := by
        cases Nat.lt_or_ge d e with
        | inl h' => have : Nat.blt d e = true := by simpa using h'
                    rw [this] at hb; cases hb
        | inr h' => exact h'
      unfold obD at h ⊢
      cases hx : xAt xe d with
      | none => rw [hx] at h; exact ih k o h
      | some y =>
        rw [hx] at h
        simp only at h ⊢
        obtain ⟨ny, ky, oy⟩ := y
        obtain ⟨kx, ox⟩ := x
        by_cases hky : ky = k
        · rw [show ((ny, ky, oy) : Bool × (Nat × Ob)).2 = (ky, oy) from rfl] at h ⊢
          rw [hky, getO_cons_same] at h
          by_cases hed : e = d
          · subst hed
            rw [hx] at he
            cases he
            rw [hky, getO_cons_same]; exact h
          · have hne := hk d (List.mem_cons_self ..) (by omega) _ hx
            have hne : ky ≠ kx := hne
            rw [getO_cons_other (by omega), hky, getO_cons_same]; exact h
        · rw [show ((ny, ky, oy) : Bool × (Nat × Ob)).2 = (ky, oy) from rfl] at h ⊢
          rw [getO_cons_other hky] at h
          have := ih k o h
          by_cases hkx : kx = k
          · rw [hkx, getO_cons_same] at this ⊢; exact this
          · rw [getO_cons_other hkx] at this
            rw [getO_cons_other hkx, getO_cons_other hky]; exact this
    · rw [hb] at h
      simp only [cond] at h
      have : obD xe ob (e :: d :: D) = x :: obD xe ob (d :: D) := by
        show (match xAt xe e with | some x => x.2 :: obD xe ob (d :: D) | none => obD xe ob (d :: D)) = _
        rw [he]
      rw [this] at h; exact h

theorem filter_ins {e : Nat} {listed : Array Bool} (hsz : e < listed.size) (hun : listed.getD e false = false) : ∀ {E : List Nat}, desc E = true → e ∈ E → E.filter (fun j => (listed.setIfInBounds e true).getD j false) = insD e (E.filter fun j => listed.getD j false)
  | [], _, he => by simp at he
  | d :: E, hd, he => by
    simp only [desc, Bool.and_eq_true] at hd
    have hlt : ∀ b ∈ E, b < d := fun b hb => by simpa using List.all_eq_true.1 hd.1 b hb
    have hsame : (listed.setIfInBounds e true).getD e false = true := by simp [hsz]
    have hoth : ∀ j, j ≠ e → (listed.setIfInBounds e true).getD j false = listed.getD j false := fun j hj => getB_set_ne (Ne.symm hj)
    by_cases hde : d = e
    · subst hde
      rw [List.filter_cons_of_pos (by exact hsame), List.filter_cons_of_neg (by rw [hun]; simp)]
      have : E.filter (fun j => (listed.setIfInBounds d true).getD j false) = E.filter fun j => listed.getD j false := by
        apply List.filter_congr
        intro j hj
        exact hoth j (by have := hlt j hj; omega)
      rw [this]
      cases hE : E.filter fun j => listed.getD j false with
      | nil => rfl
      | cons a r =>
        have ha : a ∈ E := (List.mem_filter.1 (by rw [hE]; exact List.mem_cons_self ..)).1
        have hba : Nat.blt a d = true := by simpa using hlt a ha
        unfold insD; rw [hba]; rfl
    · have heE : e ∈ E := (List.mem_cons.1 he).resolve_left (fun q => hde q.symm)
      have ih := filter_ins hsz hun hd.2 heE
      have hed : Nat.blt d e = false := by
        have := hlt e heE
        cases hb : Nat.blt d e
        · rfl
        · rw [Nat.blt_eq] at hb; omega
      by_cases hl : listed.getD d false = true
      · rw [List.filter_cons_of_pos (by rw [hoth d hde]; exact hl), List.filter_cons_of_pos (by exact hl), ih]
        show _ = insD e (d :: _)
        conv => rhs; unfold insD
        rw [hed]; rfl
      · rw [List.filter_cons_of_neg (by rw [hoth d hde]; exact hl), List.filter_cons_of_neg (by exact hl), ih]

theorem dstL_get : ∀ {l : List Oper} {j : Nat} {o : Oper} {d : Nat}, l[j]? = some o → o.dst = some d → d ∈ dstL l
  | [], j, o, d, h, _ => by simp at h
  | o' :: l, 0, o, d, h, hd => by
    simp at h; subst h
    unfold dstL; rw [hd]; exact List.mem_cons_self ..
  | o' :: l, j + 1, o, d, h, hd => by
    have := dstL_get (l := l) (j := j) (by simpa using h) hd
    unfold dstL
    split
    · exact List.mem_cons_of_mem _ this
    · exact this
theorem dst_unique : ∀ {l : List Oper} {i j : Nat} {o o' : Oper} {d : Nat}, nodupB (dstL l) = true → l[i]? = some o → l[j]? = some o' → o.dst = some d → o'.dst = some d → i = j
  | [], i, j, o, o', d, _, h, _, _, _ => by simp at h
  | q :: l, 0, 0, _, _, _, _, _, _, _, _ => rfl
  | q :: l, 0, j + 1, o, o', d, hn, h1, h2, h3, h4 => by
    simp at h1; subst h1
    have hm := dstL_get (l := l) (j := j) (by simpa using h2) h4
    unfold dstL at hn; rw [h3] at hn
    simp only [nodupB, Bool.and_eq_true, Bool.not_eq_true'] at hn
    rw [hasN_iff.2 hm] at hn; exact absurd hn.1 (by simp)
  | q :: l, i + 1, 0, o, o', d, hn, h1, h2, h3, h4 => by
    simp at h2; subst h2
    have hm := dstL_get (l := l) (j := i) (by simpa using h1) h3
    unfold dstL at hn; rw [h4] at hn
    simp only [nodupB, Bool.and_eq_true, Bool.not_eq_true'] at hn
    rw [hasN_iff.2 hm] at hn; exact absurd hn.1 (by simp)
  | q :: l, i + 1, j + 1, o, o', d, hn, h1, h2, h3, h4 => by
    have : nodupB (dstL l) = true := by
      unfold dstL at hn
      split at hn
      · simp only [nodupB, Bool.and_eq_true] at hn; exact hn.2
      · exact hn
    exact congrArg (· + 1) (dst_unique this (by simpa using h1) (by simpa using h2) h3 h4)
theorem allFr_get : ∀ {l : List Oper} {sv : List SV} {fr : Fr} {t : Nat} {s : SV}, sv.length = l.length → getF (allFr l sv fr) t = some s → (∃ j o, l[j]? = some o ∧ o.dst = some t ∧ s = svAt sv j) ∨ (t ∉ dstL l ∧ getF fr t = some s)
  | [], [], fr, t, s, _, h => .inr ⟨by simp [dstL], h⟩
  | [], _ :: _, _, _, _, hl, _ => by simp at hl
  | _ :: _, [], _, _, _, hl, _ => by simp at hl
  | o :: l, s0 :: sv, fr, t, s, hl, h => by
    have hrec : getF (allFr l sv fr) t = some s → (∃ j o', (o :: l)[j]? = some o' ∧ o'.dst = some t ∧ s = svAt (s0 :: sv) j) ∨ (t ∉ dstL l ∧ getF fr t = some s) := fun h' => by
      rcases allFr_get (by simpa using hl) h' with ⟨j, o', h1, h2, h3⟩ | h1
      · exact .inl ⟨j + 1, o', by simpa using h1, h2, by rw [h3]; simp [svAt]⟩
      · exact .inr h1
    unfold allFr at h
    cases hd : o.dst with
    | none =>
      rw [hd] at h
      rcases hrec h with h1 | ⟨h1, h2⟩
      · exact .inl h1
      · exact .inr ⟨by unfold dstL; rw [hd]; exact h1, h2⟩
    | some d =>
      rw [hd] at h
      have h : getF ((d, s0) :: allFr l sv fr) t = some s := h
      by_cases hdt : d = t
      · subst hdt
        rw [getF_cons_same] at h
        cases h
        exact .inl ⟨0, o, rfl, hd, rfl⟩
      · rw [getF_cons_other hdt] at h
        rcases hrec h with h1 | ⟨h1, h2⟩
        · exact .inl h1
        · refine .inr ⟨?_, h2⟩
          unfold dstL; rw [hd]
          intro q
          rcases List.mem_cons.1 q with q | q
          · exact hdt q.symm
          · exact h1 q

theorem SimF.weakO {S : Ctx} {φ : Fa} {ob ob' : Obs} {G : Gh} {a : Act} {w : World} (h : SimF P S φ ob G a w) (ho : ∀ k o, getO ob' k = some o → getO ob k = some o) : SimF P S φ ob' G a w := by
  refine ⟨h.1.weakenO ho, fun i s hi => ?_⟩
  have h1 : Sim P S [(i, s)] ob G a w := h.sub fun j t hj => by
    by_cases he : i = j
    · subst he; rw [getF_cons_same] at hj; cases hj; exact hi
    · rw [getF_cons_other he] at hj; simp [getF] at hj
  exact (h1.weakenO ho).facts i s (getF_cons_same _ _ _)

/-- what is known where these operations are behind -/
structure InvC (l : List Oper) (sv : List SV) (fr : Fr) (listed : Array Bool) (φ : Fa) : Prop where
  put : ∀ j o d, l[j]? = some o → listed.getD j false = true → o.dst = some d → φ d = some (svAt sv j)
  from' : ∀ t s, φ t = some s → (∃ j o, l[j]? = some o ∧ listed.getD j false = true ∧ o.dst = some t ∧ s = svAt sv j) ∨ getF fr t = some s
  old : ∀ t s, getF fr t = some s → t ∉ dstL l → φ t = some s

def unl (listed : Array Bool) (n : Nat) : Nat := (List.range n).countP fun i => !(listed.getD i false)
theorem unl_set {listed : Array Bool} {i : Nat} (hs : i < listed.size) (hu : listed.getD i false = false) : ∀ {n : Nat}, i < n → unl (listed.setIfInBounds i true) n + 1 = unl listed n
  | 0, h => by omega
  | n + 1, h => by
    unfold unl
    rw [List.range_succ, List.countP_append, List.countP_append]
    have h1 : ∀ j, j ≠ i → (listed.setIfInBounds i true).getD j false = listed.getD j false := fun j hj => getB_set_ne (Ne.symm hj)
    by_cases hin : i < n
    · have ih := unl_set hs hu hin
      unfold unl at ih
      have e : List.countP (fun i_1 => !(listed.setIfInBounds i true).getD i_1 false) [n] = List.countP (fun i => !listed.getD i false) [n] := by
        simp only [List.countP_cons, List.countP_nil, h1 n (by omega)]
      rw [e]; omega
    · obtain rfl : i = n := by omega
      have e : List.countP (fun i_1 => !(listed.setIfInBounds i true).getD i_1 false) (List.range i) = List.countP (fun i => !listed.getD i false) (List.range i) := by
        apply List.countP_congr
        intro j hj
        rw [h1 j (by have := List.mem_range.1 hj; omega)]
      rw [e]
      have e2 : (listed.setIfInBounds i true).getD i false = true := by simp [hs]
      simp only [List.countP_cons, List.countP_nil, e2, hu]
      simp

theorem c_region_conf {id : Nat} {l : List Oper} {fr : Fr} {ob : Obs} {Q : Post} (sv : List SV) (xe : Xe) (M : List (List Nat)) (req : List (Nat × List Nat)) (hm : P.follows .mixedOrders = true) (hsv : sv.length = l.length)
    (hB : confOk nt l (xe.map (·.1)) M req = true) (h1 : ∀ i, i < l.length → ObG P nt l sv xe fr ob i (lexD (xe.map (·.1)) i)) (hfree : freeOk l.toArray sv fr xe = true) (hkeys : keysOk xe M = true) (h2 : Ob1s P nt l sv xe fr ob req)
    {fr' : Fr} (hfr' : ∀ t s, getF fr' t = some s → (∃ j o', l[j]? = some o' ∧ o'.dst = some t ∧ s = svAt sv j) ∨ (t ∉ dstL l ∧ getF fr t = some s)) (hQ : Q .normal fr' (obD xe ob (xe.map (·.1)))) : WpC P nt (.region id l.toArray true) fr ob Q := by
  intro S G a w hn hs
  obtain ⟨E, hE⟩ : ∃ E, E = xe.map (·.1) := ⟨_, rfl⟩
  rw [← hE] at hB h1 hQ
  unfold confOk at hB
  simp only [Bool.and_eq_true] at hB
  obtain ⟨⟨⟨⟨⟨⟨b1, b2⟩, b3⟩, b4⟩, b5⟩, b6⟩, b7⟩ := hB
  have hop : ∀ i o, l[i]? = some o → o.guard = none ∧ (∀ d, o.dst = some d → d < nt) ∧ (turns o.op = hasN E i) ∧ (turns o.op = true ∨ ∃ d, o.dst = some d) ∧ (∀ u ∈ usesC o.op, ∀ j oj, l[j]? = some oj → oj.dst = some u → Bef l.toArray i j = true) ∧
      (∀ j, Bef l.toArray i j = true → j < i) ∧ (∀ e ∈ o.after.toList, Region.binds .any e = true → e.on < i) ∧ (∀ D ∈ M, possD l.toArray E i D = true → D = lexD E i ∨ (i, D) ∈ req) := by
    intro i o ho
    have hlt : i < l.length := (List.getElem?_eq_some_iff.1 ho).1
    have hmem : o ∈ l := List.mem_of_getElem? ho
    have q1 := List.all_eq_true.1 b1 o hmem
    have q2 := List.all_eq_true.1 b2 i (List.mem_range.2 hlt)
    simp only [List.getElem?_toArray, ho] at q2
    simp only [Bool.and_eq_true] at q1 q2
    obtain ⟨q3, q4, q5, q6, q7⟩ := q2
    obtain ⟨q8, q9⟩ := q5
    refine ⟨by simpa using q1.1, ?_, by simpa using q3, ?_, ?_, ?_, ?_, ?_⟩
    · intro d hd
      have := q1.2
      rw [hd] at this
      simpa using this
    · rcases (Bool.or_eq_true _ _).mp q4 with h | h
      · exact .inl h
      · exact .inr (Option.isSome_iff_exists.1 h)
    · intro u hu j oj hj hd
      have hjlt : j < l.length := (List.getElem?_eq_some_iff.1 hj).1
      have := List.all_eq_true.1 (List.all_eq_true.1 q8 u hu) j (List.mem_range.2 hjlt)
      simp only [hj, hd] at this
      simpa using this
    · intro j hj
      rcases Nat.lt_or_ge j l.length with hjl | hjl
      · have := List.all_eq_true.1 q9 j (List.mem_range.2 hjl)
        rw [hj] at this
        simpa using this
      · -- an operation is behind none that there isn't
        exfalso
        obtain ⟨o1, ho1, e1, he1, hb1, hh⟩ := bef_step hj
        rw [List.getElem?_toArray, ho] at ho1
        cases ho1
        have hlt1 := List.all_eq_true.1 q6 e1 he1
        have hlt1 : e1.on < i := by rw [hb1] at hlt1; simpa using hlt1
        -- by strong induction along the chain
        have chain : ∀ m, m < l.length → ∀ j, Bef l.toArray m j = true → j < l.length := by
          intro m
          induction m using Nat.strongRecOn with
          | _ m ih =>
            intro hml j' hj'
            obtain ⟨o2, ho2, e2, he2, hb2, hh2⟩ := bef_step hj'
            rw [List.getElem?_toArray] at ho2
            have r2 := List.all_eq_true.1 b2 m (List.mem_range.2 hml)
            simp only [List.getElem?_toArray, ho2] at r2
            simp only [Bool.and_eq_true] at r2
            have r6 := List.all_eq_true.1 r2.2.2.2.1 e2 he2
            have r6 : e2.on < m := by rw [hb2] at r6; simpa using r6
            rcases hh2 with e3 | ⟨h3, h4⟩
            · omega
            · exact ih e2.on r6 (by omega) j' h4
        have := chain i hlt j hj
        omega
    · intro e he hbe
      have := List.all_eq_true.1 q6 e he
      rw [hbe] at this
      simpa using this
    · intro D hD hp
      have := List.all_eq_true.1 q7 D hD
      rw [hp] at this
      simp only [Bool.not_true, Bool.false_or, Bool.or_eq_true] at this
      rcases this with h | h
      · exact .inl (sameL_eq h)
      · obtain ⟨p, hp1, hp2⟩ := List.any_eq_true.1 h
        simp only [Bool.and_eq_true] at hp2
        have e1 := Nat.eq_of_beq_eq_true hp2.1
        have e2 := sameL_eq hp2.2
        obtain ⟨p1, p2⟩ := p
        simp only at e1 e2
        rw [← e1, ← e2]; exact .inr hp1
  have hob : ∀ i o, l[i]? = some o → ∀ D ∈ M, possD l.toArray E i D = true → ∃ U, UIn l sv fr o U ∧ ((turns o.op = false ∧ Neu P o U (obD xe ob D) (fun s => s = svAt sv i)) ∨
      ∃ new x, xAt xe i = some (new, x) ∧ EffQ P nt l.toArray o U new (obD xe ob D) x (svAt sv i)) := by
    intro i o ho D hD hp
    have hlt : i < l.length := (List.getElem?_eq_some_iff.1 ho).1
    have : ObG P nt l sv xe fr ob i D := by
      rcases (hop i o ho).2.2.2.2.2.2.2 D hD hp with rfl | h
      · exact h1 i hlt
      · obtain ⟨o', ho', h⟩ := h2.get _ h
        refine ⟨o', _, ho', fun t s ht => ⟨keepF_mem ht, allFr_get hsv (getF_keepF ht)⟩, h⟩
    obtain ⟨o', U, ho', hU, h⟩ := this
    rw [ho] at ho'; cases ho'
    exact ⟨U, hU, h⟩
  have hdst : ∀ (j t : Nat), (l.toArray[j]?).bind (fun o => o.dst) = some t → t < nt := by
    intro j t ht
    cases ho : l[j]? with
    | none => simp [ho] at ht
    | some o => simp [ho] at ht; exact (hop j o ho).2.1 t ht
  refine wp_region_any hm ?_
  have hxw : Below w.heap.size w { w with drawn := w.drawn + 1 } := ⟨rfl, rfl, rfl, Nat.le_refl _, fun _ _ => rfl⟩
  have hs' : SimF P S (getF fr) ob G a { w with drawn := w.drawn + 1 } := (simF_iff.2 hs).ext hxw
  have key : ∀ (fuel : Nat) (listed : Array Bool) (φ : Fa) (G : Gh) (a : Act) (w : World), listed.size = l.length → unl listed l.length = fuel → Closed l.toArray listed → (E.filter fun j => listed.getD j false) ∈ M → InvC l sv fr listed φ → SimF P S φ (obD xe ob (E.filter fun j => listed.getD j false)) G a w →
      wpAny P .any l.toArray (PostOf P S Q) fuel listed a w := by
    intro fuel
    induction fuel with
    | zero =>
      intro listed φ G a w hsz hu hc hM hI hsf
      have hall : ∀ j, j < l.length → listed.getD j false = true := by
        intro j hj
        unfold unl at hu
        have := (List.countP_eq_zero.1 hu) j (List.mem_range.2 hj)
        simpa using this
      have hready : Region.ready .any l.toArray listed = [] := by
        cases hr : Region.ready .any l.toArray listed with
        | nil => rfl
        | cons i r =>
          exfalso
          have hi : i ∈ Region.ready .any l.toArray listed := by rw [hr]; exact List.mem_cons_self ..
          have h3 := ready_unlisted hi
          obtain ⟨_, o, ho, _⟩ := mem_ready.1 hi
          rw [List.getElem?_toArray] at ho
          rw [hall i (List.getElem?_eq_some_iff.1 ho).1] at h3; cases h3
      refine ⟨hready, ?_⟩
      have hEl : (E.filter fun j => listed.getD j false) = E := by
        rw [List.filter_eq_self]
        intro e he
        exact hall e (by simpa using List.all_eq_true.1 b5 e he)
      rw [hEl] at hsf
      refine ⟨fr', obD xe ob E, G, hQ, simF_iff.1 ⟨hsf.1, fun t s ht => hsf.2 t s ?_⟩⟩
      rcases hfr' t s ht with ⟨j, o, h3, h4, rfl⟩ | ⟨h3, h4⟩
      · exact hI.put j o t h3 (hall j (List.getElem?_eq_some_iff.1 h3).1) h4
      · exact hI.old t s h4 h3
    | succ fuel ih =>
      intro listed φ G a w hsz hu hc hM hI hsf
      refine ⟨fun h0 => ?_, fun i hi => ?_⟩
      · -- some operation is ready
        exfalso
        have hex : ∃ j, j < l.length ∧ listed.getD j false = false := by
          refine Classical.byContradiction fun hno => ?_
          have : unl listed l.length = 0 := by
            unfold unl
            refine List.countP_eq_zero.2 fun j hj => ?_
            have hj := List.mem_range.1 hj
            cases hb : listed.getD j false
            · exact absurd ⟨j, hj, hb⟩ hno
            · simp
          omega
        -- the first of them
        have hmin : ∀ n, (∃ j, j < n ∧ j < l.length ∧ listed.getD j false = false) → ∃ j, j < l.length ∧ listed.getD j false = false ∧ ∀ p, p < j → listed.getD p false = true := by
          intro n
          induction n with
          | zero => rintro ⟨j, hj, _⟩; omega
          | succ n ihn =>
            rintro ⟨j, hj, hjl, hjf⟩
            by_cases hlow : ∃ j', j' < n ∧ j' < l.length ∧ listed.getD j' false = false
            · exact ihn hlow
            · refine ⟨j, hjl, hjf, fun p hp => ?_⟩
              cases hb : listed.getD p false
              · exact absurd ⟨p, by omega, by omega, hb⟩ hlow
              · rfl
        obtain ⟨j, hj1, hj2⟩ := hex
        obtain ⟨j, hjl, hjf, hjp⟩ := hmin (j + 1) ⟨j, by omega, hj1, hj2⟩
        have ho : l[j]? = some l[j] := List.getElem?_eq_getElem hjl
        have hjr : j ∈ Region.ready .any l.toArray listed := by
          refine mem_ready.2 ⟨?_, l[j], by rw [List.getElem?_toArray]; exact ho, fun e he hb => ?_⟩
          · have hsz2 : j < listed.size := by omega
            simp only [Array.getD_eq_getD_getElem?, Array.getElem?_eq_getElem hsz2] at hjf ⊢
            simpa using hjf
          · have := (hop j _ ho).2.2.2.2.2.2.1 e (Array.mem_toList_iff.2 he) hb
            exact hjp _ this
        rw [h0] at hjr; cases hjr
      · have hiu := ready_unlisted hi
        obtain ⟨_, o, ho, hall⟩ := mem_ready.1 hi
        rw [List.getElem?_toArray] at ho
        have hlt : i < l.length := (List.getElem?_eq_some_iff.1 ho).1
        obtain ⟨g1, g2, g3, g4, g5, g6, g7, g8⟩ := hop i o ho
        obtain ⟨D, hD⟩ : ∃ D, D = E.filter fun j => listed.getD j false := ⟨_, rfl⟩
        rw [← hD] at hM hsf
        have hDl : ∀ e, e ∈ D ↔ e ∈ E ∧ listed.getD e false = true := fun e => by rw [hD, List.mem_filter]
        have hbi : ∀ j, Bef l.toArray i j = true → listed.getD j false = true := fun j hj => bef_listed hc i hj (fun o' ho' e he hb => by
          rw [List.getElem?_toArray, ho] at ho'; cases ho'
          exact hall e (Array.mem_toList_iff.1 he) hb)
        have hpo : possD l.toArray E i D = true := by
          unfold possD
          simp only [Bool.and_eq_true, Bool.not_eq_true', List.all_eq_true, Bool.or_eq_true]
          refine ⟨?_, fun j hj => ?_, fun j hj => ?_⟩
          · cases hb : hasN D i
            · rfl
            · have := ((hDl i).1 (hasN_iff.1 hb)).2
              rw [hiu] at this; cases this
          · cases hb : Bef l.toArray i j
            · exact .inl rfl
            · exact .inr (hasN_iff.2 ((hDl j).2 ⟨hj, hbi j hb⟩))
          · cases hb : Bef l.toArray j i
            · rfl
            · have hjl := ((hDl j).1 hj).2
              have : listed.getD i false = true := bef_listed hc j hb (fun o' ho' e he hbd => hc j o' ho' hjl e he hbd)
              rw [hiu] at this; cases this
        have htoldU : ∀ U, UIn l sv fr o U → Told U φ := by
          intro U hU t s ht
          obtain ⟨hus, h3⟩ := hU t s ht
          rcases h3 with ⟨j, oj, h3, h4, rfl⟩ | ⟨h3, h4⟩
          · exact hI.put j oj t h3 (hbi j (g5 t hus j oj h3 h4)) h4
          · exact hI.old t s h4 h3
        have hcl2 := closed_set hc hi
        have hsz2 : (listed.setIfInBounds i true).size = l.length := by simpa using hsz
        have hul : unl (listed.setIfInBounds i true) l.length = fuel := by
          have := unl_set (by omega) hiu hlt
          omega
        have hinv : ∀ φ', φ' = (match o.dst with | some d => putF φ d (svAt sv i) | none => φ) → InvC l sv fr (listed.setIfInBounds i true) φ' := by
          intro φ' hφ
          have hset : ∀ j, (listed.setIfInBounds i true).getD j false = true ↔ j = i ∨ listed.getD j false = true := by
            intro j
            by_cases hj : j = i
            · subst hj
              simp only [true_or, iff_true]
              simp [show j < listed.size by omega]
            · rw [getB_set_ne (Ne.symm hj)]
              simp [hj]
          cases hdo : o.dst with
          | none =>
            rw [hdo] at hφ
            have hφ : φ' = φ := hφ
            subst hφ
            refine ⟨fun j oj d h3 h4 h5 => ?_, fun t s h3 => ?_, hI.old⟩
            · rcases (hset j).1 h4 with rfl | h4
              · rw [ho] at h3; cases h3; rw [hdo] at h5; cases h5
              · exact hI.put j oj d h3 h4 h5
            · rcases hI.from' t s h3 with ⟨j, oj, h4, h5, h6⟩ | h4
              · exact .inl ⟨j, oj, h4, (hset j).2 (.inr h5), h6⟩
              · exact .inr h4
          | some d0 =>
            rw [hdo] at hφ
            have hφ : φ' = putF φ d0 (svAt sv i) := hφ
            subst hφ
            refine ⟨fun j oj d h3 h4 h5 => ?_, fun t s h3 => ?_, fun t s h3 h4 => ?_⟩
            · unfold putF
              rcases (hset j).1 h4 with rfl | h4
              · rw [ho] at h3; cases h3; rw [hdo] at h5; cases h5; rw [if_pos rfl]
              · by_cases hdd : d = d0
                · subst hdd
                  have := dst_unique b3 h3 ho h5 hdo
                  subst this
                  rw [if_pos rfl]
                · rw [if_neg hdd]; exact hI.put j oj d h3 h4 h5
            · unfold putF at h3
              by_cases hdd : t = d0
              · rw [if_pos hdd] at h3; cases h3
                exact .inl ⟨i, o, ho, (hset i).2 (.inl rfl), by rw [hdd]; exact hdo, rfl⟩
              · rw [if_neg hdd] at h3
                rcases hI.from' t s h3 with ⟨j, oj, h4, h5, h6⟩ | h4
                · exact .inl ⟨j, oj, h4, (hset j).2 (.inr h5), h6⟩
                · exact .inr h4
            · unfold putF
              have : t ≠ d0 := fun q => h4 (by rw [q]; exact dstL_get ho hdo)
              rw [if_neg this]; exact hI.old t s h3 h4
        unfold wpOp
        simp only [List.getElem?_toArray, ho]
        rw [if_pos (by simp [Region.wanted, g1])]
        obtain ⟨U, hU, hob'⟩ := hob i o ho D hM hpo
        have htold := htoldU U hU
        rcases hob' with ⟨ht, hneu⟩ | ⟨new, x, hx, hq⟩
        · refine .inl (wp_of_does (hneu S G a w (hsf.sub fun t s ht => htold t s ht)) ?_)
          rintro v w' ⟨hxw2, s, rfl, hv⟩
          have hnE : hasN E i = false := by rw [← g3]; exact ht
          have hDe : (E.filter fun j => (listed.setIfInBounds i true).getD j false) = D := by
            rw [hD]
            apply List.filter_congr
            intro j hj
            have : j ≠ i := fun q => by rw [← q, hasN_iff.2 hj] at hnE; cases hnE
            exact getB_set_ne (Ne.symm this)
          obtain ⟨d0, hd0⟩ := g4.resolve_left (by rw [ht]; simp)
          rw [hd0]
          refine ih (listed.setIfInBounds i true) (putF φ d0 (svAt sv i)) G _ w' hsz2 hul hcl2 (by rw [hDe]; exact hM) (hinv _ (by rw [hd0])) ?_
          rw [hDe]
          exact (hsf.ext hxw2).put (by rw [hn]; exact g2 d0 hd0) hv
        · have hiE : i ∈ E := by rw [hE]; exact List.mem_map.2 ⟨_, xAt_mem hx, rfl⟩
          have hDe : (E.filter fun j => (listed.setIfInBounds i true).getD j false) = insD i D := by
            rw [hD]; exact filter_ins (by omega) hiu b4 hiE
          have hM2 : insD i D ∈ M := by
            have := List.all_eq_true.1 (List.all_eq_true.1 b7 D hM) i hiE
            rw [hpo] at this
            exact memM_mem (by simpa using this)
          have hfr : new = true → FreeF x.1 φ := by
            intro hnew
            have hf : ∀ (xs : Xe), freeOk l.toArray sv fr xs = true → (i, new, x) ∈ xs → frFree x.1 (frBut l.toArray i sv fr) = true := by
              intro xs
              induction xs with
              | nil => intro _ h; simp at h
              | cons y r ihx =>
                obtain ⟨e', n', x'⟩ := y
                intro hok hmem
                simp only [freeOk, Bool.and_eq_true, Bool.or_eq_true] at hok
                rcases List.mem_cons.1 hmem with q | q
                · cases q
                  rcases hok.1 with q | q
                  · rw [hnew] at q; simp at q
                  · exact q
                · exact ihx hok.2 q
            have hfe := hf xe hfree (xAt_mem hx)
            unfold frBut at hfe
            have hap : ∀ (a b : Fr), frFree x.1 (a ++ b) = true → frFree x.1 a = true ∧ frFree x.1 b = true := by
              intro a b
              induction a with
              | nil => intro h; exact ⟨rfl, h⟩
              | cons y r iha =>
                obtain ⟨j, s⟩ := y
                intro h
                simp only [List.cons_append, frFree, Bool.and_eq_true] at h ⊢
                exact ⟨⟨h.1, (iha h.2).1⟩, (iha h.2).2⟩
            obtain ⟨hf1, hf2⟩ := hap _ _ hfe
            intro t s hts
            rcases hI.from' t s hts with ⟨j, oj, h4, h5, h6, rfl⟩ | h4
            · have hmemf : ∀ (a : List Nat), frFree x.1 (a.map fun j => (j, svAt sv j)) = true → j ∈ a → (svAt sv j).free x.1 = true := by
                intro a
                induction a with
                | nil => intro _ h; simp at h
                | cons y r iha =>
                  intro hok hmem
                  simp only [List.map_cons, frFree, Bool.and_eq_true] at hok
                  rcases List.mem_cons.1 hmem with rfl | q
                  · exact hok.1
                  · exact iha hok.2 q
              refine hmemf _ hf1 (List.mem_filter.2 ⟨List.mem_range.2 ?_, ?_⟩)
              · simpa using (List.getElem?_eq_some_iff.1 h4).1
              · have hji : j ≠ i := fun q => by rw [q, hiu] at h5; cases h5
                have hbf : Bef l.toArray j i = false := by
                  cases hb : Bef l.toArray j i
                  · rfl
                  · have : listed.getD i false = true := bef_listed hc j hb (fun o' ho' e he hbd => hc j o' ho' h5 e he hbd)
                    rw [hiu] at this; cases this
                rw [beq_no hji, hbf]; rfl
            · exact freeF_of hf2 t s h4
          obtain ⟨_, hstep⟩ := hq φ htold hfr
          refine .inl (wp_of_does (hstep S G a w hn hsf) ?_)
          rintro v w' ⟨φ', ob'', G', ⟨hφ, rfl⟩, hs2⟩
          refine ih (listed.setIfInBounds i true) φ' G' _ w' hsz2 hul hcl2 (by rw [hDe]; exact hM2) (hinv φ' hφ) ?_
          rw [hDe]
          refine hs2.weakO (getO_ins hx ?_)
          intro d hd hid y hy
          have hk := List.all_eq_true.1 (List.all_eq_true.1 (List.all_eq_true.1 hkeys D hM) _ (xAt_mem hx)) d hd
          simp only [Bool.or_eq_true, Bool.not_eq_true'] at hk
          rcases hk with (hk | hk) | hk
          · have := ((hDl i).1 (hasN_iff.1 hk)).2
            rw [hiu] at this; cases this
          · have : Nat.blt i d = true := by simpa using hid
            rw [this] at hk; cases hk
          · rw [hy] at hk
            intro q
            simp only [Bool.not_eq_true'] at hk
            rw [q, Nat.beq_refl] at hk; cases hk
  have hlist0 : ∀ j, (Array.replicate l.length false).getD j false = false := by
    intro j
    simp only [Array.getD_eq_getD_getElem?]
    rcases Nat.lt_or_ge j l.length with h' | h'
    · simp [h']
    · simp [h']
  have hf0 : (E.filter fun j => (Array.replicate l.length false).getD j false) = [] := by
    rw [List.filter_eq_nil_iff]; intro e _; rw [hlist0]; simp
  have hu0 : unl (Array.replicate l.length false) l.length = l.length := by
    unfold unl
    have : (List.range l.length).countP (fun i => !(Array.replicate l.length false).getD i false) = (List.range l.length).length := by
      rw [List.countP_eq_length]; intro i _; rw [hlist0]; rfl
    rw [this, List.length_range]
  have := key l.length (Array.replicate l.length false) (getF fr) G a _ (by simp) hu0 (fun j o ho hl => by rw [hlist0] at hl; cases hl) (by rw [hf0]; exact memM_mem b6) ⟨fun j o d _ h4 _ => (by rw [hlist0] at h4; cases h4), fun t s h3 => .inr h3, fun t s h3 _ => h3⟩ (by rw [hf0]; exact hs')
  simpa using this

/-! ### the walk in the text's order -/
/-- the operations in the text's order; then K -/
def Lex1 (P : Program) (nt : Nat) (ops : Array Oper) (K : Fr → Obs → List SV → Xe → Prop) : Nat → List Oper → Fr → Obs → List SV → Xe → Prop
  | _, [], fr, ob, sv, xe => K fr ob sv.reverse xe
  | i, o :: l, fr, ob, sv, xe =>
    (turns o.op = false ∧ ∃ s d, o.dst = some d ∧ Neu P o (keepF fr (usesC o.op)) ob (fun s' => s' = s) ∧ Lex1 P nt ops K (i + 1) l ((d, s) :: fr) ob (s :: sv) xe) ∨
    (∃ new x s, EffQ P nt ops o (keepF fr (usesC o.op)) new ob x s ∧ Lex1 P nt ops K (i + 1) l (match o.dst with | some d => (d, s) :: fr | none => fr) (x :: ob) (s :: sv) ((i, new, x) :: xe))

def accFr : List Oper → List SV → Fr → Fr
  | o :: l, s :: sv, fr => accFr l sv (match o.dst with | some d => (d, s) :: fr | none => fr)
  | _, _, fr => fr
theorem accFr_get : ∀ {l : List Oper} {sv : List SV} {fr : Fr} {t : Nat} {s : SV}, sv.length = l.length → getF (accFr l sv fr) t = some s → (∃ j o, l[j]? = some o ∧ o.dst = some t ∧ s = svAt sv j) ∨ (t ∉ dstL l ∧ getF fr t = some s)
  | [], [], fr, t, s, _, h => .inr ⟨by simp [dstL], h⟩
  | [], _ :: _, _, _, _, hl, _ => by simp at hl
  | _ :: _, [], _, _, _, hl, _ => by simp at hl
  | o :: l, s0 :: sv, fr, t, s, hl, h => by
    unfold accFr at h
    rcases accFr_get (by simpa using hl) h with ⟨j, o', h1, h2, h3⟩ | ⟨h1, h2⟩
    · exact .inl ⟨j + 1, o', by simpa using h1, h2, by rw [h3]; simp [svAt]⟩
    · cases hd : o.dst with
      | none =>
        rw [hd] at h2
        exact .inr ⟨by unfold dstL; rw [hd]; exact h1, h2⟩
      | some d =>
        rw [hd] at h2
        have h2 : getF ((d, s0) :: fr) t = some s := h2
        by_cases hdt : d = t
        · subst hdt
          rw [getF_cons_same] at h2
          cases h2
          exact .inl ⟨0, o, rfl, hd, rfl⟩
        · rw [getF_cons_other hdt] at h2
          refine .inr ⟨?_, h2⟩
          unfold dstL; rw [hd]
          intro q
          rcases List.mem_cons.1 q with q | q
          · exact hdt q.symm
          · exact h1 q
/-- what one operation of the walk has shown -/
def At1 (P : Program) (nt : Nat) (ops : Array Oper) (o : Oper) (i : Nat) (fr : Fr) (ob : Obs) (s : SV) (xe : Xe) : Prop :=
  (turns o.op = false ∧ Neu P o (keepF fr (usesC o.op)) ob (fun s' => s' = s)) ∨ ∃ new x, xAt xe i = some (new, x) ∧ EffQ P nt ops o (keepF fr (usesC o.op)) new ob x s
/-- the objects of a walk -/
def obsX (ob : Obs) : Xe → Obs
  | [] => ob
  | (_, _, x) :: r => x :: obsX ob r
theorem xAt_app {a b : Xe} {e : Nat} (h : ∀ p ∈ a, p.1 ≠ e) : xAt (a ++ b) e = xAt b e := by
  induction a with
  | nil => rfl
  | cons y r ih =>
    obtain ⟨i, y⟩ := y
    have h1 : i ≠ e := h (i, y) (List.mem_cons_self ..)
    show cond (Nat.beq i e) (some y) (xAt (r ++ b) e) = _
    rw [beq_no h1]
    exact ih fun p hp => h p (List.mem_cons_of_mem _ hp)
theorem lex1_get {ops : Array Oper} {K : Fr → Obs → List SV → Xe → Prop} {ob0 : Obs} : ∀ {l : List Oper} {i : Nat} {fr : Fr} {ob : Obs} {sv : List SV} {xe : Xe}, Lex1 P nt ops K i l fr ob sv xe → ob = obsX ob0 xe → (∀ p ∈ xe, p.1 < i) →
    ∃ sv' xe', sv'.length = l.length ∧ (∀ p ∈ xe', i ≤ p.1 ∧ p.1 < i + l.length) ∧ desc (xe'.map (·.1)) = true ∧ K (accFr l sv' fr) (obsX ob0 (xe' ++ xe)) (sv.reverse ++ sv') (xe' ++ xe) ∧
      ∀ j o, l[j]? = some o → ∃ xa xb, xe' = xa ++ xb ∧ (∀ p ∈ xb, p.1 < i + j) ∧ (∀ p ∈ xa, i + j ≤ p.1) ∧ At1 P nt ops o (i + j) (accFr (l.take j) (sv'.take j) fr) (obsX ob0 (xb ++ xe)) (svAt sv' j) xe'
  | [], i, fr, ob, sv, xe, h, hob, _ => by
    refine ⟨[], [], rfl, by simp, rfl, ?_, fun j o ho => by simp at ho⟩
    rw [List.append_nil, List.nil_append, ← hob]; exact h
  | o :: l, i, fr, ob, sv, xe, h, hob, hx => by
    rcases h with ⟨ht, s, d, hd, hn, hr⟩ | ⟨new, x, s, hq, hr⟩
    · obtain ⟨sv', xe', h1, h2, h3, h4, h5⟩ := lex1_get (ob0 := ob0) hr hob (fun p hp => by have := hx p hp; omega)
      have hacc : accFr (o :: l) (s :: sv') fr = accFr l sv' ((d, s) :: fr) := by
        show accFr l sv' (match o.dst with | some d => (d, s) :: fr | none => fr) = _
        rw [hd]
      refine ⟨s :: sv', xe', by simp [h1], fun p hp => by have := h2 p hp; simp only [List.length_cons]; omega, h3, ?_, ?_⟩
      · rw [hacc]
        simpa using h4
      · intro j o' ho'
        cases j with
        | zero =>
          simp at ho'; subst ho'
          refine ⟨xe', [], by simp, by simp, fun p hp => by have := h2 p hp; omega, ?_⟩
          rw [List.nil_append, ← hob]
          exact .inl ⟨ht, hn⟩
        | succ j =>
          obtain ⟨xa, xb, e1, e2, e3, e4⟩ := h5 j o' (by simpa using ho')
          refine ⟨xa, xb, e1, fun p hp => by have := e2 p hp; omega, fun p hp => by have := e3 p hp; omega, ?_⟩
          have e5 : accFr ((o :: l).take (j + 1)) ((s :: sv').take (j + 1)) fr = accFr (l.take j) (sv'.take j) ((d, s) :: fr) := by
            show accFr (l.take j) (sv'.take j) (match o.dst with | some d => (d, s) :: fr | none => fr) = _
            rw [hd]
          rw [e5, show i + (j + 1) = i + 1 + j by omega, show svAt (s :: sv') (j + 1) = svAt sv' j by simp [svAt]]
          exact e4
    · obtain ⟨sv', xe', h1, h2, h3, h4, h5⟩ := lex1_get (ob0 := ob0) hr (by rw [hob]; rfl) (fun p hp => by
        rcases List.mem_cons.1 hp with rfl | hp
        · exact Nat.lt_succ_self _
        · have := hx p hp; omega)
      refine ⟨s :: sv', xe' ++ [(i, new, x)], by simp [h1], ?_, ?_, ?_, ?_⟩
      · intro p hp
        rcases List.mem_append.1 hp with hp | hp
        · have := h2 p hp; simp only [List.length_cons]; omega
        · simp at hp; subst hp; simp only [List.length_cons]; omega
      · have hda : ∀ (a : List Nat) (b : Nat), desc a = true → (∀ x ∈ a, b < x) → desc (a ++ [b]) = true := by
          intro a b
          induction a with
          | nil => intro _ _; rfl
          | cons y r ih =>
            intro h6 h7
            simp only [desc, Bool.and_eq_true] at h6
            simp only [List.cons_append, desc, Bool.and_eq_true]
            refine ⟨List.all_eq_true.2 fun z hz => ?_, ih h6.2 fun x hx => h7 x (List.mem_cons_of_mem _ hx)⟩
            rcases List.mem_append.1 hz with hz | hz
            · exact List.all_eq_true.1 h6.1 z hz
            · simp at hz; subst hz; simpa using h7 y (List.mem_cons_self ..)
        rw [List.map_append]
        refine hda _ i h3 fun y hy => ?_
        obtain ⟨p, hp, rfl⟩ := List.mem_map.1 hy
        have := h2 p hp; omega
      · have e : accFr (o :: l) (s :: sv') fr = accFr l sv' (match o.dst with | some d => (d, s) :: fr | none => fr) := rfl
        rw [e]
        simpa using h4
      · intro j o' ho'
        cases j with
        | zero =>
          simp at ho'; subst ho'
          refine ⟨xe' ++ [(i, new, x)], [], by simp, by simp, ?_, ?_⟩
          · intro p hp
            rcases List.mem_append.1 hp with hp | hp
            · have := h2 p hp; omega
            · simp at hp; subst hp; simp
          · rw [List.nil_append, ← hob]
            refine .inr ⟨new, x, ?_, hq⟩
            rw [xAt_app (fun p hp => by have := h2 p hp; omega)]
            show cond (Nat.beq i (i + 0)) _ _ = _
            rw [Nat.add_zero, Nat.beq_refl]; rfl
        | succ j =>
          obtain ⟨xa, xb, e1, e2, e3, e4⟩ := h5 j o' (by simpa using ho')
          refine ⟨xa, xb ++ [(i, new, x)], by rw [e1]; simp, ?_, fun p hp => by have := e3 p hp; omega, ?_⟩
          · intro p hp
            rcases List.mem_append.1 hp with hp | hp
            · have := e2 p hp; omega
            · simp at hp; subst hp; simp
          · have e5 : accFr ((o :: l).take (j + 1)) ((s :: sv').take (j + 1)) fr = accFr (l.take j) (sv'.take j) (match o.dst with | some d => (d, s) :: fr | none => fr) := rfl
            rw [e5, show i + (j + 1) = i + 1 + j by omega, show svAt (s :: sv') (j + 1) = svAt sv' j by simp [svAt], List.append_assoc]
            rcases e4 with e4 | ⟨n', x', e6, e7⟩
            · exact .inl e4
            · refine .inr ⟨n', x', ?_, e7⟩
              have hxe : ∀ (a b : Xe) (e : Nat) y, xAt a e = some y → xAt (a ++ b) e = some y := by
                intro a b e y
                induction a with
                | nil => intro h; cases h
                | cons z r ih =>
                  obtain ⟨q, z⟩ := z
                  intro h
                  show cond (Nat.beq q e) (some z) (xAt (r ++ b) e) = _
                  unfold xAt at h
                  cases hb : Nat.beq q e
                  · rw [hb] at h; exact ih h
                  · rw [hb] at h; exact h
              exact hxe _ _ _ _ e6

/-- what is left to be shown once the walk is done -/
def Rest1 (P : Program) (nt : Nat) (l : List Oper) (M : List (List Nat)) (req : List (Nat × List Nat)) (E : List Nat) (fr0 : Fr) (ob0 : Obs) (Q : Post) (fr : Fr) (ob : Obs) (sv : List SV) (xe : Xe) : Prop :=
  (sameL (xe.map (·.1)) E && (freeOk l.toArray sv fr0 xe && keysOk xe M)) = true ∧ Ob1s P nt l sv xe fr0 ob0 req ∧ Q .normal fr ob

theorem obD_desc {ob : Obs} : ∀ {xe : Xe}, desc (xe.map fun p => p.1) = true → obD xe ob (xe.map fun p => p.1) = obsX ob xe := by
  have key : ∀ (all : Xe) (xe : Xe), (∀ p ∈ xe, xAt all p.1 = some p.2) → obD all ob (xe.map (·.1)) = obsX ob xe := by
    intro all xe
    induction xe with
    | nil => intro _; rfl
    | cons y r ih =>
      intro h
      obtain ⟨i, n, x⟩ := y
      have h1 := h (i, n, x) (List.mem_cons_self ..)
      have h1 : xAt all i = some (n, x) := h1
      show (match xAt all i with | some x => x.2 :: obD all ob (r.map (fun p : Nat × Bool × (Nat × Ob) => p.1)) | none => obD all ob (r.map (fun p : Nat × Bool × (Nat × Ob) => p.1))) = _
      rw [h1, ih fun p hp => h p (List.mem_cons_of_mem _ hp)]
      rfl
  intro xe h
  refine key xe xe ?_
  have look : ∀ (xe : Xe), desc (xe.map (·.1)) = true → ∀ p ∈ xe, xAt xe p.1 = some p.2 := by
    intro xe
    induction xe with
    | nil => intro _ p hp; simp at hp
    | cons y r ih =>
      intro h p hp
      obtain ⟨i, y⟩ := y
      simp only [List.map_cons, desc, Bool.and_eq_true] at h
      rcases List.mem_cons.1 hp with rfl | hp
      · show cond (Nat.beq i i) (some y) _ = _
        rw [Nat.beq_refl]; rfl
      · have hlt : p.1 < i := by simpa using List.all_eq_true.1 h.1 p.1 (List.mem_map.2 ⟨p, hp, rfl⟩)
        show cond (Nat.beq i p.1) (some y) (xAt r p.1) = _
        rw [beq_no (by omega)]
        exact ih h.2 p hp
  exact look xe h
theorem obD_low {ob : Obs} {xa xb : Xe} {j : Nat} (hd : desc ((xa ++ xb).map (·.1)) = true) (ha : ∀ p ∈ xa, j ≤ p.1) (hb : ∀ p ∈ xb, p.1 < j) : obD (xa ++ xb) ob (lexD ((xa ++ xb).map (·.1)) j) = obsX ob xb := by
  have e : lexD ((xa ++ xb).map (·.1)) j = xb.map (·.1) := by
    unfold lexD
    rw [List.map_append, List.filter_append, List.filter_eq_nil_iff.2, List.nil_append, List.filter_eq_self.2]
    · intro y hy
      obtain ⟨p, hp, rfl⟩ := List.mem_map.1 hy
      simpa using hb p hp
    · intro y hy
      obtain ⟨p, hp, rfl⟩ := List.mem_map.1 hy
      have := ha p hp
      simp; omega
  rw [e]
  have hd2 : desc (xb.map (·.1)) = true := by
    have : ∀ (a b : List Nat), desc (a ++ b) = true → desc b = true := by
      intro a b
      induction a with
      | nil => exact fun h => h
      | cons y r ih => intro h; simp only [List.cons_append, desc, Bool.and_eq_true] at h; exact ih h.2
    rw [List.map_append] at hd
    exact this _ _ hd
  rw [← obD_desc (ob := ob) hd2]
  have hl : ∀ (D : List Nat), (∀ e ∈ D, e < j) → obD (xa ++ xb) ob D = obD xb ob D := by
    intro D
    induction D with
    | nil => intro _; rfl
    | cons e D ih =>
      intro h
      have h1 : xAt (xa ++ xb) e = xAt xb e := xAt_app fun p hp => by
        have := ha p hp
        have := h e (List.mem_cons_self ..)
        omega
      show (match xAt (xa ++ xb) e with | some x => x.2 :: obD (xa ++ xb) ob D | none => obD (xa ++ xb) ob D) = (match xAt xb e with | some x => x.2 :: obD xb ob D | none => obD xb ob D)
      rw [h1, ih fun e' he' => h e' (List.mem_cons_of_mem _ he')]
  refine hl _ fun e he => ?_
  obtain ⟨p, hp, rfl⟩ := List.mem_map.1 he
  exact hb p hp

/-- A DRAWN REGION, walked in the text's order; then what other orders ask -/
theorem c_region_any {id : Nat} {l : List Oper} {fr : Fr} {ob : Obs} {Q : Post} (E : List Nat) (M : List (List Nat)) (req : List (Nat × List Nat)) (hm : P.follows .mixedOrders = true)
    (hB : confOk nt l E M req = true) (h : Lex1 P nt l.toArray (Rest1 P nt l M req E fr ob Q) 0 l fr ob [] []) : WpC P nt (.region id l.toArray true) fr ob Q := by
  obtain ⟨sv, xe, h1, h2, h3, h4, h5⟩ := lex1_get (ob0 := ob) h rfl (fun p hp => by simp at hp)
  rw [List.append_nil, List.reverse_nil, List.nil_append] at h4
  obtain ⟨hc, hreq, hQ⟩ := h4
  simp only [Bool.and_eq_true] at hc
  have hE := sameL_eq hc.1
  have hcf := hB
  unfold confOk at hcf
  simp only [Bool.and_eq_true] at hcf
  obtain ⟨⟨⟨⟨⟨⟨b1, b2⟩, b3⟩, b4⟩, b5⟩, b6⟩, b7⟩ := hcf
  refine c_region_conf sv xe M req hm h1 (by rw [hE]; exact hB) ?_ hc.2.1 hc.2.2 hreq (fr' := accFr l sv fr) (fun t s ht => accFr_get h1 ht) (by rw [obD_desc h3]; exact hQ)
  intro i hi
  have ho : l[i]? = some l[i] := List.getElem?_eq_getElem hi
  obtain ⟨xa, xb, e1, e2, e3, e4⟩ := h5 i _ ho
  rw [Nat.zero_add] at e2 e3 e4
  rw [List.append_nil] at e4
  have hob : obD xe ob (lexD (xe.map (·.1)) i) = obsX ob xb := by
    rw [e1] at h3 ⊢
    exact obD_low h3 e3 e2
  have hU : UIn l sv fr l[i] (keepF (accFr (l.take i) (sv.take i) fr) (usesC l[i].op)) := by
    intro t s ht
    have hus := keepF_mem ht
    refine ⟨hus, ?_⟩
    have q2 := List.all_eq_true.1 b2 i (List.mem_range.2 hi)
    simp only [List.getElem?_toArray, ho] at q2
    simp only [Bool.and_eq_true] at q2
    obtain ⟨q3, q4, q5, q6, q7⟩ := q2
    rcases accFr_get (by rw [List.length_take, List.length_take]; omega) (getF_keepF ht) with ⟨j, o', h6, h7, h8⟩ | ⟨h6, h7⟩
    · have hj : j < i := by
        have := (List.getElem?_eq_some_iff.1 h6).1
        rw [List.length_take] at this; omega
      rw [List.getElem?_take_of_lt hj] at h6
      refine .inl ⟨j, o', h6, h7, ?_⟩
      rw [h8]; unfold svAt
      rw [List.getD_eq_getElem?_getD, List.getD_eq_getElem?_getD, List.getElem?_take_of_lt hj]
    · refine .inr ⟨?_, h7⟩
      intro hin
      have hex : ∀ (m : List Oper) (t : Nat), t ∈ dstL m → ∃ (j : Nat) (o' : Oper), m[j]? = some o' ∧ o'.dst = some t := by
        intro m t
        induction m with
        | nil => intro h; simp [dstL] at h
        | cons o m ih =>
          intro h
          unfold dstL at h
          cases hd : o.dst with
          | none => rw [hd] at h; obtain ⟨j, o', h1, h2⟩ := ih h; exact ⟨j + 1, o', by simpa using h1, h2⟩
          | some d =>
            rw [hd] at h
            rcases List.mem_cons.1 h with rfl | h
            · exact ⟨0, o, rfl, hd⟩
            · obtain ⟨j, o', h1, h2⟩ := ih h; exact ⟨j + 1, o', by simpa using h1, h2⟩
      obtain ⟨j, o', h8, h9⟩ := hex l t hin
      have hjl : j < l.length := (List.getElem?_eq_some_iff.1 h8).1
      have hbf := List.all_eq_true.1 (List.all_eq_true.1 q5.1 t hus) j (List.mem_range.2 hjl)
      simp only [h8, h9] at hbf
      have hbf : Bef l.toArray i j = true := by simpa using hbf
      have hlt := List.all_eq_true.1 q5.2 j (List.mem_range.2 hjl)
      rw [hbf] at hlt
      have hlt : j < i := by simpa using hlt
      exact h6 (dstL_get (l := l.take i) (j := j) (by rw [List.getElem?_take_of_lt hlt]; exact h8) h9)
  refine ⟨l[i], _, ho, hU, ?_⟩
  rw [hob]
  rcases e4 with ⟨e5, e6⟩ | ⟨n, x, e5, e6⟩
  · exact .inl ⟨e5, e6⟩
  · exact .inr ⟨n, x, e5, e6⟩

theorem a_neu {ops : Array Oper} {K : Fr → Obs → List SV → Xe → Prop} {i d : Nat} {l : List Oper} {fr : Fr} {ob : Obs} {sv : List SV} {xe : Xe} {op : Op} {ty : TypeId} {pos : String} {af : Array Edge} {gd : Option (Nat × Bool)} {s : SV} (ht : turns op = false)
    (h : Neu P ⟨some d, op, ty, pos, af, gd⟩ (keepF fr (usesC op)) ob (fun s' => s' = s)) (k : Lex1 P nt ops K (i + 1) l ((d, s) :: fr) ob (s :: sv) xe) : Lex1 P nt ops K i (⟨some d, op, ty, pos, af, gd⟩ :: l) fr ob sv xe :=
  .inl ⟨ht, s, d, rfl, h, k⟩
theorem a_alloc {ops : Array Oper} {K : Fr → Obs → List SV → Xe → Prop} {i al : Nat} {l : List Oper} {fr : Fr} {ob : Obs} {sv : List SV} {xe : Xe} {ty : TypeId} {pos : String} {af : Array Edge} (k : Nat) {e : TypeId} {z : Value} [hz : TyZero P e z] (h2 : obFree k ob = true) (hd : Nat.blt al nt = true)
    (kk : Lex1 P nt ops K (i + 1) l ((al, .s (.one (.ref k 0))) :: fr) ((k, .box (z.cells.toList.map fun c => .p (.v c))) :: ob) ((.s (.one (.ref k 0))) :: sv) ((i, true, (k, .box (z.cells.toList.map fun c => .p (.v c)))) :: xe)) :
    Lex1 P nt ops K i (⟨some al, .alloc e, ty, pos, af, none⟩ :: l) fr ob sv xe :=
  .inr ⟨true, _, _, q_alloc h2 hd, kk⟩
theorem a_store {ops : Array Oper} {K : Fr → Obs → List SV → Xe → Prop} {i : Nat} {l : List Oper} {fr : Fr} {ob : Obs} {sv : List SV} {xe : Xe} {op : Op} {ty : TypeId} {pos : String} {af : Array Edge} {x : Nat × Ob} (h : EffU P ⟨none, op, ty, pos, af, none⟩ (keepF fr (usesC op)) ob (x :: ob))
    (kk : Lex1 P nt ops K (i + 1) l fr (x :: ob) (.any :: sv) ((i, false, x) :: xe)) : Lex1 P nt ops K i (⟨none, op, ty, pos, af, none⟩ :: l) fr ob sv xe :=
  .inr ⟨false, x, .any, q_store h, kk⟩
theorem a_nil {ops : Array Oper} {l : List Oper} {M : List (List Nat)} {req : List (Nat × List Nat)} {E : List Nat} {fr0 : Fr} {ob0 : Obs} {Q : Post} {i : Nat} {fr : Fr} {ob : Obs} {sv : List SV} {xe : Xe}
    (hc : (sameL (xe.map (·.1)) E && (freeOk l.toArray sv.reverse fr0 xe && keysOk xe M)) = true) (h2 : Ob1s P nt l sv.reverse xe fr0 ob0 req) (h3 : Q .normal fr ob) : Lex1 P nt ops (Rest1 P nt l M req E fr0 ob0 Q) i [] fr ob sv xe := ⟨hc, h2, h3⟩
theorem o_nil {l : List Oper} {sv : List SV} {xe : Xe} {fr : Fr} {ob : Obs} : Ob1s P nt l sv xe fr ob [] := trivial
theorem o_neu {l : List Oper} {sv : List SV} {xe : Xe} {fr : Fr} {ob : Obs} {i : Nat} {D : List Nat} {r : List (Nat × List Nat)} {o : Oper} (ho : l[i]? = some o) (ht : turns o.op = false) (h : Neu P o (keepF (allFr l sv fr) (usesC o.op)) (obD xe ob D) (fun s' => s' = svAt sv i))
    (k : Ob1s P nt l sv xe fr ob r) : Ob1s P nt l sv xe fr ob ((i, D) :: r) := ⟨⟨o, ho, .inl ⟨ht, h⟩⟩, k⟩
theorem o_alloc {l : List Oper} {sv : List SV} {xe : Xe} {fr : Fr} {ob : Obs} {i : Nat} {D : List Nat} {r : List (Nat × List Nat)} {al k : Nat} {e : TypeId} {z : Value} {ty : TypeId} {pos : String} {af : Array Edge} (ho : l[i]? = some ⟨some al, .alloc e, ty, pos, af, none⟩) [hz : TyZero P e z]
    (hx : xAt xe i = some (true, (k, .box (z.cells.toList.map fun c => .p (.v c))))) (h2 : obFree k (obD xe ob D) = true) (hd : Nat.blt al nt = true) (hs : svAt sv i = .s (.one (.ref k 0)))
    (kk : Ob1s P nt l sv xe fr ob r) : Ob1s P nt l sv xe fr ob ((i, D) :: r) := ⟨⟨_, ho, .inr ⟨true, _, hx, by rw [hs]; exact q_alloc h2 hd⟩⟩, kk⟩
end
end Go.AL
