/- The statement's last steps, common to all laws. No project text. -/
import Derived.Test.YtljfkoaafocglaaB
namespace Go.Proofs.Ytljfkoaafocglaa
open Go Go.AL Go.ChangeShapes Go.WideShapes Go.RowKit

section
variable {H : Type} {enc : TypeId × Value → H}

/-- the contract may use that the program's variables are laid -/
theorem returns_shaped {a : Assume} {C : Checked} {os : Os} {f : FuncId} {fn : Func} {s : OpenSpec} {k : (H : Type) → List (DataW H) → Bool} (hk : s.cond = some k) {F : Stop.Interp} {conds : List PathCond} {apart fresh handsOn again : Bool}
    (own : ownKnob C.prog.godebug = none) (started : os.Started) (noInit : C.prog.inits.idxOf? f = none) (hfn : C.prog.funcs[f]? = some fn)
    (witness : ∃ (w : World) (tape : Tape) (i : Input), w.os = os ∧ (w.forCall tape i).Shaped C.prog ∧ i.vars = [] ∧ Input.okWide C.prog (w.forCall tape i) .any w.heap.size f i ∧
      s.pre6 enc C.prog fn conds apart (w.forCall tape i).memory i.args ∧ a.holds C.prog (lone (Frame.enter C.prog f i.args .normal) [] (w.forCall tape i)))
    (contract : ∀ (W : World) (base : Nat) (args : Array Value) (ds gs : List (DataW H)) (before : List MemPlace), W.ShapedOpen C.prog →
      (∀ (j : Nat) t v, fn.params[j]? = some t → args[j]? = some v → Value.okWide C.prog W .any base t v) →
      DataW.Whole enc C.prog fn.params.toList s.vars apart W args.toList ds gs before → k H (ds ++ gs) = true →
      Calls C.prog f args W fun e W' => ∃ v, e = .returned v ∧ (s.at F).post enc C.prog fn apart fresh handsOn again W args v W') :
    ReturnsInHanded a C os f .any (s.pre6 enc C.prog fn conds apart) ((s.at F).post enc C.prog fn apart fresh handsOn again) := by
  refine returnsInHanded_of_calls own started noInit witness fun w tape i _ hsh _ hok hpre _ => ?_
  obtain ⟨_, _, _, fn', hfn', _, _, _, _, hval⟩ := hok
  obtain rfl : fn' = fn := Option.some.inj (hfn'.symm.trans hfn)
  obtain ⟨ds, gs, before, hw, _, hkk⟩ := (OpenSpec.pre_some hk conds apart _ _).1 hpre.1
  refine (contract (w.forCall tape i) w.heap.size i.args ds gs before hsh hval (DataW.Whole.of_heap (w' := w.forCall tape i) (by rfl) hw) hkk).mono fun e W' h => ?_
  obtain ⟨v, rfl, hp⟩ := h
  exact ChangeSpec.post_blind hp

theorem grd_start {P : Program} {W : World} (h : W.ShapedOpen P) : Grd P (fun _ => False) W := ⟨W, h, Nat.le_refl _, fun _ _ => ⟨rfl, id⟩⟩

/-- what is known of all arguments -/
def ArgsAre (P : Program) (W : World) (enc : TypeId × Value → H) : List TypeId → List Value → List (DataW H) → List MemPlace → List PV → Prop
  | [], [], [], ps, [] => ps = []
  | t :: ts, v :: vs, d :: ds, ps, p :: pvs => ∃ q r, ArgIs P W enc t v d q p ∧ ArgsAre P W enc ts vs ds r pvs ∧ ps = q ++ r
  | _, _, _, _, _ => False

theorem ArgsAre.rep {P : Program} {W : World} : ∀ {ts : List TypeId} {vs : List Value} {ds : List (DataW H)} {ps : List MemPlace} {pvs : List PV}, ArgsAre P W enc ts vs ds ps pvs → All2 (PV.rep (rd0 W)) pvs vs
  | [], [], [], _, [], _ => trivial
  | _ :: _, _ :: _, _ :: _, _, _ :: _, h => by obtain ⟨q, r, h1, h2, _⟩ := h; exact ⟨h1.1, h2.rep⟩

theorem ArgsAre.trod {P : Program} {W : World} {sp : Nat → Bool} : ∀ {ts : List TypeId} {vs : List Value} {ds : List (DataW H)} {ps : List MemPlace} {pvs : List PV}, ArgsAre P W enc ts vs ds ps pvs → (∀ p ∈ ps, sp p.block = true) → DataW.TrodAll enc P W 0 sp true ts vs ds ps
  | [], [], [], _, [], h, _ => h
  | _ :: _, _ :: _, _ :: _, _, _ :: _, h, hs => by
    obtain ⟨q, r, h1, h2, rfl⟩ := h
    exact ⟨q, r, h1.2 sp (fun p hp => hs p (by simp [hp])), h2.trod (fun p hp => hs p (by simp [hp])), rfl⟩

/-- a law's contract gives its statement's post -/
theorem law_post {P : Program} {f : FuncId} {fn : Func} {s : ChangeSpec} {apart fresh handsOn again : Bool} {W : World} {args : Array Value} {ds : List (DataW H)} {before p : List MemPlace} {pvs : List PV} {tb : TypeId}
    (hsh : W.ShapedOpen P) (hvars : s.vars = []) (hrt : fn.resultTypes = #[tb]) (hb : P.underlying tb = some .bool)
    (hW : DataW.Whole enc P fn.params.toList s.vars apart W args.toList ds [] before) (hbef : before = p) (hA : ArgsAre P W enc fn.params.toList args.toList ds p pvs)
    (hsr : (s.fn H (ds ++ [])).results = [.lit (.bool true)]) (hsa : (s.fn H (ds ++ [])).args = ds) (hsv : (s.fn H (ds ++ [])).vars = [])
    (hf : FnOk P f pvs (fun rs => rs = [pBool true])) : Calls P f args W fun e W' => ∃ v, e = .returned v ∧ s.post enc P fn apart fresh handsOn again W args v W' := by
  subst hbef
  unfold FnOk at hf
  have hc := hf.2 W (fun _ _ => False) args.toList (grd_start hsh) (fun _ _ h => h.elim) hA.rep
  rw [Array.toArray_toList] at hc
  refine hc.mono fun e W' h => ?_
  obtain ⟨v, rs, rfl, rfl, hr, hbl⟩ := h
  obtain ⟨rfl, _⟩ : v = .bool true ∧ _ := hr
  have hlt : ∀ q ∈ before, q.block < W.heap.size := fun q hq => hW.lt q hq
  have hold : ∀ q ∈ before, (fun b => decide (b < W.heap.size)) q.block = true := fun q hq => by simpa using hlt q hq
  have hres : ∀ (b : Nat) (sp : Nat → Bool) (hd : Bool), DataW.TrodAll enc P W' b sp hd fn.resultTypes.toList ((Value.bool true).resultList fn.resultTypes.size) (s.fn H (ds ++ [])).results [] := by
    intro b sp hd
    rw [hrt, hsr]
    exact trodAll_cons_mk (shut_bool hb _) trodAll_mk0
  have hargs : ∀ sp : Nat → Bool, (∀ q ∈ before, sp q.block = true) → DataW.TrodAll enc P W' 0 sp true fn.params.toList args.toList (s.fn H (ds ++ [])).args before := by
    intro sp hsp
    rw [hsa]
    exact trodAll_of hbl (hA.trod hsp)
  have hvs : ∀ sp : Nat → Bool, DataW.TrodVars enc P W' sp s.vars (s.fn H (ds ++ [])).vars [] := by
    intro sp; rw [hvars, hsv]; rfl
  have hok : ∀ (j : Nat) (t : TypeId) (r : Value), fn.resultTypes[j]? = some t → ((Value.bool true).resultList fn.resultTypes.size)[j]? = some r → Value.okWide P W' .any 0 t r := by
    exact ok_one hrt rfl (okWide_bool_mk hb _)
  refine ⟨_, rfl, ds, [], before, [], before, [], hW, hres _ _ _, hargs _ hold, hvs _, World.keptBut_mono (fun q hq => ⟨hq, .inr (.inl hq)⟩) (hbl.frame (· ∈ before)), fun _ => ?_⟩
  obtain ⟨_, _, _, _, _, hz, hn⟩ := hW
  refine ⟨hok, _, _, ([] ++ before) ++ [], ⟨[] ++ before, [], trodAll_append (hargs _ (fun _ _ => rfl)) (hres _ _ _), hvs _, rfl, ?_, ?_⟩, ?_⟩
  · intro b off hp
    have hin : MemPlace.cell b off ∈ before := by simpa using hp
    rw [hbl.frozen (hlt _ hin)]
    exact hz b off hin
  · intro ha
    simpa using hn ha
  · intro q hq _
    simpa using hq
end
end Go.Proofs.Ytljfkoaafocglaa
