/- From contracts to statements; no project text. -/
import Derived.Test.YtgejaedjnbjpoaaGreatDoorRows
import Derived.Test.YtgejaedjnbjpoaaGreatDoorAm
import Derived.ProofKit
import Derived.OpenShut
import Derived.JoinedCond
import Derived.Below
import Derived.DataShut
import Derived.ChangeSame
import Derived.Deep.DeepHandedRow
import Derived.Deep.DeepLaidRun
import Derived.Lib.LaidU8
import Derived.Lib.TrailingZeros
namespace Go.Proofs.YtgejaedjnbjpoaaGreatDoor
open Go Go.AL Go.ChangeShapes Go.WideShapes Go.RowKit
abbrev rd0 (W : World) : Rd := E4 (fun _ _ => False) W
structure Reads (P : Program) (t : TypeId) (α : Type) (ec : Nat) (c : α → Nat → Cell) (good : α → Prop) (m : α → Nat) : Prop where
 cells : P.cellsOf t = ec
 read : ∀ {H : Type} {enc : TypeId × Value → H} {W : World} {fuel : Nat} {cs : List Value} {x : DataW H × List MemPlace}, DataW.trod enc P W 0 (fun _ => true) true fuel t cs = some x → Rows.uptoBulk x.1 ≤ 1048576 →
  cs.length = ec ∧ ∃ a, good a ∧ m a ≤ Rows.uptoBulk x.1 ∧ ∀ j, j < ec → ∃ z, cs[j]? = some z ∧ (c a j).rep (rd0 W) z
 again : ∀ {H : Type} {enc : TypeId × Value → H} {W : World} {fuel : Nat} {cs : List Value} {x : DataW H × List MemPlace} {sp : Nat → Bool}, DataW.trod enc P W 0 (fun _ => true) true fuel t cs = some x → (∀ p ∈ x.2, sp p.block = true) →
  DataW.trod enc P W 0 sp true fuel t cs = some x
section
variable {P : Program}
theorem reads_int {t : TypeId} {k : IntKind} (ht : P.underlying t = some (.int k)) (hc : P.cellsOf t = 1) : Reads P t Int 1 (fun n _ => .v (.int k n)) (fun n => (Lit.int k n).wf = true) (fun _ => 1) where
 cells := hc
 read := fun h _ => by
  obtain ⟨n, rfl, rfl, hw⟩ := DataW.trod_int ht h
  exact ⟨rfl, n, hw, by simp [Rows.uptoBulk], fun j hj => by (have e : j = 0 := by omega); subst e; exact ⟨_, rfl, rfl, rfl⟩⟩
 again := fun {H enc W fuel cs x sp} h _ => by
  obtain ⟨n, rfl, rfl, hw⟩ := DataW.trod_int ht h
  cases fuel with
  | zero => simp [DataW.trod] at h
  | succ n => simpa [DataW.trod, ht] using h
theorem reads_string {t : TypeId} (ht : P.underlying t = some .string) (hc : P.cellsOf t = 1) : Reads P t (List UInt8) 1 K9 (fun _ => True) (fun s => s.length + 1) where
 cells := hc
 read := fun h _ => by
  obtain ⟨s, rfl, rfl, hw⟩ := DataW.trod_string ht h
  exact ⟨rfl, s.data.toList, trivial, by simp [Rows.uptoBulk], fun j hj => by (have e : j = 0 := by omega); subst e; exact ⟨_, rfl, by simp, rfl⟩⟩
 again := fun {H enc W fuel cs x sp} h _ => by
  obtain ⟨s, rfl, rfl, hw⟩ := DataW.trod_string ht h
  cases fuel with
  | zero => simp [DataW.trod] at h
  | succ n => simp [DataW.trod, ht, hw]
section
variable {H : Type} {enc : TypeId × Value → H} {W : World} {r : Reach} {b0 : Nat} {t : TypeId} {v : Value} {d : DataW H} {ps : List MemPlace}
def ArgIs (P : Program) (W : World) (enc : TypeId × Value → H) (t : TypeId) (v : Value) (d : DataW H) (ps : List MemPlace) (p : PV) : Prop :=
 p.rep (rd0 W) v ∧ ∀ sp : Nat → Bool, (∀ p ∈ ps, sp p.block = true) → DataW.Trod enc P W 0 sp true t v d ps
theorem arg_one {α : Type} {c : α → Nat → Cell} {good : α → Prop} {m : α → Nat} (R : Reads P t α 1 c good m) (hone : v.cells = #[v]) (h : DataW.Trod enc P W 0 (fun _ => true) true t v d ps) (hB : Rows.uptoBulk d ≤ 1048576) :
  ∃ a, good a ∧ m a ≤ Rows.uptoBulk d ∧ ArgIs P W enc t v d ps (.one (c a 0)) := by
 obtain ⟨fuel, h⟩ := h
 obtain ⟨_, a, hg, hm, hz⟩ := R.read h hB
 obtain ⟨z, hz1, hz2⟩ := hz 0 (by omega)
 refine ⟨a, hg, hm, ?_, fun sp hsp => ⟨fuel, R.again h hsp⟩⟩
 rw [hone] at hz1
 have : v = z := by simpa using hz1
 rw [← this] at hz2
 exact hz2
theorem arg_int {k : IntKind} {α : Type} {c : α → Nat → Cell} {good : α → Prop} {m : α → Nat} (R : Reads P t α 1 c good m) (ht : P.underlying t = some (.int k)) (hv : Value.okWide P W r b0 t v) (h : DataW.Trod enc P W 0 (fun _ => true) true t v d ps) (hB : Rows.uptoBulk d ≤ 1048576) :
  ∃ a, good a ∧ m a ≤ Rows.uptoBulk d ∧ ArgIs P W enc t v d ps (.one (c a 0)) := by
 obtain ⟨n, rfl⟩ := okWide_int ht hv
 exact arg_one R rfl h hB
theorem arg_string {α : Type} {c : α → Nat → Cell} {good : α → Prop} {m : α → Nat} (R : Reads P t α 1 c good m) (ht : P.underlying t = some .string) (hv : Value.okWide P W r b0 t v) (h : DataW.Trod enc P W 0 (fun _ => true) true t v d ps) (hB : Rows.uptoBulk d ≤ 1048576) :
  ∃ a, good a ∧ m a ≤ Rows.uptoBulk d ∧ ArgIs P W enc t v d ps (.one (c a 0)) := by
 obtain ⟨n, rfl⟩ := okWide_string ht hv
 exact arg_one R rfl h hB
end
end
section
variable {H : Type} {enc : TypeId × Value → H} {P : Program}
theorem trodAll_of {W W' : World} {sp : Nat → Bool} (hb : Below W.heap.size W W') : ∀ {ts : List TypeId} {vs : List Value} {ds : List (DataW H)} {ps : List MemPlace}, DataW.TrodAll enc P W 0 sp true ts vs ds ps → DataW.TrodAll enc P W' 0 sp true ts vs ds ps
 | [], [], [], _, h => h
 | t :: ts, v :: vs, d :: ds, ps, h => by
  obtain ⟨p, q, ⟨fuel, h1⟩, h2, h3⟩ := h
  have hlt : ∀ x ∈ p, x.block < W.heap.size := by
   have := DataW.TrodAll.lt (enc := enc) (P := P) (w := W) (base := 0) (spare := sp) (held := true) (ts := [t]) (vs := [v]) (ds := [d]) (ps := p) ⟨p, [], ⟨fuel, h1⟩, rfl, by simp⟩
   exact this
  exact ⟨p, q, ⟨fuel, DataW.trod_carry _ _ _ _ h1 fun x hx => hb.same (hlt x hx)⟩, trodAll_of hb h2, h3⟩
end
end Go.Proofs.YtgejaedjnbjpoaaGreatDoor
namespace Go.Proofs.YtgejaedjnbjpoaaGreatDoor
open Go Go.AL Go.ChangeShapes Go.WideShapes Go.RowKit
section
variable {H : Type} {enc : TypeId × Value → H}
theorem grd_start {P : Program} {W : World} (h : W.ShapedOpen P) (hz : laidZ P W) : Grd P (fun _ => False) W := ⟨W, ⟨h, hz⟩, Nat.le_refl _, fun _ _ => ⟨rfl, id⟩⟩
def ArgsAre (P : Program) (W : World) (enc : TypeId × Value → H) : List TypeId → List Value → List (DataW H) → List MemPlace → List PV → Prop
 | [], [], [], ps, [] => ps = []
 | t :: ts, v :: vs, d :: ds, ps, p :: pvs => ∃ q r, ArgIs P W enc t v d q p ∧ ArgsAre P W enc ts vs ds r pvs ∧ ps = q ++ r
 | _, _, _, _, _ => False
theorem ArgsAre.rep {P : Program} {W : World} : ∀ {ts : List TypeId} {vs : List Value} {ds : List (DataW H)} {ps : List MemPlace} {pvs : List PV}, ArgsAre P W enc ts vs ds ps pvs → All2 (PV.rep (rd0 W)) pvs vs
 | [], [], [], _, [], _ => trivial
 | _ :: _, _ :: _, _ :: _, _, _ :: _, h => by obtain ⟨q, r, h1, h2, _⟩ := h; exact ⟨h1.1, h2.rep⟩
theorem ArgsAre.trod {P : Program} {W : World} {sp : Nat → Bool} : ∀ {ts : List TypeId} {vs : List Value} {ds : List (DataW H)} {ps : List MemPlace} {pvs : List PV}, ArgsAre P W enc ts vs ds ps pvs → (∀ p ∈ ps, sp p.block = true) → DataW.TrodAll enc P W 0 sp true ts vs ds ps
 | [], [], [], _, [], h, _ => h
 | _ :: _, _ :: _, _ :: _, _, _ :: _, h, hs => by
  obtain ⟨q, r, h1, h2, rfl⟩ := h
  exact ⟨q, r, h1.2 sp (fun p hp => hs p (by simp [hp])), h2.trod (fun p hp => hs p (by simp [hp])), rfl⟩
theorem law_post {P : Program} {f : FuncId} {fn : Func} {s : ChangeSpec} {apart fresh handsOn again : Bool} {W : World} {args : Array Value} {ds : List (DataW H)} {before p : List MemPlace} {pvs : List PV} {tb : TypeId}
  (hsh : W.ShapedOpen P) (hz : laidZ P W) (hvars : s.vars = []) (hrt : fn.resultTypes = #[tb]) (hb : P.underlying tb = some .bool)
  (hW : DataW.Whole enc P fn.params.toList s.vars apart W args.toList ds [] before) (hbef : before = p) (hA : ArgsAre P W enc fn.params.toList args.toList ds p pvs)
  (hsr : (s.fn H (ds ++ [])).results = [.lit (.bool true)]) (hsa : (s.fn H (ds ++ [])).args = ds) (hsv : (s.fn H (ds ++ [])).vars = [])
  (hf : FnOk P f pvs (fun rs => rs = [C4 true])) : Calls P f args W fun e W' => ∃ v, e = .returned v ∧ s.post enc P fn apart fresh handsOn again W args v W' := by
 subst hbef
 unfold FnOk at hf
 have hc := hf.2 W (fun _ _ => False) args.toList (grd_start hsh hz) (fun _ _ h => h.elim) hA.rep
 rw [Array.toArray_toList] at hc
 refine hc.mono fun e W' h => ?_
 obtain ⟨v, rs, rfl, rfl, hr, hbl⟩ := h
 obtain ⟨rfl, _⟩ : v = .bool true ∧ _ := hr
 have hlt : ∀ q ∈ before, q.block < W.heap.size := fun q hq => hW.lt q hq
 have hold : ∀ q ∈ before, (fun b => decide (b < W.heap.size)) q.block = true := fun q hq => by simpa using hlt q hq
 have hres : ∀ (b : Nat) (sp : Nat → Bool) (hd : Bool), DataW.TrodAll enc P W' b sp hd fn.resultTypes.toList ((Value.bool true).resultList fn.resultTypes.size) (s.fn H (ds ++ [])).results [] := by
  intro b sp hd
  rw [hrt, hsr]
  exact trodAll_cons_mk (shut_bool hb _) trodAll_mk0
 have hargs : ∀ sp : Nat → Bool, (∀ q ∈ before, sp q.block = true) → DataW.TrodAll enc P W' 0 sp true fn.params.toList args.toList (s.fn H (ds ++ [])).args before := by
  intro sp hsp
  rw [hsa]
  exact trodAll_of hbl (hA.trod hsp)
 have hvs : ∀ sp : Nat → Bool, DataW.TrodVars enc P W' sp s.vars (s.fn H (ds ++ [])).vars [] := by
  intro sp; rw [hvars, hsv]; rfl
 have hok : ∀ (j : Nat) (t : TypeId) (r : Value), fn.resultTypes[j]? = some t → ((Value.bool true).resultList fn.resultTypes.size)[j]? = some r → Value.okWide P W' .any 0 t r := by
  exact ok_one hrt rfl (okWide_bool_mk hb _)
 refine ⟨_, rfl, ds, [], before, [], before, [], hW, hres _ _ _, hargs _ hold, hvs _, World.keptBut_mono (fun q hq => ⟨hq, .inr (.inl hq)⟩) (hbl.frame (· ∈ before)), fun _ => ?_⟩
 obtain ⟨_, _, _, _, _, hz, hn⟩ := hW
 refine ⟨hok, _, _, ([] ++ before) ++ [], ⟨[] ++ before, [], trodAll_append (hargs _ (fun _ _ => rfl)) (hres _ _ _), hvs _, rfl, ?_, ?_⟩, ?_⟩
 ·intro b off hp
  have hin : MemPlace.cell b off ∈ before := by simpa using hp
  rw [hbl.frozen (hlt _ hin)]
  exact hz b off hin
 ·intro ha
  simpa using hn ha
 ·intro q hq _
  simpa using hq
end
end Go.Proofs.YtgejaedjnbjpoaaGreatDoor
namespace Go.Proofs.YtgejaedjnbjpoaaGreatDoor
open Go Go.AL Go.ChangeShapes Go.WideShapes Go.RowKit
theorem laidVars_mem {P : Program} {w : World} {n : String} {d : DataW Unit} : ∀ {l : List (String × DataW Unit)} {ps : List MemPlace}, DataW.LaidVars P w l ps → (n, d) ∈ l →
  ∃ g t cs fuel p, P.globalNamed n = some g ∧ (P.globals[g]?).map (·.type) = some t ∧ w.var? P n = some cs ∧ DataW.trod (fun _ => ()) P w 0 (fun _ => true) false fuel t cs.toList = some (d, p)
 | [], _, _, h => by cases h
 | (n', d') :: r, ps, ⟨g, t, cs, fuel, p, q, h1, h2, h3, h4, h5, h6⟩, h => by
  rcases List.mem_cons.1 h with he | h
  ·cases he; exact ⟨g, t, cs, fuel, p, h1, h2, h3, h4⟩
  ·exact laidVars_mem h5 h
theorem tabIs_of_mem {P : Program} {W : World} {name : String} {k : IntKind} {zs : List Int} {l : List (String × DataW Unit)} {g : Nat} {t e : TypeId} {n : Nat}
  (hg : P.globalNamed name = some g) (hty : (P.globals[g]?).map (·.type) = some t) (ht : P.underlying t = some (.array n e)) (he : P.underlying e = some (.int k)) (hce : P.cellsOf e = 1) (hct : P.cellsOf t = n)
  (h : laidMet P l W) (hm : (name, Lib.tabData k zs) ∈ l) : Lib.TabIs P W name k zs := by
 obtain ⟨ps, h1, _⟩ := h
 obtain ⟨g', t', cs, fuel, p, hg', ht', hvar, hd⟩ := laidVars_mem h1 hm
 obtain rfl := Option.some.inj (hg.symm.trans hg')
 obtain rfl := Option.some.inj (hty.symm.trans ht')
 unfold Lib.TabIs
 rw [hvar, ← Lib.cells_of_tab ht he hce hct hd]
end Go.Proofs.YtgejaedjnbjpoaaGreatDoor
