/-
  ProjectColumns: for every input of bulk at most 1048576, the program's Column and the document's return the same blob and error, for the table made of drawn blobs and for the table given, and the sanity check holds; each argument reads afterwards as it read before.
  Conditions: none but the statement's own bound on the input.
-/
import Derived.Test.YtljfkoaafocglaaT9
import Derived.Test.YtljfkoaafocglaaS6
import Derived.Test.YtljfkoaafocglaaB2
namespace Go.Proofs.Ytljfkoaafocglaa
open Go Go.AL Go.ChangeShapes Go.WideShapes Go.RowKit
set_option maxRecDepth 100000

theorem law_ok (raw : List Int) (n : Int) (t : Table) (c : Int) (hr : rowsIn t.Rows) (hl : t.Rows.length ≤ 1048576) (hx : textsLen t.Rows ≤ 1048576) :
    FnOk Try.prog 3 [pInts raw, pInt n, pTable t, pInt c] (fun rs => rs = [pBool true]) := by
  obtain ⟨x, r, hp, hx1, hr1⟩ := pickOf_cons raw n
  have hm := make16_rows x r 140 hx1 hr1
  have hm2 := textsLen_le _ 140 hm.2.2
  have hmk := make16_ok x r (by omega) (fun b hb => by have := hr1 b hb; omega)
  obtain ⟨u, hu⟩ : ∃ u, u = (make16 x r).1 := ⟨_, rfl⟩
  obtain ⟨e, he⟩ : ∃ e, e = (make16 x r).2 := ⟨_, rfl⟩
  rw [← hu, ← he] at hmk
  rw [← hu] at hm hm2
  have hmod := modOf_in c (n := 7) (by omega)
  refine FnOk.intro Try.func3 (by decide) rfl rfl rfl ?_
  repeat (first | refine then_normal ?_ | refine c_seq ?_ | refine c_block ?_ | refine inB_normal ?_ | refine c_skip ?_ | refine c_exit ?_ | refine then_exit ?_ | refine inB_same rfl ?_ | refine inB_other rfl ?_ | refine c_ret ?_ | refine then_ret ?_ | refine inB_ret ?_)
  refine c_region ?_
  refine l_effv (f_box 6 rfl rfl rfl) rfl ?_
  refine l_neu (n_assign rfl rfl) rfl ?_
  refine l_nil ?_
  repeat (first | refine then_normal ?_ | refine c_seq ?_ | refine c_block ?_ | refine inB_normal ?_ | refine c_skip ?_ | refine c_exit ?_ | refine then_exit ?_ | refine inB_same rfl ?_ | refine inB_other rfl ?_ | refine c_ret ?_ | refine then_ret ?_ | refine inB_ret ?_)
  refine c_region ?_
  first | refine l_neu (n_field_ref rfl) rfl ?_ | refine l_neu (n_field_eref rfl) rfl ?_ | refine l_neu (n_field_mref rfl) rfl ?_
  first | refine l_neu (n_load_eref rfl rfl) rfl ?_ | refine l_neu (n_load_ref rfl rfl rfl) rfl ?_ | refine l_neu (n_load_mref rfl rfl (List.getElem?_eq_getElem (by omega)) rfl) rfl ?_ | refine l_neu (n_load_mrefT1 rfl rfl rfl) rfl ?_
  first | refine l_neu (n_len rfl (.pure _ _ _ _)) rfl ?_ | refine l_neu (n_len rfl (.buf _ _ _ _ _)) rfl ?_ | refine l_neu (n_len_mut rfl rfl) rfl ?_ | refine l_neu (n_len_mutT rfl rfl) rfl ?_ | refine l_neu (n_len_nil rfl) rfl ?_
  refine l_neu (n_gtr rfl rfl) rfl ?_
  refine l_nil ?_
  repeat (first | refine then_normal ?_ | refine c_seq ?_ | refine c_block ?_ | refine inB_normal ?_ | refine c_skip ?_ | refine c_exit ?_ | refine then_exit ?_ | refine inB_same rfl ?_ | refine inB_other rfl ?_ | refine c_ret ?_ | refine then_ret ?_ | refine inB_ret ?_)
  refine c_cond rfl (fun ht => ?_) (fun ht => ?_)
  · repeat (first | refine then_normal ?_ | refine c_seq ?_ | refine c_block ?_ | refine inB_normal ?_ | refine c_skip ?_ | refine c_exit ?_ | refine then_exit ?_ | refine inB_same rfl ?_ | refine inB_other rfl ?_ | refine c_ret ?_ | refine then_ret ?_ | refine inB_ret ?_)
    refine c_region ?_
    refine l_call (awake_ok) rfl rfl rfl ?_
    rintro _ rfl
    refine l_neu (n_assign rfl rfl) rfl ?_
    refine l_nil ?_
    repeat (first | refine then_normal ?_ | refine c_seq ?_ | refine c_block ?_ | refine inB_normal ?_ | refine c_skip ?_ | refine c_exit ?_ | refine then_exit ?_ | refine inB_same rfl ?_ | refine inB_other rfl ?_ | refine c_ret ?_ | refine then_ret ?_ | refine inB_ret ?_)
    exact ret_ret (ret1 rfl rfl rfl) rfl
  · repeat (first | refine then_normal ?_ | refine c_seq ?_ | refine c_block ?_ | refine inB_normal ?_ | refine c_skip ?_ | refine c_exit ?_ | refine then_exit ?_ | refine inB_same rfl ?_ | refine inB_other rfl ?_ | refine c_ret ?_ | refine then_ret ?_ | refine inB_ret ?_)
    refine c_region ?_
    refine l_neu (n_move rfl rfl) rfl ?_
    refine l_neu (n_move rfl rfl) rfl ?_
    refine l_call (pick_ok raw n x r hp) rfl rfl rfl ?_
    rintro _ rfl
    refine l_neu (n_move rfl rfl) rfl ?_
    refine l_neu (n_extract rfl rfl) rfl ?_
    refine l_neu (n_extract rfl rfl) rfl ?_
    refine l_neu (n_assign rfl rfl) rfl ?_
    refine l_neu (n_assign rfl rfl) rfl ?_
    refine l_nil ?_
    repeat (first | refine then_normal ?_ | refine c_seq ?_ | refine c_block ?_ | refine inB_normal ?_ | refine c_skip ?_ | refine c_exit ?_ | refine then_exit ?_ | refine inB_same rfl ?_ | refine inB_other rfl ?_ | refine c_ret ?_ | refine then_ret ?_ | refine inB_ret ?_)
    refine c_region ?_
    refine l_neu (n_move rfl rfl) rfl ?_
    refine l_neu (n_move rfl rfl) rfl ?_
    refine l_call (hmk) rfl rfl rfl ?_
    rintro _ rfl
    refine l_neu (n_move rfl rfl) rfl ?_
    refine l_neu (n_extract rfl rfl) rfl ?_
    refine l_neu (n_extract rfl rfl) rfl ?_
    refine l_effv (f_alloc 11 rfl) rfl ?_
    first | refine l_eff (e_store_ref TySz.out rfl rfl rfl rfl rfl rfl) ?_ | refine l_eff (e_store_mref1 TySz.out rfl rfl (by simp; omega) rfl rfl) ?_ | refine l_eff (e_store_mrefT1 TySz.out rfl rfl (by simp; omega) rfl rfl) ?_
    refine l_neu (n_assign rfl rfl) rfl ?_
    refine l_nil ?_
    repeat (first | refine then_normal ?_ | refine c_seq ?_ | refine c_block ?_ | refine inB_normal ?_ | refine c_skip ?_ | refine c_exit ?_ | refine then_exit ?_ | refine inB_same rfl ?_ | refine inB_other rfl ?_ | refine c_ret ?_ | refine then_ret ?_ | refine inB_ret ?_)
    refine c_region ?_
    first | refine l_neu (n_loads_ref rfl rfl rfl) rfl ?_ | refine l_neu (n_loads_eref rfl rfl) rfl ?_ | refine l_neu (n_loads_mref rfl rfl (List.getElem?_eq_getElem (by omega)) rfl) rfl ?_
    refine l_neu (n_move rfl rfl) rfl ?_
    refine l_call (pColumn_ok t c hr (by omega) (by omega)) rfl rfl rfl ?_
    rintro _ rfl
    refine l_neu (n_move rfl rfl) rfl ?_
    refine l_neu (n_extract rfl rfl) rfl ?_
    refine l_neu (n_extract rfl rfl) rfl ?_
    refine l_neu (n_assign rfl rfl) rfl ?_
    refine l_neu (n_assign rfl rfl) rfl ?_
    refine l_nil ?_
    repeat (first | refine then_normal ?_ | refine c_seq ?_ | refine c_block ?_ | refine inB_normal ?_ | refine c_skip ?_ | refine c_exit ?_ | refine then_exit ?_ | refine inB_same rfl ?_ | refine inB_other rfl ?_ | refine c_ret ?_ | refine then_ret ?_ | refine inB_ret ?_)
    refine c_region ?_
    first | refine l_neu (n_loads_ref rfl rfl rfl) rfl ?_ | refine l_neu (n_loads_eref rfl rfl) rfl ?_ | refine l_neu (n_loads_mref rfl rfl (List.getElem?_eq_getElem (by omega)) rfl) rfl ?_
    refine l_neu (n_move rfl rfl) rfl ?_
    refine l_call (column20_ok t c hr (by omega) (by omega)) rfl rfl rfl ?_
    rintro _ rfl
    refine l_neu (n_move rfl rfl) rfl ?_
    refine l_neu (n_extract rfl rfl) rfl ?_
    refine l_neu (n_extract rfl rfl) rfl ?_
    refine l_neu (n_assign rfl rfl) rfl ?_
    refine l_neu (n_assign rfl rfl) rfl ?_
    refine l_nil ?_
    repeat (first | refine then_normal ?_ | refine c_seq ?_ | refine c_block ?_ | refine inB_normal ?_ | refine c_skip ?_ | refine c_exit ?_ | refine then_exit ?_ | refine inB_same rfl ?_ | refine inB_other rfl ?_ | refine c_ret ?_ | refine then_ret ?_ | refine inB_ret ?_)
    refine c_region_draw (by kernel_rfl) (by kernel_rfl) ?_
    first | refine d_neu (n_loads_ref rfl rfl rfl) rfl rfl ?_ | refine d_neu (n_loads_eref rfl rfl) rfl rfl ?_ | refine d_neu (n_loads_mref rfl rfl (List.getElem?_eq_getElem (by omega)) rfl) rfl rfl ?_
    refine d_neu (n_move rfl rfl) rfl rfl ?_
    refine d_neu (n_call1 (mod_ok c 7 (by omega) (by omega)) rfl rfl) rfl rfl ?_
    refine d_neu (n_sub rfl rfl (by omega)) rfl rfl ?_
    refine d_neu (n_call1 (pColumn_ok u (modOf c 7 - 2) hm.1 (by omega) (by omega)) rfl rfl) rfl rfl ?_
    refine d_neu (n_move rfl rfl) rfl rfl ?_
    refine d_neu (n_extract rfl rfl) rfl rfl ?_
    refine d_neu (n_extract rfl rfl) rfl rfl ?_
    refine d_neu (n_assign rfl rfl) rfl rfl ?_
    refine d_neu (n_assign rfl rfl) rfl rfl ?_
    refine d_nil ?_
    repeat (first | refine then_normal ?_ | refine c_seq ?_ | refine c_block ?_ | refine inB_normal ?_ | refine c_skip ?_ | refine c_exit ?_ | refine then_exit ?_ | refine inB_same rfl ?_ | refine inB_other rfl ?_ | refine c_ret ?_ | refine then_ret ?_ | refine inB_ret ?_)
    refine c_region_draw (by kernel_rfl) (by kernel_rfl) ?_
    first | refine d_neu (n_loads_ref rfl rfl rfl) rfl rfl ?_ | refine d_neu (n_loads_eref rfl rfl) rfl rfl ?_ | refine d_neu (n_loads_mref rfl rfl (List.getElem?_eq_getElem (by omega)) rfl) rfl rfl ?_
    refine d_neu (n_move rfl rfl) rfl rfl ?_
    refine d_neu (n_call1 (mod_ok c 7 (by omega) (by omega)) rfl rfl) rfl rfl ?_
    refine d_neu (n_sub rfl rfl (by omega)) rfl rfl ?_
    refine d_neu (n_call1 (column20_ok u (modOf c 7 - 2) hm.1 (by omega) (by omega)) rfl rfl) rfl rfl ?_
    refine d_neu (n_move rfl rfl) rfl rfl ?_
    refine d_neu (n_extract rfl rfl) rfl rfl ?_
    refine d_neu (n_extract rfl rfl) rfl rfl ?_
    refine d_neu (n_assign rfl rfl) rfl rfl ?_
    refine d_neu (n_assign rfl rfl) rfl rfl ?_
    refine d_nil ?_
    repeat (first | refine then_normal ?_ | refine c_seq ?_ | refine c_block ?_ | refine inB_normal ?_ | refine c_skip ?_ | refine c_exit ?_ | refine then_exit ?_ | refine inB_same rfl ?_ | refine inB_other rfl ?_ | refine c_ret ?_ | refine then_ret ?_ | refine inB_ret ?_)
    refine c_region ?_
    refine l_neu (n_move rfl rfl) rfl ?_
    refine l_neu (n_move rfl rfl) rfl ?_
    refine l_neu (n_eql_s rfl rfl) rfl ?_
    refine l_neu (n_move rfl rfl) rfl ?_
    refine l_guard rfl rfl rfl rfl (fun hg => by rw [hg]; exact n_move rfl rfl) ?_
    refine l_guard rfl rfl rfl rfl (fun hg => by rw [hg]; exact n_move rfl rfl) ?_
    refine l_guard rfl rfl rfl rfl (fun hg => by rw [hg]; exact n_eql rfl rfl) ?_
    refine l_neu (n_pick_bool rfl (fun h => by first | rfl | (rw [h]; rfl)) (fun h => by first | rfl | (rw [h]; rfl))) rfl ?_
    refine l_neu (n_move rfl rfl) rfl ?_
    refine l_guard rfl rfl rfl rfl (fun hg => by rw [hg]; exact n_move rfl rfl) ?_
    refine l_guard rfl rfl rfl rfl (fun hg => by rw [hg]; exact n_move rfl rfl) ?_
    refine l_guard rfl rfl rfl rfl (fun hg => by rw [hg]; exact n_eql_s rfl rfl) ?_
    refine l_neu (n_pick_bool rfl (fun h => by first | rfl | (rw [h]; rfl)) (fun h => by first | rfl | (rw [h]; rfl))) rfl ?_
    refine l_neu (n_move rfl rfl) rfl ?_
    refine l_guard rfl rfl rfl rfl (fun hg => by rw [hg]; exact n_move rfl rfl) ?_
    refine l_guard rfl rfl rfl rfl (fun hg => by rw [hg]; exact n_move rfl rfl) ?_
    refine l_guard rfl rfl rfl rfl (fun hg => by rw [hg]; exact n_eql rfl rfl) ?_
    refine l_neu (n_pick_bool rfl (fun h => by first | rfl | (rw [h]; rfl)) (fun h => by first | rfl | (rw [h]; rfl))) rfl ?_
    refine l_neu (n_move rfl rfl) rfl ?_
    refine l_guard rfl rfl rfl rfl (fun hg => by have hq := hg; (try simp at hq); rw [hg]; exact n_call1 (awake_ok) rfl rfl) ?_
    refine l_neu (n_pick_bool rfl (fun h => by first | rfl | (rw [h]; rfl)) (fun h => by first | rfl | (rw [h]; rfl))) rfl ?_
    refine l_neu (n_assign rfl rfl) rfl ?_
    refine l_nil ?_
    repeat (first | refine then_normal ?_ | refine c_seq ?_ | refine c_block ?_ | refine inB_normal ?_ | refine c_skip ?_ | refine c_exit ?_ | refine then_exit ?_ | refine inB_same rfl ?_ | refine inB_other rfl ?_ | refine c_ret ?_ | refine then_ret ?_ | refine inB_ret ?_)
    refine ret_ret (ret1 rfl rfl rfl) ?_
    simp

theorem own : ownKnob Try.prog.godebug = none := by kernel_rfl

def mRow (r : Row) : Nat := r.Text.length + 1
def gRow (r : Row) : Prop := 0 ≤ r.Marks ∧ r.Marks < 4294967296
theorem reads_row : Reads Try.prog 39 Row 3 rowC gRow mRow :=
  reads_struct3 (e0 := 1) (e1 := 1) (e2 := 1) (reads_bool Try.underlying4 (by kernel_rfl)) (reads_int Try.underlying37 (by kernel_rfl)) (reads_string Try.underlying9 (by kernel_rfl)) Try.underlying39 (by kernel_rfl) rfl rfl rfl
    (fun a b s => ⟨a, b, s⟩) rowC (fun a b s => ⟨fun j hj => by (have e : j = 0 := by omega); subst e; rfl, fun j hj => by (have e : j = 0 := by omega); subst e; rfl, fun j hj => by (have e : j = 0 := by omega); subst e; rfl⟩)
    gRow (fun a b s _ h _ => by simpa [gRow, Lit.wf, IntKind.min, IntKind.max, IntKind.signed, IntKind.bits, Int.le_iff_lt_add_one] using h) mRow (fun a b s => by simp only [mRow]; omega)
theorem reads_rows : Reads Try.prog 23 (List Row) 1 (fun l _ => .list Row 3 rowC l) (fun l => ∀ a ∈ l, gRow a) (fun l => 1 + (l.map mRow).sum) :=
  reads_slice reads_row (by omega) Try.underlying23 (by kernel_rfl)
theorem reads_table : Reads Try.prog 25 Table 2 tableC (fun t => ∀ r ∈ t.Rows, gRow r) (fun t => (t.Rows.map mRow).sum) :=
  reads_struct2 (e0 := 1) (e1 := 1) (reads_int Try.underlying3 (by kernel_rfl)) reads_rows Try.underlying25 (by kernel_rfl) rfl rfl
    (fun a b => ⟨a, b⟩) tableC (fun a b => ⟨fun j hj => by (have e : j = 0 := by omega); subst e; rfl, fun j hj => by (have e : j = 0 := by omega); subst e; rfl⟩)
    _ (fun a b _ h => h) _ (fun a b => by simp only; omega)
theorem reads_ints : Reads Try.prog 22 (List Int) 1 intsC (fun l => ∀ a ∈ l, (Lit.int .i64 a).wf = true) (fun l => 1 + (l.map fun _ => 1).sum) :=
  reads_slice (reads_int Try.underlying3 (by kernel_rfl)) (by omega) Try.underlying22 (by kernel_rfl)

theorem mRow_sum (l : List Row) : l.length ≤ (l.map mRow).sum ∧ textsLen l ≤ (l.map mRow).sum := by
  unfold textsLen
  induction l with
  | nil => simp
  | cons r rs ih => simp only [List.map_cons, List.sum_cons, List.flatten_cons, List.length_append, List.length_cons, mRow] at ih ⊢; omega

theorem contract {H : Type} {enc : TypeId × Value → H} (W : World) (base : Nat) (args : Array Value) (ds gs : List (DataW H)) (before : List MemPlace) (hsh : W.ShapedOpen Try.prog)
    (hval : ∀ (j : Nat) t v, Try.f3.params[j]? = some t → args[j]? = some v → Value.okWide Try.prog W .any base t v)
    (hW : DataW.Whole enc Try.prog Try.f3.params.toList Rows.projectColumnsSpec.vars false W args.toList ds gs before) (hk : Rows.uptoSmall H (ds ++ gs) = true) :
    Calls Try.prog 3 args W fun e W' => ∃ v, e = .returned v ∧ Rows.projectColumnsSpec.post enc Try.prog Try.f3 false true false false W args v W' := by
  have hW0 := hW
  obtain ⟨p, q, hA0, hV, hbef, hfz, hnd⟩ := hW
  obtain ⟨rfl, rfl⟩ := trodVars_none hV
  have hB : Rows.uptoBulkAll ds ≤ 1048576 := by have := of_decide_eq_true hk; simpa using this
  have hA : DataW.TrodAll enc Try.prog W 0 (fun _ => true) true Try.f3.params.toList args.toList ds p := hA0
  rw [Try.params3] at hA hval
  obtain ⟨v0, vs0, d0, ds0, p0, q0, hargs, rfl, rfl, h0, r0⟩ := trodAll_cons hA
  obtain ⟨v1, vs1, d1, ds1, p1, q1, rfl, rfl, rfl, h1, r1⟩ := trodAll_cons r0
  obtain ⟨v2, vs2, d2, ds2, p2, q2, rfl, rfl, rfl, h2, r2⟩ := trodAll_cons r1
  obtain ⟨v3, vs3, d3, ds3, p3, q3, rfl, rfl, rfl, h3, r3⟩ := trodAll_cons r2
  obtain ⟨rfl, rfl, rfl⟩ := trodAll_nil r3
  obtain rfl : args = #[v0, v1, v2, v3] := by cases args; simp_all
  simp only [Rows.uptoBulkAll] at hB
  obtain ⟨raw, _, _, a0⟩ := arg_slice reads_ints Try.underlying22 (hval 0 _ v0 rfl rfl) h0 (by omega)
  obtain ⟨n, _, _, a1⟩ := arg_int (reads_int Try.underlying3 (by kernel_rfl)) Try.underlying3 (hval 1 _ v1 rfl rfl) h1 (by omega)
  obtain ⟨t, gt, mt, a2⟩ := arg_struct reads_table Try.underlying25 (hval 2 _ v2 rfl rfl) h2 (by omega)
  obtain ⟨c, _, _, a3⟩ := arg_int (reads_int Try.underlying3 (by kernel_rfl)) Try.underlying3 (hval 3 _ v3 rfl rfl) h3 (by omega)
  have hs := mRow_sum t.Rows
  exact law_post hsh rfl rfl Try.underlying4 hW0 (by simpa using hbef) (pvs := [pInts raw, pInt n, pTable t, pInt c]) ⟨_, _, a0, ⟨_, _, a1, ⟨_, _, a2, ⟨_, _, a3, rfl, rfl⟩, rfl⟩, rfl⟩, rfl⟩ rfl rfl rfl (law_ok raw n t c gt (by omega) (by omega))

theorem lifted (os : Os) (started : os.Started) (H : Type) (enc : TypeId × Value → H) (F : Stop.Interp) :
    ReturnsInHanded {} Try.checked os 3 .any ((Rows.OpenSpec.upto Rows.projectColumnsSpec).pre6 enc Try.prog Try.f3 Rows.projectColumnsUptoRow.domain false) (((Rows.OpenSpec.upto Rows.projectColumnsSpec).at F).post enc Try.prog Try.f3 false true false false) := by
  refine returns_shaped (C := Try.checked) (s := Rows.OpenSpec.upto Rows.projectColumnsSpec) (k := Rows.uptoSmall) rfl own started (by kernel_rfl) Try.func3
    (OpenSpec.witness (enc := enc) (C := Try.checked) (s := Rows.OpenSpec.upto Rows.projectColumnsSpec) (k := Rows.uptoSmall) rfl false ⟨#[], #[.slice none 0 0, .int .i64 0, .agg #[.int .i64 0, .slice none 0 0], .int .i64 0], []⟩ 8 (by kernel_rfl) (by kernel_rfl) (by kernel_rfl)
      (x := ([.nil, .lit (.int .i64 0), .agg [.lit (.int .i64 0), .nil], .lit (.int .i64 0)], [], [])) (by kernel_rfl) rfl (by kernel_rfl)) ?_
  intro W base args ds gs before hsh hval hW hk
  exact contract W base args ds gs before hsh hval hW hk

theorem projectColumns_upto : Rows.ProjectColumnsUptoSaid :=
  OpenClaim.holds_of_cond 3 Try.f3 rfl rfl rfl rfl rfl rfl rfl ⟨rfl, rfl, rfl, rfl, rfl⟩ rfl rfl rfl rfl rfl (by kernel_rfl) Try.func3 (by kernel_rfl)
    (of_decide_eq_true (by kernel_rfl)) (by unfold Func.isWrapper; first | (rw [if_pos (by decide +kernel)]; kernel_rfl) | (rw [if_neg (by decide +kernel)]; exact ⟨rfl, rfl⟩))
    (fun os started H enc _ F => lifted os started H enc F)
#print axioms projectColumns_upto
end Go.Proofs.Ytljfkoaafocglaa
