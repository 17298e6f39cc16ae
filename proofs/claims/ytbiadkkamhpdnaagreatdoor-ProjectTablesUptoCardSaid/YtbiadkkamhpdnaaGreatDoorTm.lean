/- From the law's contract to its row. -/
import Derived.Test.YtbiadkkamhpdnaaGreatDoorFh
import Derived.Test.YtbiadkkamhpdnaaGreatDoorFz
set_option linter.unusedSimpArgs false
namespace Go.Proofs.YtbiadkkamhpdnaaGreatDoor
open Go Go.AL Go.ChangeShapes Go.WideShapes Go.RowKit
set_option maxRecDepth 100000
theorem own:ownKnob Tryz.prog.godebug=none:=by kernel_rfl
theorem reads_ints:Reads Tryz.prog 25 (List Int) 1 intsC (fun l=>∀a∈l,(Lit.int .i64 a).wf=true) (fun l=>1+(l.map fun _=>1).sum) :=
 A95 (A19 Tryz.underlying3 (by kernel_rfl)) (by omega) Tryz.underlying25 (by kernel_rfl)
theorem laid_z {W:World} (hL:laidMetH Tryz.prog Rows.projectTablesUptoRow.laid W):I02 Tryz.prog W:=fun g hg=>by
 obtain rfl:g=1:=Option.some.inj (hg.symm.trans (show Tryz.prog.globalNamed "internal/strconv.uint64pow10"=some 1 by kernel_rfl))
 have hp:laidMet Tryz.prog Rows.projectTablesUptoRow.laid W:=hL
 have e:Rows.laid_internal_strconv_uint64pow10 (H:=Unit)=Lib.tabData .u64 Lib.pow10Tab:=by kernel_rfl
 exact G44 (t:=299) (e:=114) (n:=20) hg (by kernel_rfl) (by kernel_rfl) (by kernel_rfl) (by kernel_rfl) (by kernel_rfl) hp (by rw [←e];simp [Rows.projectTablesUptoRow])
theorem contract {H:Type} {enc:TypeId × Value→H} (W:World) (base:Nat) (args:Array Value) (ds gs:List (DataW H)) (before:List MemPlace) (hsh:W.ShapedOpen Tryz.prog) (hL:laidMetH Tryz.prog Rows.projectTablesUptoRow.laid W)
  (hval:∀(j:Nat) t v,Tryz.f12.params[j]?=some t→args[j]?=some v→Value.okWide Tryz.prog W .any base t v)
  (hW:DataW.Whole enc Tryz.prog Tryz.f12.params.toList Rows.projectTablesSpec.vars false W args.toList ds gs before) (hk:Rows.uptoSmall H (ds++gs)=true) :
  Calls Tryz.prog 12 args W fun e W'=>∃v,e=.returned v∧Rows.projectTablesSpec.post enc Tryz.prog Tryz.f12 false true false false W args v W':=by
 have hW0:=hW
 obtain ⟨p,q,hA0,hV,hbef,hfz,hnd⟩:=hW
 obtain ⟨rfl,rfl⟩:=trodVars_none hV
 have hB:Rows.uptoBulkAll ds≤1048576:=by have:=A0 hk;simpa using this
 have hA:DataW.TrodAll enc Tryz.prog W 0 (fun _=>true) true Tryz.f12.params.toList args.toList ds p:=hA0
 rw [Tryz.params12] at hA hval
 obtain ⟨v0,vs0,d0,ds0,p0,q0,hargs,rfl,rfl,h0,r0⟩:=trodAll_cons hA
 obtain ⟨v1,vs1,d1,ds1,p1,q1,rfl,rfl,rfl,h1,r1⟩:=trodAll_cons r0
 obtain ⟨v2,vs2,d2,ds2,p2,q2,rfl,rfl,rfl,h2,r2⟩:=trodAll_cons r1
 obtain ⟨v3,vs3,d3,ds3,p3,q3,rfl,rfl,rfl,h3,r3⟩:=trodAll_cons r2
 obtain ⟨v4,vs4,d4,ds4,p4,q4,rfl,rfl,rfl,h4,r4⟩:=trodAll_cons r3
 obtain ⟨rfl,rfl,rfl⟩:=trodAll_nil r4
 obtain rfl:args=#[v0,v1,v2,v3,v4]:=by cases args;simp_all
 simp only [Rows.uptoBulkAll] at hB
 obtain ⟨a0,g0,m0,t0⟩:=J10 reads_ints Tryz.underlying25 (hval 0 _ v0 rfl rfl) h0 (by omega)
 obtain ⟨a1,g1,m1,t1⟩:=G43 (A19 Tryz.underlying3 (by kernel_rfl)) Tryz.underlying3 (hval 1 _ v1 rfl rfl) h1 (by omega)
 obtain ⟨a2,g2,m2,t2⟩:=G43 (A19 Tryz.underlying3 (by kernel_rfl)) Tryz.underlying3 (hval 2 _ v2 rfl rfl) h2 (by omega)
 obtain ⟨a3,g3,m3,t3⟩:=G43 (A19 Tryz.underlying3 (by kernel_rfl)) Tryz.underlying3 (hval 3 _ v3 rfl rfl) h3 (by omega)
 obtain ⟨a4,g4,m4,t4⟩:=H99 I01 Tryz.underlying56 (hval 4 _ v4 rfl rfl) h4 (by omega)
 exact J55 hsh (laid_z hL) rfl rfl Tryz.underlying4 hW0 (by simpa using hbef) (pvs:=[M1 a0,E5 a1,E5 a2,E5 a3,S5 a4]) ⟨_,_,t0,⟨_,_,t1,⟨_,_,t2,⟨_,_,t3,⟨_,_,t4,rfl,rfl⟩,rfl⟩,rfl⟩,rfl⟩,rfl⟩ rfl rfl rfl (F32 a0 a1 a2 a3 a4 (comb_sz (by omega)) g4)
noncomputable def D61 (os:Os):World :=
 let w0:=World.holding Tryz.prog os ⟨#[],#[],[]⟩
 let put (h:Array Obj) (g:Nat) (cs:Array Value):Array Obj:=h.modify g fun
  | .cells _ t frozen=>.cells cs t frozen
  | o=>o
 { w0 with heap:=put (put (put (put (put (w0.heap) 4 (Lib.deBruijn32tab.map fun (z:Nat)=>Value.int .u8 (z:Int)).toArray) 5 (Lib.deBruijn64tab.map fun (z:Nat)=>Value.int .u8 (z:Int)).toArray) 1 (Lib.pow10Tab.map fun z=>Value.int .u64 z).toArray) 3 ((List.range 16).flatMap fun i=>[Value.int .u8 (Lib.accLo i),Value.int .u8 (Lib.accHi i)]).toArray) 2 (Lib.firstTab.map fun z=>Value.int .u8 z).toArray }
theorem J57 (os:Os) (args:Array Value):laidMet Tryz.prog Rows.projectTablesUptoRow.laid ((D61 os).forCall (fun _ _=>0) ⟨#[],args,[]⟩).memory :=
 laidMet_of_run3 10 (by kernel_rfl) (by kernel_rfl) (by kernel_rfl)
theorem reads (os:Os) {H:Type} (enc:TypeId × Value→H):∃places,DataW.whole enc Tryz.prog ((D61 os).forCall (fun _ _=>0) ⟨#[],#[.slice none 0 0,.int .i64 0,.int .i64 0,.int .i64 0,.agg #[.string ⟨#[]⟩,.bool false,.int .i64 0,.slice none 0 0]],[]⟩).memory Tryz.f12.params.toList Rows.projectTablesSpec.vars false #[.slice none 0 0,.int .i64 0,.int .i64 0,.int .i64 0,.agg #[.string ⟨#[]⟩,.bool false,.int .i64 0,.slice none 0 0]].toList 8=some ([.nil,.lit (.int .i64 0),.lit (.int .i64 0),.lit (.int .i64 0),.agg [.lit (.string []),.lit (.bool false),.lit (.int .i64 0),.nil]],[],places) :=
 ⟨[],by kernel_rfl⟩
theorem lifted (os:Os) (started:os.Started) (H:Type) (enc:TypeId × Value→H) (F:Stop.Interp) :
  ReturnsInHanded {} Tryz.checked os 12 .any ((Rows.OpenSpec.upto Rows.projectTablesSpec).preRow enc Tryz.prog Tryz.f12 Rows.projectTablesUptoRow.domain false Rows.projectTablesUptoRow.laid) (((Rows.OpenSpec.upto Rows.projectTablesSpec).at F).post enc Tryz.prog Tryz.f12 false true false false):=by
 obtain ⟨places,hx⟩:=reads os enc
 refine returnsInHanded_of_row (C:=Tryz.checked) (s:=Rows.OpenSpec.upto Rows.projectTablesSpec) own started (by kernel_rfl) Tryz.func12
  (witness_row_at (enc:=enc) (C:=Tryz.checked) false (D61 os) #[.slice none 0 0,.int .i64 0,.int .i64 0,.int .i64 0,.agg #[.string ⟨#[]⟩,.bool false,.int .i64 0,.slice none 0 0]] rfl (by kernel_rfl) (by kernel_rfl) (by kernel_rfl)
   (OpenSpec.preRow_of_cond 8 hx (by kernel_rfl) (fun k hk=>by cases hk;kernel_rfl) (by kernel_rfl) (J57 os _))) ?_
 intro W base args ds gs before hval hW _ hcond _ hL hsh _
 exact contract W base args ds gs before hsh hL hval hW (hcond _ rfl)
theorem t7 {a b:Bool} (ha:a=true) (hb:b=true):(a&&b)=true:=by rw [ha,hb];rfl
theorem fact1:(Rows.projectTablesUptoRow.wf (OpenSpec.ofChange (Rows.OpenSpec.upto Rows.projectTablesSpec).bare):Bool)=true:=by kernel_rfl
theorem fact2:(laidOutB Tryz.prog:Bool)=true:=by kernel_rfl
theorem fact3:(mapsRowed Tryz.prog:Bool)=true:=by kernel_rfl
theorem fact4:(Tryz.f12.params.all (Tryz.prog.readableRec ·):Bool)=true:=by kernel_rfl
theorem fact5:(namedTie Tryz.prog Rows.projectTablesUptoRow.named (Rows.OpenSpec.upto Rows.projectTablesSpec).bare.vars:Bool)=true:=by kernel_rfl
theorem fact6:((Rows.projectTablesUptoRow.stops == []):Bool)=true:=by kernel_rfl
theorem fact7:((Tryz.prog.stops == []):Bool)=true:=by kernel_rfl
theorem fact8:((Rows.projectTablesUptoRow.knobs == []):Bool)=true:=by kernel_rfl
theorem fact9:((Tryz.prog.stopKnobs == []):Bool)=true:=by kernel_rfl
theorem fact10:((Rows.projectTablesUptoRow.inPlace == Tryz.prog.inPlace 12):Bool)=true:=by kernel_rfl
theorem fact11:((Rows.projectTablesUptoRow.unfollowed == Tryz.prog.unfollowed 12):Bool)=true:=by kernel_rfl
theorem fact12:((Rows.projectTablesUptoRow.recurses == Tryz.prog.recurses 12):Bool)=true:=by kernel_rfl
theorem fact13:((Rows.projectTablesUptoRow.named == Tryz.prog.varsNamed 12):Bool)=true:=by kernel_rfl
theorem fact14:((Rows.projectTablesUptoRow.maps == (Tryz.f12.params.toList++(Rows.OpenSpec.upto Rows.projectTablesSpec).bare.plain.varTypes Tryz.prog).any (Tryz.prog.mapsRec ·)):Bool)=true:=by kernel_rfl
theorem fact15:((Rows.projectTablesUptoRow.ifaces == (Tryz.f12.params.toList++(Rows.OpenSpec.upto Rows.projectTablesSpec).bare.plain.varTypes Tryz.prog).any (Tryz.prog.ifacesRec ·)):Bool)=true:=by kernel_rfl
theorem fact16:((Rows.projectTablesUptoRow.mapsOut == Tryz.prog.mapsAmong Tryz.f12.resultTypes.toList):Bool)=true:=by kernel_rfl
theorem fact17:((Rows.projectTablesUptoRow.loops == (Tryz.f12.params.toList++(Rows.OpenSpec.upto Rows.projectTablesSpec).bare.plain.varTypes Tryz.prog).any (Tryz.prog.loopsFrom ·)):Bool)=true:=by kernel_rfl
theorem fact18:((Rows.projectTablesUptoRow.wideKeys == (Tryz.f12.params.toList++(Rows.OpenSpec.upto Rows.projectTablesSpec).bare.plain.varTypes Tryz.prog++Tryz.f12.resultTypes.toList).any (Tryz.prog.wideKeysFrom ·)):Bool)=true:=by kernel_rfl
theorem fact19:((Rows.OpenSpec.upto Rows.projectTablesSpec).bare.vars.all (Tryz.prog.varReadable ·):Bool)=true:=by kernel_rfl
theorem fact20:(Tryz.f12.resultTypes.all (fun t=>Tryz.prog.readableRec t&&decide (t < Tryz.prog.types.size)):Bool)=true:=by kernel_rfl
theorem fact21:((Rows.projectTablesUptoRow.ifacesOut == Tryz.f12.resultTypes.toList.any (Tryz.prog.ifacesRec ·)):Bool)=true:=by kernel_rfl
theorem fact22:((Rows.projectTablesUptoRow.loopsOut == Tryz.f12.resultTypes.toList.any (Tryz.prog.loopsFrom ·)):Bool)=true:=by kernel_rfl
theorem fact23:((Rows.projectTablesUptoRow.plainKeys == Tryz.prog.plainKeys):Bool)=true:=by kernel_rfl
theorem fact24:(Rows.projectTablesUptoRow.shortTexts.isNone:Bool)=true:=by kernel_rfl
theorem fact25:(Tryz.prog.stopsHeard:Bool)=true:=by kernel_rfl
theorem fact26:(Tryz.prog.mayEnter:Bool)=true:=by kernel_rfl
theorem fact27:((Rows.projectTablesUptoRow.lifted == Tryz.prog.liftsFinal):Bool)=true:=by kernel_rfl
theorem fact28:((Tryz.prog.make == some Rows.projectTablesUptoRow.make):Bool)=true:=by kernel_rfl
theorem fact29:((Rows.projectTablesUptoRow.kinds == (if Rows.projectTablesUptoRow.domain.isEmpty then [] else Tryz.f12.params.toList.map fun t=>match Tryz.prog.underlying t with | some (.int k)=>some k | _=>none)):Bool)=true:=by kernel_rfl
theorem fact30:((Rows.projectTablesUptoRow.pinned == Rows.projectTablesUptoRow.pinnedBy):Bool)=true:=by kernel_rfl
theorem fact31:((Rows.projectTablesUptoRow.veiled == (Tryz.f12.params.toList++(Rows.OpenSpec.upto Rows.projectTablesSpec).bare.plain.varTypes Tryz.prog++Tryz.f12.resultTypes.toList).any (Tryz.prog.veiledRec ·)):Bool)=true:=by kernel_rfl
theorem fact32:(Rows.projectTablesUptoRow.veiledFits Tryz.prog Tryz.f12.params.toList (Tryz.f12.params.toList++(Rows.OpenSpec.upto Rows.projectTablesSpec).bare.plain.varTypes Tryz.prog++Tryz.f12.resultTypes.toList):Bool)=true:=by kernel_rfl
theorem closed:joinedFacts Tryz.prog 12 Tryz.f12 (Rows.OpenSpec.upto Rows.projectTablesSpec).bare Rows.projectTablesUptoRow=true:=by
 unfold joinedFacts
 exact t7 (t7 (t7 (t7 (t7 (t7 (t7 (t7 (t7 (t7 (t7 (t7 (t7 (t7 (t7 (t7 (t7 (t7 (t7 (t7 (t7 (t7 (t7 (t7 (t7 (t7 (t7 (t7 (t7 (t7 (t7 (fact1) fact2) fact3) fact4) fact5) fact6) fact7) fact8) fact9) fact10) fact11) fact12) fact13) fact14) fact15) fact16) fact17) fact18) fact19) fact20) fact21) fact22) fact23) fact24) fact25) fact26) fact27) fact28) fact29) fact30) fact31) fact32
theorem C85:Rows.ProjectTablesUptoSaid :=
 OpenClaim.holds_of_cond 12 Tryz.f12 rfl rfl rfl rfl rfl rfl rfl ⟨rfl,rfl,rfl,rfl,rfl⟩ rfl rfl rfl rfl rfl (by kernel_rfl) Tryz.func12 closed
  (A0 (by kernel_rfl)) (by unfold Func.isWrapper;first | (rw [if_pos (by decide +kernel)];kernel_rfl) | (rw [if_neg (by decide +kernel)];exact ⟨rfl,rfl⟩))
  (fun os started H enc _ F=>by rw [OpenClaim.pre_eq_preRow];exact lifted os started H enc F)
end Go.Proofs.YtbiadkkamhpdnaaGreatDoor
