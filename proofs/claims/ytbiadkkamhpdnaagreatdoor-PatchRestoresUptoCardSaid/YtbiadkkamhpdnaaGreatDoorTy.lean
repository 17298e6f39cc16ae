/- What the abstract logic asks of this seat's types: printed by a program (types.py). -/
import Derived.Test.YtbiadkkamhpdnaaGreatDoorProg
import Derived.Test.YtbiadkkamhpdnaaGreatDoorAn
import Derived.KernelRfl
set_option linter.unusedSimpArgs false
namespace Go.Proofs
open Go Go.AL
instance : TySz Tryz.prog 3 1 := ⟨by kernel_rfl⟩
instance : TyOne Tryz.prog 3 := ⟨_, Tryz.underlying3, trivial⟩
instance : TyInt Tryz.prog 3 .i64 := ⟨Tryz.underlying3⟩
instance : TyZero Tryz.prog 3 (.int .i64 0) := ⟨by kernel_rfl, rfl⟩
instance : TySz Tryz.prog 4 1 := ⟨by kernel_rfl⟩
instance : TyOne Tryz.prog 4 := ⟨_, Tryz.underlying4, trivial⟩
instance : TyOne Tryz.prog 5 := ⟨_, Tryz.underlying5, trivial⟩
instance : TyInt Tryz.prog 5 .u8 := ⟨Tryz.underlying5⟩
instance : TySz Tryz.prog 9 1 := ⟨by kernel_rfl⟩
instance : TyOne Tryz.prog 9 := ⟨_, Tryz.underlying9, trivial⟩
instance : TyStr Tryz.prog 9 := ⟨Tryz.underlying9⟩
instance : TyZero Tryz.prog 9 (.string ⟨#[]⟩) := ⟨by kernel_rfl, rfl⟩
instance : TySz Tryz.prog 22 1 := ⟨by kernel_rfl⟩
instance : TyOne Tryz.prog 22 := ⟨_, Tryz.underlying22, trivial⟩
instance : TySl Tryz.prog 22 29 3 40 := ⟨Tryz.underlying22, by kernel_rfl, by decide, by decide, by kernel_rfl⟩
instance : TySz Tryz.prog 24 3 := ⟨by kernel_rfl⟩
instance : TyAgg Tryz.prog 24 3 := ⟨⟨_, Tryz.underlying24, trivial⟩, by kernel_rfl⟩
instance : TyZero Tryz.prog 24 (.agg #[.string ⟨#[]⟩, .string ⟨#[]⟩, .slice none 0 0]) := ⟨by kernel_rfl, rfl⟩
instance : TyFld Tryz.prog 24 0 0 1 := ⟨_, _, Tryz.underlying24, rfl, rfl, by kernel_rfl, by decide⟩
instance : TyFld Tryz.prog 24 1 1 1 := ⟨_, _, Tryz.underlying24, rfl, rfl, by kernel_rfl, by decide⟩
instance : TyFld Tryz.prog 24 2 2 1 := ⟨_, _, Tryz.underlying24, rfl, rfl, by kernel_rfl, by decide⟩
instance : TyStruct Tryz.prog 24 [.string ⟨#[]⟩, .string ⟨#[]⟩, .slice none 0 0] [(0, 1), (1, 1), (2, 1)] := ⟨_, .agg #[.string ⟨#[]⟩, .string ⟨#[]⟩, .slice none 0 0], Tryz.underlying24, by kernel_rfl, rfl, rfl, by kernel_rfl⟩
instance : TySz Tryz.prog 25 1 := ⟨by kernel_rfl⟩
instance : TyOne Tryz.prog 25 := ⟨_, Tryz.underlying25, trivial⟩
instance : TySl Tryz.prog 25 3 1 8 := ⟨Tryz.underlying25, by kernel_rfl, by decide, by decide, by kernel_rfl⟩
instance : TyZero Tryz.prog 25 (.slice none 0 0) := ⟨by kernel_rfl, rfl⟩
instance : TySz Tryz.prog 27 1 := ⟨by kernel_rfl⟩
instance : TyOne Tryz.prog 27 := ⟨_, Tryz.underlying27, trivial⟩
instance : TySl Tryz.prog 27 36 2 24 := ⟨Tryz.underlying27, by kernel_rfl, by decide, by decide, by kernel_rfl⟩
instance : TySz Tryz.prog 29 3 := ⟨by kernel_rfl⟩
instance : TyAgg Tryz.prog 29 3 := ⟨⟨_, Tryz.underlying29, trivial⟩, by kernel_rfl⟩
instance : TyZero Tryz.prog 29 (.agg #[.int .i64 0, .int .i64 0, .slice none 0 0]) := ⟨by kernel_rfl, rfl⟩
instance : TyFld Tryz.prog 29 0 0 1 := ⟨_, _, Tryz.underlying29, rfl, rfl, by kernel_rfl, by decide⟩
instance : TyFld Tryz.prog 29 1 1 1 := ⟨_, _, Tryz.underlying29, rfl, rfl, by kernel_rfl, by decide⟩
instance : TyFld Tryz.prog 29 2 2 1 := ⟨_, _, Tryz.underlying29, rfl, rfl, by kernel_rfl, by decide⟩
instance : TyStruct Tryz.prog 29 [.int .i64 0, .int .i64 0, .slice none 0 0] [(0, 1), (1, 1), (2, 1)] := ⟨_, .agg #[.int .i64 0, .int .i64 0, .slice none 0 0], Tryz.underlying29, by kernel_rfl, rfl, rfl, by kernel_rfl⟩
instance : TySz Tryz.prog 36 2 := ⟨by kernel_rfl⟩
instance : TyAgg Tryz.prog 36 2 := ⟨⟨_, Tryz.underlying36, trivial⟩, by kernel_rfl⟩
instance : TyZero Tryz.prog 36 (.agg #[.int .u8 0, .string ⟨#[]⟩]) := ⟨by kernel_rfl, rfl⟩
instance : TyFld Tryz.prog 36 0 0 1 := ⟨_, _, Tryz.underlying36, rfl, rfl, by kernel_rfl, by decide⟩
instance : TyFld Tryz.prog 36 1 1 1 := ⟨_, _, Tryz.underlying36, rfl, rfl, by kernel_rfl, by decide⟩
instance : TyStruct Tryz.prog 36 [.int .u8 0, .string ⟨#[]⟩] [(0, 1), (1, 1)] := ⟨_, .agg #[.int .u8 0, .string ⟨#[]⟩], Tryz.underlying36, by kernel_rfl, rfl, rfl, by kernel_rfl⟩
instance : TyOne Tryz.prog 60 := ⟨_, Tryz.underlying60, trivial⟩
instance : TySl Tryz.prog 60 9 1 16 := ⟨Tryz.underlying60, by kernel_rfl, by decide, by decide, by kernel_rfl⟩
instance : TyInt Tryz.prog 70 .u64 := ⟨Tryz.underlying70⟩
instance : TySl Tryz.prog 84 88 2 16 := ⟨Tryz.underlying84, by kernel_rfl, by decide, by decide, by kernel_rfl⟩
instance : TySz Tryz.prog 88 2 := ⟨by kernel_rfl⟩
instance : TyAgg Tryz.prog 88 2 := ⟨⟨_, Tryz.underlying88, trivial⟩, by kernel_rfl⟩
instance : TyZero Tryz.prog 88 (.agg #[.int .i64 0, .int .i64 0]) := ⟨by kernel_rfl, rfl⟩
instance : TyFld Tryz.prog 88 0 0 1 := ⟨_, _, Tryz.underlying88, rfl, rfl, by kernel_rfl, by decide⟩
instance : TyFld Tryz.prog 88 1 1 1 := ⟨_, _, Tryz.underlying88, rfl, rfl, by kernel_rfl, by decide⟩
instance : TyStruct Tryz.prog 88 [.int .i64 0, .int .i64 0] [(0, 1), (1, 1)] := ⟨_, .agg #[.int .i64 0, .int .i64 0], Tryz.underlying88, by kernel_rfl, rfl, rfl, by kernel_rfl⟩
instance : TyInt Tryz.prog 114 .u64 := ⟨Tryz.underlying114⟩
instance : TySz Tryz.prog 115 1 := ⟨by kernel_rfl⟩
instance : TyOne Tryz.prog 115 := ⟨_, Tryz.underlying115, trivial⟩
instance : TySl Tryz.prog 115 5 1 1 := ⟨Tryz.underlying115, by kernel_rfl, by decide, by decide, by kernel_rfl⟩
instance : TyBytes Tryz.prog 115 5 := ⟨Tryz.underlying115, Tryz.underlying5, by kernel_rfl⟩
instance : TyZero Tryz.prog 124 (.agg #[.pointer none, .slice none 0 0]) := ⟨by kernel_rfl, rfl⟩
instance : TyFld Tryz.prog 124 1 1 1 := ⟨_, _, Tryz.underlying124, rfl, rfl, by kernel_rfl, by decide⟩
instance : TySl Tryz.prog 135 60 1 24 := ⟨Tryz.underlying135, by kernel_rfl, by decide, by decide, by kernel_rfl⟩
instance : TySl Tryz.prog 138 25 1 24 := ⟨Tryz.underlying138, by kernel_rfl, by decide, by decide, by kernel_rfl⟩
instance : TySl Tryz.prog 142 146 4 32 := ⟨Tryz.underlying142, by kernel_rfl, by decide, by decide, by kernel_rfl⟩
instance : TySz Tryz.prog 146 4 := ⟨by kernel_rfl⟩
instance : TyAgg Tryz.prog 146 4 := ⟨⟨_, Tryz.underlying146, trivial⟩, by kernel_rfl⟩
instance : TyZero Tryz.prog 146 (.agg #[.int .i64 0, .int .i64 0, .int .i64 0, .int .i64 0]) := ⟨by kernel_rfl, rfl⟩
instance : TyFld Tryz.prog 146 0 0 1 := ⟨_, _, Tryz.underlying146, rfl, rfl, by kernel_rfl, by decide⟩
instance : TyFld Tryz.prog 146 1 1 1 := ⟨_, _, Tryz.underlying146, rfl, rfl, by kernel_rfl, by decide⟩
instance : TyFld Tryz.prog 146 2 2 1 := ⟨_, _, Tryz.underlying146, rfl, rfl, by kernel_rfl, by decide⟩
instance : TyFld Tryz.prog 146 3 3 1 := ⟨_, _, Tryz.underlying146, rfl, rfl, by kernel_rfl, by decide⟩
instance : TyStruct Tryz.prog 146 [.int .i64 0, .int .i64 0, .int .i64 0, .int .i64 0] [(0, 1), (1, 1), (2, 1), (3, 1)] := ⟨_, .agg #[.int .i64 0, .int .i64 0, .int .i64 0, .int .i64 0], Tryz.underlying146, by kernel_rfl, rfl, rfl, by kernel_rfl⟩
instance : TySl Tryz.prog 171 175 6 48 := ⟨Tryz.underlying171, by kernel_rfl, by decide, by decide, by kernel_rfl⟩
instance : TyFld Tryz.prog 175 0 0 1 := ⟨_, _, Tryz.underlying175, rfl, rfl, by kernel_rfl, by decide⟩
instance : TyFld Tryz.prog 175 1 1 1 := ⟨_, _, Tryz.underlying175, rfl, rfl, by kernel_rfl, by decide⟩
instance : TyFld Tryz.prog 175 2 2 2 := ⟨_, _, Tryz.underlying175, rfl, rfl, by kernel_rfl, by decide⟩
instance : TyFld Tryz.prog 175 3 4 2 := ⟨_, _, Tryz.underlying175, rfl, rfl, by kernel_rfl, by decide⟩
instance : TyStruct Tryz.prog 175 [.int .i64 0, .int .i64 0, .int .i64 0, .int .i64 0, .int .i64 0, .int .i64 0] [(0, 1), (1, 1), (2, 2), (4, 2)] := ⟨_, .agg #[.int .i64 0, .int .i64 0, .int .i64 0, .int .i64 0, .int .i64 0, .int .i64 0], Tryz.underlying175, by kernel_rfl, rfl, rfl, by kernel_rfl⟩
instance : TyZero Tryz.prog 188 (.agg #[.int .i64 0, .bool false]) := ⟨by kernel_rfl, rfl⟩
instance : TyFld Tryz.prog 188 0 0 1 := ⟨_, _, Tryz.underlying188, rfl, rfl, by kernel_rfl, by decide⟩
instance : TyFld Tryz.prog 188 1 1 1 := ⟨_, _, Tryz.underlying188, rfl, rfl, by kernel_rfl, by decide⟩
end Go.Proofs
