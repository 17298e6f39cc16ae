/- What the abstract logic asks of this seat's types: printed by a program (types.py). -/
import Derived.Test.YtgejaedjnbjpoaaDoorProg
import Derived.Test.YtgejaedjnbjpoaaDoorAn
import Derived.KernelRfl
namespace Go.Proofs
open Go Go.AL
instance : TySz Tryd.prog 3 1 := ⟨by kernel_rfl⟩
instance : TyOne Tryd.prog 3 := ⟨_, Tryd.underlying3, trivial⟩
instance : TyInt Tryd.prog 3 .i64 := ⟨Tryd.underlying3⟩
instance : TyZero Tryd.prog 3 (.int .i64 0) := ⟨by kernel_rfl, rfl⟩
instance : TySz Tryd.prog 4 1 := ⟨by kernel_rfl⟩
instance : TyOne Tryd.prog 4 := ⟨_, Tryd.underlying4, trivial⟩
instance : TyBool Tryd.prog 4 := ⟨Tryd.underlying4⟩
instance : TyInt Tryd.prog 5 .u8 := ⟨Tryd.underlying5⟩
instance : TySz Tryd.prog 9 1 := ⟨by kernel_rfl⟩
instance : TyOne Tryd.prog 9 := ⟨_, Tryd.underlying9, trivial⟩
instance : TyStr Tryd.prog 9 := ⟨Tryd.underlying9⟩
instance : TyZero Tryd.prog 9 (.string ⟨#[]⟩) := ⟨by kernel_rfl, rfl⟩
instance : TySz Tryd.prog 22 1 := ⟨by kernel_rfl⟩
instance : TyOne Tryd.prog 22 := ⟨_, Tryd.underlying22, trivial⟩
instance : TyInt Tryd.prog 25 .u64 := ⟨Tryd.underlying25⟩
instance : TyInt Tryd.prog 26 .u64 := ⟨Tryd.underlying26⟩
instance : TySz Tryd.prog 28 3 := ⟨by kernel_rfl⟩
instance : TyAgg Tryd.prog 28 3 := ⟨⟨_, Tryd.underlying28, trivial⟩, by kernel_rfl⟩
instance : TyZero Tryd.prog 28 (.agg #[.bool false, .int .u32 0, .string ⟨#[]⟩]) := ⟨by kernel_rfl, rfl⟩
instance : TyFld Tryd.prog 28 0 0 1 := ⟨_, _, Tryd.underlying28, rfl, rfl, by kernel_rfl, by decide⟩
instance : TyFld Tryd.prog 28 1 1 1 := ⟨_, _, Tryd.underlying28, rfl, rfl, by kernel_rfl, by decide⟩
instance : TyFld Tryd.prog 28 2 2 1 := ⟨_, _, Tryd.underlying28, rfl, rfl, by kernel_rfl, by decide⟩
instance : TyCmp Tryd.prog 28 [.bool, (.int .u32), .str] := ⟨by kernel_rfl, by kernel_rfl⟩
instance : TyStruct Tryd.prog 28 [.bool false, .int .u32 0, .string ⟨#[]⟩] [(0, 1), (1, 1), (2, 1)] := ⟨_, .agg #[.bool false, .int .u32 0, .string ⟨#[]⟩], Tryd.underlying28, by kernel_rfl, rfl, rfl, by kernel_rfl⟩
instance : TySz Tryd.prog 33 1 := ⟨by kernel_rfl⟩
instance : TyOne Tryd.prog 33 := ⟨_, Tryd.underlying33, trivial⟩
instance : TySl Tryd.prog 33 3 1 8 := ⟨Tryd.underlying33, by kernel_rfl, by decide, by decide, by kernel_rfl⟩
instance : TySz Tryd.prog 36 1 := ⟨by kernel_rfl⟩
instance : TyOne Tryd.prog 36 := ⟨_, Tryd.underlying36, trivial⟩
instance : TySl Tryd.prog 36 70 2 48 := ⟨Tryd.underlying36, by kernel_rfl, by decide, by decide, by kernel_rfl⟩
instance : TySz Tryd.prog 38 4 := ⟨by kernel_rfl⟩
instance : TyAgg Tryd.prog 38 4 := ⟨⟨_, Tryd.underlying38, trivial⟩, by kernel_rfl⟩
instance : TyZero Tryd.prog 38 (.agg #[.string ⟨#[]⟩, .bool false, .int .i64 0, .slice none 0 0]) := ⟨by kernel_rfl, rfl⟩
instance : TyFld Tryd.prog 38 0 0 1 := ⟨_, _, Tryd.underlying38, rfl, rfl, by kernel_rfl, by decide⟩
instance : TyFld Tryd.prog 38 1 1 1 := ⟨_, _, Tryd.underlying38, rfl, rfl, by kernel_rfl, by decide⟩
instance : TyFld Tryd.prog 38 2 2 1 := ⟨_, _, Tryd.underlying38, rfl, rfl, by kernel_rfl, by decide⟩
instance : TyFld Tryd.prog 38 3 3 1 := ⟨_, _, Tryd.underlying38, rfl, rfl, by kernel_rfl, by decide⟩
instance : TyStruct Tryd.prog 38 [.string ⟨#[]⟩, .bool false, .int .i64 0, .slice none 0 0] [(0, 1), (1, 1), (2, 1), (3, 1)] := ⟨_, .agg #[.string ⟨#[]⟩, .bool false, .int .i64 0, .slice none 0 0], Tryd.underlying38, by kernel_rfl, rfl, rfl, by kernel_rfl⟩
instance : TySl Tryd.prog 42 9 1 16 := ⟨Tryd.underlying42, by kernel_rfl, by decide, by decide, by kernel_rfl⟩
instance : TySz Tryd.prog 44 1 := ⟨by kernel_rfl⟩
instance : TyOne Tryd.prog 44 := ⟨_, Tryd.underlying44, trivial⟩
instance : TySl Tryd.prog 44 5 1 1 := ⟨Tryd.underlying44, by kernel_rfl, by decide, by decide, by kernel_rfl⟩
instance : TyBytes Tryd.prog 44 5 := ⟨Tryd.underlying44, Tryd.underlying5, by kernel_rfl⟩
instance : TyFld Tryd.prog 56 0 0 4 := ⟨_, _, Tryd.underlying56, rfl, rfl, by kernel_rfl, by decide⟩
instance : TyStruct Tryd.prog 56 [.string ⟨#[]⟩, .bool false, .int .i64 0, .slice none 0 0] [(0, 4)] := ⟨_, .agg #[.string ⟨#[]⟩, .bool false, .int .i64 0, .slice none 0 0], Tryd.underlying56, by kernel_rfl, rfl, rfl, by kernel_rfl⟩
instance : TyZero Tryd.prog 62 (.agg #[.pointer none, .slice none 0 0]) := ⟨by kernel_rfl, rfl⟩
instance : TyFld Tryd.prog 62 1 1 1 := ⟨_, _, Tryd.underlying62, rfl, rfl, by kernel_rfl, by decide⟩
instance : TySz Tryd.prog 68 1 := ⟨by kernel_rfl⟩
instance : TyOne Tryd.prog 68 := ⟨_, Tryd.underlying68, trivial⟩
instance : TySl Tryd.prog 68 28 3 24 := ⟨Tryd.underlying68, by kernel_rfl, by decide, by decide, by kernel_rfl⟩
instance : TySz Tryd.prog 70 2 := ⟨by kernel_rfl⟩
instance : TyAgg Tryd.prog 70 2 := ⟨⟨_, Tryd.underlying70, trivial⟩, by kernel_rfl⟩
instance : TyZero Tryd.prog 70 (.agg #[.slice none 0 0, .slice none 0 0]) := ⟨by kernel_rfl, rfl⟩
instance : TyFld Tryd.prog 70 0 0 1 := ⟨_, _, Tryd.underlying70, rfl, rfl, by kernel_rfl, by decide⟩
instance : TyFld Tryd.prog 70 1 1 1 := ⟨_, _, Tryd.underlying70, rfl, rfl, by kernel_rfl, by decide⟩
instance : TyStruct Tryd.prog 70 [.slice none 0 0, .slice none 0 0] [(0, 1), (1, 1)] := ⟨_, .agg #[.slice none 0 0, .slice none 0 0], Tryd.underlying70, by kernel_rfl, rfl, rfl, by kernel_rfl⟩
instance : TyFld Tryd.prog 92 0 0 1 := ⟨_, _, Tryd.underlying92, rfl, rfl, by kernel_rfl, by decide⟩
instance : TyFld Tryd.prog 92 1 1 1 := ⟨_, _, Tryd.underlying92, rfl, rfl, by kernel_rfl, by decide⟩
instance : TyStruct Tryd.prog 92 [.string ⟨#[]⟩, .int .i64 0] [(0, 1), (1, 1)] := ⟨_, .agg #[.string ⟨#[]⟩, .int .i64 0], Tryd.underlying92, by kernel_rfl, rfl, rfl, by kernel_rfl⟩
instance : TyZero Tryd.prog 99 (.agg #[.bool false, .int .u32 0]) := ⟨by kernel_rfl, rfl⟩
instance : TyFld Tryd.prog 99 0 0 1 := ⟨_, _, Tryd.underlying99, rfl, rfl, by kernel_rfl, by decide⟩
instance : TyFld Tryd.prog 99 1 1 1 := ⟨_, _, Tryd.underlying99, rfl, rfl, by kernel_rfl, by decide⟩
end Go.Proofs
