/- What the abstract logic asks of this seat's types: printed by a program (types.py). -/
import Derived.Test.YtbflhoahmmfkmaaGreatDoorProg
import Derived.Test.YtbflhoahmmfkmaaGreatDoorAn
import Derived.KernelRfl
set_option linter.all false
namespace Go.Proofs
open Go Go.AL
instance:TySz Tryz.prog 3 1:=⟨by kernel_rfl⟩
instance:TyOne Tryz.prog 3:=⟨_,Tryz.underlying3,trivial⟩
instance:TyInt Tryz.prog 3 .i64:=⟨Tryz.underlying3⟩
instance:TyZero Tryz.prog 3 (.int .i64 0):=⟨by kernel_rfl,rfl⟩
instance:TySz Tryz.prog 4 1:=⟨by kernel_rfl⟩
instance:TyOne Tryz.prog 4:=⟨_,Tryz.underlying4,trivial⟩
instance:TyBool Tryz.prog 4:=⟨Tryz.underlying4⟩
instance:TyZero Tryz.prog 4 (.bool false):=⟨by kernel_rfl,rfl⟩
instance:TyInt Tryz.prog 5 .u8:=⟨Tryz.underlying5⟩
instance:TySz Tryz.prog 9 1:=⟨by kernel_rfl⟩
instance:TyOne Tryz.prog 9:=⟨_,Tryz.underlying9,trivial⟩
instance:TyStr Tryz.prog 9:=⟨Tryz.underlying9⟩
instance:TyZero Tryz.prog 9 (.string ⟨#[]⟩):=⟨by kernel_rfl,rfl⟩
instance:TyOne Tryz.prog 22:=⟨_,Tryz.underlying22,trivial⟩
instance:TySl Tryz.prog 22 3 1 8:=⟨Tryz.underlying22,by kernel_rfl,by decide,by decide,by kernel_rfl⟩
instance:TySl Tryz.prog 23 32 3 56:=⟨Tryz.underlying23,by kernel_rfl,by decide,by decide,by kernel_rfl⟩
instance:TySl Tryz.prog 27 9 1 16:=⟨Tryz.underlying27,by kernel_rfl,by decide,by decide,by kernel_rfl⟩
instance:TyOne Tryz.prog 30:=⟨_,Tryz.underlying30,trivial⟩
instance:TySl Tryz.prog 30 72 2 32:=⟨Tryz.underlying30,by kernel_rfl,by decide,by decide,by kernel_rfl⟩
instance:TySz Tryz.prog 32 3:=⟨by kernel_rfl⟩
instance:TyAgg Tryz.prog 32 3:=⟨⟨_,Tryz.underlying32,trivial⟩,by kernel_rfl⟩
instance:TyZero Tryz.prog 32 (.agg #[.slice none 0 0,.int .i64 0,.slice none 0 0]):=⟨by kernel_rfl,rfl⟩
instance:TyFld Tryz.prog 32 0 0 1:=⟨_,_,Tryz.underlying32,rfl,rfl,by kernel_rfl,by decide⟩
instance:TyFld Tryz.prog 32 1 1 1:=⟨_,_,Tryz.underlying32,rfl,rfl,by kernel_rfl,by decide⟩
instance:TyFld Tryz.prog 32 2 2 1:=⟨_,_,Tryz.underlying32,rfl,rfl,by kernel_rfl,by decide⟩
instance:TyStruct Tryz.prog 32 [.slice none 0 0,.int .i64 0,.slice none 0 0] [(0,1),(1,1),(2,1)]:=⟨_,.agg #[.slice none 0 0,.int .i64 0,.slice none 0 0],Tryz.underlying32,by kernel_rfl,rfl,rfl,by kernel_rfl⟩
instance:TySz Tryz.prog 37 6:=⟨by kernel_rfl⟩
instance:TyAgg Tryz.prog 37 6:=⟨⟨_,Tryz.underlying37,trivial⟩,by kernel_rfl⟩
instance:TyZero Tryz.prog 37 (.agg #[.int .i64 0,.int .i64 0,.int .i64 0,.int .i64 0,.bool false,.string ⟨#[]⟩]):=⟨by kernel_rfl,rfl⟩
instance:TyFld Tryz.prog 37 0 0 1:=⟨_,_,Tryz.underlying37,rfl,rfl,by kernel_rfl,by decide⟩
instance:TyFld Tryz.prog 37 1 1 1:=⟨_,_,Tryz.underlying37,rfl,rfl,by kernel_rfl,by decide⟩
instance:TyFld Tryz.prog 37 2 2 1:=⟨_,_,Tryz.underlying37,rfl,rfl,by kernel_rfl,by decide⟩
instance:TyFld Tryz.prog 37 3 3 1:=⟨_,_,Tryz.underlying37,rfl,rfl,by kernel_rfl,by decide⟩
instance:TyFld Tryz.prog 37 4 4 1:=⟨_,_,Tryz.underlying37,rfl,rfl,by kernel_rfl,by decide⟩
instance:TyFld Tryz.prog 37 5 5 1:=⟨_,_,Tryz.underlying37,rfl,rfl,by kernel_rfl,by decide⟩
instance:TyCmp Tryz.prog 37 [(.int .i64),(.int .i64),(.int .i64),(.int .i64),.bool,.str]:=⟨by kernel_rfl,by kernel_rfl⟩
instance:TyStruct Tryz.prog 37 [.int .i64 0,.int .i64 0,.int .i64 0,.int .i64 0,.bool false,.string ⟨#[]⟩] [(0,1),(1,1),(2,1),(3,1),(4,1),(5,1)]:=⟨_,.agg #[.int .i64 0,.int .i64 0,.int .i64 0,.int .i64 0,.bool false,.string ⟨#[]⟩],Tryz.underlying37,by kernel_rfl,rfl,rfl,by kernel_rfl⟩
instance:TySz Tryz.prog 72 2:=⟨by kernel_rfl⟩
instance:TyAgg Tryz.prog 72 2:=⟨⟨_,Tryz.underlying72,trivial⟩,by kernel_rfl⟩
instance:TyZero Tryz.prog 72 (.agg #[.string ⟨#[]⟩,.string ⟨#[]⟩]):=⟨by kernel_rfl,rfl⟩
instance:TyFld Tryz.prog 72 0 0 1:=⟨_,_,Tryz.underlying72,rfl,rfl,by kernel_rfl,by decide⟩
instance:TyFld Tryz.prog 72 1 1 1:=⟨_,_,Tryz.underlying72,rfl,rfl,by kernel_rfl,by decide⟩
instance:TyStruct Tryz.prog 72 [.string ⟨#[]⟩,.string ⟨#[]⟩] [(0,1),(1,1)]:=⟨_,.agg #[.string ⟨#[]⟩,.string ⟨#[]⟩],Tryz.underlying72,by kernel_rfl,rfl,rfl,by kernel_rfl⟩
instance:TyInt Tryz.prog 73 .u64:=⟨Tryz.underlying73⟩
instance:TyFld Tryz.prog 80 0 0 1:=⟨_,_,Tryz.underlying80,rfl,rfl,by kernel_rfl,by decide⟩
instance:TyFld Tryz.prog 80 1 1 1:=⟨_,_,Tryz.underlying80,rfl,rfl,by kernel_rfl,by decide⟩
instance:TyStruct Tryz.prog 80 [.string ⟨#[]⟩,.int .i64 0] [(0,1),(1,1)]:=⟨_,.agg #[.string ⟨#[]⟩,.int .i64 0],Tryz.underlying80,by kernel_rfl,rfl,rfl,by kernel_rfl⟩
instance:TySz Tryz.prog 107 1:=⟨by kernel_rfl⟩
instance:TyOne Tryz.prog 107:=⟨_,Tryz.underlying107,trivial⟩
instance:TySl Tryz.prog 107 5 1 1:=⟨Tryz.underlying107,by kernel_rfl,by decide,by decide,by kernel_rfl⟩
instance:TyBytes Tryz.prog 107 5:=⟨Tryz.underlying107,Tryz.underlying5,by kernel_rfl⟩
instance:TyZero Tryz.prog 109 (.agg #[.pointer none,.slice none 0 0]):=⟨by kernel_rfl,rfl⟩
instance:TyFld Tryz.prog 109 1 1 1:=⟨_,_,Tryz.underlying109,rfl,rfl,by kernel_rfl,by decide⟩
instance:TySz Tryz.prog 117 1:=⟨by kernel_rfl⟩
instance:TyOne Tryz.prog 117:=⟨_,Tryz.underlying117,trivial⟩
instance:TySl Tryz.prog 117 4 1 1:=⟨Tryz.underlying117,by kernel_rfl,by decide,by decide,by kernel_rfl⟩
instance:TyZero Tryz.prog 117 (.slice none 0 0):=⟨by kernel_rfl,rfl⟩
instance:TySl Tryz.prog 134 137 6 32:=⟨Tryz.underlying134,by kernel_rfl,by decide,by decide,by kernel_rfl⟩
instance:TySz Tryz.prog 137 6:=⟨by kernel_rfl⟩
instance:TyAgg Tryz.prog 137 6:=⟨⟨_,Tryz.underlying137,trivial⟩,by kernel_rfl⟩
instance:TyZero Tryz.prog 137 (.agg #[.string ⟨#[]⟩,.int .i64 0,.bool false,.bool false,.bool false,.bool false]):=⟨by kernel_rfl,rfl⟩
instance:TyFld Tryz.prog 137 0 0 1:=⟨_,_,Tryz.underlying137,rfl,rfl,by kernel_rfl,by decide⟩
instance:TyFld Tryz.prog 137 1 1 1:=⟨_,_,Tryz.underlying137,rfl,rfl,by kernel_rfl,by decide⟩
instance:TyFld Tryz.prog 137 2 2 1:=⟨_,_,Tryz.underlying137,rfl,rfl,by kernel_rfl,by decide⟩
instance:TyFld Tryz.prog 137 3 3 1:=⟨_,_,Tryz.underlying137,rfl,rfl,by kernel_rfl,by decide⟩
instance:TyFld Tryz.prog 137 4 4 1:=⟨_,_,Tryz.underlying137,rfl,rfl,by kernel_rfl,by decide⟩
instance:TyFld Tryz.prog 137 5 5 1:=⟨_,_,Tryz.underlying137,rfl,rfl,by kernel_rfl,by decide⟩
instance:TyStruct Tryz.prog 137 [.string ⟨#[]⟩,.int .i64 0,.bool false,.bool false,.bool false,.bool false] [(0,1),(1,1),(2,1),(3,1),(4,1),(5,1)]:=⟨_,.agg #[.string ⟨#[]⟩,.int .i64 0,.bool false,.bool false,.bool false,.bool false],Tryz.underlying137,by kernel_rfl,rfl,rfl,by kernel_rfl⟩
instance:TySl Tryz.prog 138 141 1 8:=⟨Tryz.underlying138,by kernel_rfl,by decide,by decide,by kernel_rfl⟩
instance:TyOne Tryz.prog 141:=⟨_,Tryz.underlying141,trivial⟩
instance:TyMap Tryz.prog 281 9 .string (.string ⟨#[]⟩):=⟨9,Tryz.underlying281,Tryz.underlying9,by kernel_rfl,rfl⟩
end Go.Proofs
