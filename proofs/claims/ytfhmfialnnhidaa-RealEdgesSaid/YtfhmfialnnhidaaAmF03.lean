/- Facts of the program's types and functions. -/
import Derived.Test.YtfhmfialnnhidaaAmSimps
import Derived.Test.YtfhmfialnnhidaaProg
import Derived.KernelRfl
set_option linter.unusedSimpArgs false
set_option linter.unusedVariables false
namespace Go.Proofs.Ytfhmfialnnhidaa
open Go Go.AM
theorem ts2 : tsize Try.prog 2 = some 1 := by kernel_rfl
theorem tb2 : tbytes Try.prog 2 = some 8 := by kernel_rfl
theorem tz2 : tzero Try.prog 2 = Option.some (Go.Value.int Go.IntKind.i64 0) := by kernel_rfl
theorem ts3 : tsize Try.prog 3 = some 1 := by kernel_rfl
theorem tb3 : tbytes Try.prog 3 = some 8 := by kernel_rfl
theorem tz3 : tzero Try.prog 3 = Option.some (Go.Value.int Go.IntKind.i64 0) := by kernel_rfl
theorem ts4 : tsize Try.prog 4 = some 1 := by kernel_rfl
theorem tb4 : tbytes Try.prog 4 = some 1 := by kernel_rfl
theorem tz4 : tzero Try.prog 4 = Option.some (Go.Value.bool Bool.false) := by kernel_rfl
theorem ts5 : tsize Try.prog 5 = some 1 := by kernel_rfl
theorem tb5 : tbytes Try.prog 5 = some 1 := by kernel_rfl
theorem tz5 : tzero Try.prog 5 = Option.some (Go.Value.int Go.IntKind.u8 0) := by kernel_rfl
theorem ts9 : tsize Try.prog 9 = some 1 := by kernel_rfl
theorem tb9 : tbytes Try.prog 9 = some 16 := by kernel_rfl
theorem tz9 : tzero Try.prog 9 = Option.some (Go.Value.string { data := #[] }) := by kernel_rfl
theorem ts22 : tsize Try.prog 22 = some 1 := by kernel_rfl
theorem tb22 : tbytes Try.prog 22 = some 8 := by kernel_rfl
theorem tz22 : tzero Try.prog 22 = Option.some (Go.Value.int Go.IntKind.u64 0) := by kernel_rfl
theorem ts24 : tsize Try.prog 24 = some 1 := by kernel_rfl
theorem tb24 : tbytes Try.prog 24 = some 8 := by kernel_rfl
theorem tz24 : tzero Try.prog 24 = Option.some (Go.Value.float Go.FloatKind.f64 0) := by kernel_rfl
theorem ts27 : tsize Try.prog 27 = some 2 := by kernel_rfl
theorem tb27 : tbytes Try.prog 27 = some 16 := by kernel_rfl
theorem tz27 : tzero Try.prog 27 = Option.some (Go.Value.agg #[Go.Value.float Go.FloatKind.f64 0, Go.Value.float Go.FloatKind.f64 0]) := by kernel_rfl
theorem ts28 : tsize Try.prog 28 = some 1 := by kernel_rfl
theorem tb28 : tbytes Try.prog 28 = some 24 := by kernel_rfl
theorem tz28 : tzero Try.prog 28 = Option.some (Go.Value.slice Option.none 0 0) := by kernel_rfl
theorem fr0 : Try.f0.results.toList = [] := rfl
theorem fr3 : Try.f3.results.toList = [Go.ResultVar.tmp 8] := rfl
theorem fr4 : Try.f4.results.toList = [Go.ResultVar.tmp 8] := rfl
theorem fr5 : Try.f5.results.toList = [Go.ResultVar.tmp 4] := rfl
theorem fr6 : Try.f6.results.toList = [Go.ResultVar.tmp 8] := rfl
theorem fr7 : Try.f7.results.toList = [Go.ResultVar.tmp 0] := rfl
theorem fr8 : Try.f8.results.toList = [Go.ResultVar.tmp 4] := rfl
theorem fr9 : Try.f9.results.toList = [Go.ResultVar.tmp 4] := rfl
theorem fr10 : Try.f10.results.toList = [Go.ResultVar.tmp 4] := rfl
theorem fr11 : Try.f11.results.toList = [Go.ResultVar.tmp 4] := rfl
theorem fr13 : Try.f13.results.toList = [Go.ResultVar.tmp 2] := rfl
theorem fr14 : Try.f14.results.toList = [Go.ResultVar.tmp 4] := rfl
theorem fr15 : Try.f15.results.toList = [Go.ResultVar.tmp 4] := rfl
theorem fr16 : Try.f16.results.toList = [Go.ResultVar.tmp 2] := rfl
theorem fr17 : Try.f17.results.toList = [Go.ResultVar.tmp 2] := rfl
theorem fr18 : Try.f18.results.toList = [Go.ResultVar.tmp 2] := rfl
theorem fr19 : Try.f19.results.toList = [Go.ResultVar.tmp 4] := rfl
theorem fr20 : Try.f20.results.toList = [Go.ResultVar.tmp 2, Go.ResultVar.tmp 3] := rfl
theorem fr21 : Try.f21.results.toList = [Go.ResultVar.tmp 2] := rfl
theorem fr23 : Try.f23.results.toList = [Go.ResultVar.tmp 2] := rfl
theorem fr24 : Try.f24.results.toList = [Go.ResultVar.tmp 0] := rfl
theorem fr25 : Try.f25.results.toList = [Go.ResultVar.tmp 2] := rfl
theorem fr26 : Try.f26.results.toList = [Go.ResultVar.tmp 2] := rfl
end Go.Proofs.Ytfhmfialnnhidaa
