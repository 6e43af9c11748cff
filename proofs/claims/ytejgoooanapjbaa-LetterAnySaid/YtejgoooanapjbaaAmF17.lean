/- Facts of the program's types and functions. -/
import Derived.Test.YtejgoooanapjbaaAmSimps
import Derived.Test.YtejgoooanapjbaaProg
import Derived.KernelRfl
set_option linter.unusedSimpArgs false
set_option linter.unusedVariables false
namespace Go.Proofs.Ytejgoooanapjbaa
open Go Go.AM
theorem ts0 : tsize Try.prog 0 = some 1 := by kernel_rfl
theorem tb0 : tbytes Try.prog 0 = some 0 := by kernel_rfl
theorem tz0 : tzero Try.prog 0 = Option.some (Go.Value.tuple #[]) := by kernel_rfl
theorem ts3 : tsize Try.prog 3 = some 1 := by kernel_rfl
theorem tb3 : tbytes Try.prog 3 = some 8 := by kernel_rfl
theorem tz3 : tzero Try.prog 3 = Option.some (Go.Value.int Go.IntKind.i64 0) := by kernel_rfl
theorem ts4 : tsize Try.prog 4 = some 1 := by kernel_rfl
theorem tb4 : tbytes Try.prog 4 = some 1 := by kernel_rfl
theorem tz4 : tzero Try.prog 4 = Option.some (Go.Value.bool Bool.false) := by kernel_rfl
theorem ts5 : tsize Try.prog 5 = some 1 := by kernel_rfl
theorem tb5 : tbytes Try.prog 5 = some 1 := by kernel_rfl
theorem tz5 : tzero Try.prog 5 = Option.some (Go.Value.int Go.IntKind.u8 0) := by kernel_rfl
theorem ts9 : tsize Try.prog 9 = some 1 := by kernel_rfl
theorem tb9 : tbytes Try.prog 9 = some 16 := by kernel_rfl
theorem tz9 : tzero Try.prog 9 = Option.some (Go.Value.string { data := #[] }) := by kernel_rfl
theorem ts22 : tsize Try.prog 22 = some 1 := by kernel_rfl
theorem tb22 : tbytes Try.prog 22 = some 4 := by kernel_rfl
theorem tz22 : tzero Try.prog 22 = Option.some (Go.Value.int Go.IntKind.u32 0) := by kernel_rfl
theorem ts23 : tsize Try.prog 23 = some 1 := by kernel_rfl
theorem tb23 : tbytes Try.prog 23 = some 2 := by kernel_rfl
theorem tz23 : tzero Try.prog 23 = Option.some (Go.Value.int Go.IntKind.u16 0) := by kernel_rfl
theorem ts24 : tsize Try.prog 24 = some 1 := by kernel_rfl
theorem tb24 : tbytes Try.prog 24 = some 24 := by kernel_rfl
theorem tz24 : tzero Try.prog 24 = Option.some (Go.Value.slice Option.none 0 0) := by kernel_rfl
theorem ts26 : tsize Try.prog 26 = some 4 := by kernel_rfl
theorem tb26 : tbytes Try.prog 26 = some 32 := by kernel_rfl
theorem tz26 : tzero Try.prog 26 = Option.some
      (Go.Value.agg
        #[Go.Value.int Go.IntKind.u16 0, Go.Value.int Go.IntKind.u16 0, Go.Value.int Go.IntKind.u16 0,
          Go.Value.slice Option.none 0 0]) := by kernel_rfl
theorem ts28 : tsize Try.prog 28 = some 6 := by kernel_rfl
theorem tb28 : tbytes Try.prog 28 = some 48 := by kernel_rfl
theorem tz28 : tzero Try.prog 28 = Option.some
      (Go.Value.agg
        #[Go.Value.int Go.IntKind.u8 0, Go.Value.int Go.IntKind.u16 0, Go.Value.int Go.IntKind.u16 0,
          Go.Value.int Go.IntKind.u16 0, Go.Value.slice Option.none 0 0, Go.Value.int Go.IntKind.u16 0]) := by kernel_rfl
theorem ts30 : tsize Try.prog 30 = some 3 := by kernel_rfl
theorem tb30 : tbytes Try.prog 30 = some 32 := by kernel_rfl
theorem tz30 : tzero Try.prog 30 = Option.some
      (Go.Value.agg #[Go.Value.int Go.IntKind.u16 0, Go.Value.int Go.IntKind.u16 0, Go.Value.slice Option.none 0 0]) := by kernel_rfl
theorem ts32 : tsize Try.prog 32 = some 26 := by kernel_rfl
theorem tb32 : tbytes Try.prog 32 = some 152 := by kernel_rfl
theorem tz32 : tzero Try.prog 32 = Option.some
      (Go.Value.agg
        #[Go.Value.int Go.IntKind.u8 0, Go.Value.int Go.IntKind.u8 0, Go.Value.int Go.IntKind.u8 0,
          Go.Value.int Go.IntKind.u32 0, Go.Value.int Go.IntKind.u32 0, Go.Value.int Go.IntKind.u32 0,
          Go.Value.int Go.IntKind.u8 0, Go.Value.int Go.IntKind.u8 0, Go.Value.bool Bool.false,
          Go.Value.int Go.IntKind.u8 0, Go.Value.int Go.IntKind.u16 0, Go.Value.int Go.IntKind.u16 0,
          Go.Value.int Go.IntKind.u16 0, Go.Value.slice Option.none 0 0, Go.Value.int Go.IntKind.u16 0,
          Go.Value.int Go.IntKind.u16 0, Go.Value.int Go.IntKind.u16 0, Go.Value.int Go.IntKind.u16 0,
          Go.Value.slice Option.none 0 0, Go.Value.int Go.IntKind.u32 0, Go.Value.int Go.IntKind.u16 0,
          Go.Value.int Go.IntKind.u16 0, Go.Value.int Go.IntKind.u16 0, Go.Value.int Go.IntKind.u16 0,
          Go.Value.int Go.IntKind.u16 0, Go.Value.slice Option.none 0 0]) := by kernel_rfl
theorem ts34 : tsize Try.prog 34 = some 1 := by kernel_rfl
theorem tb34 : tbytes Try.prog 34 = some 1 := by kernel_rfl
theorem tz34 : tzero Try.prog 34 = Option.some (Go.Value.int Go.IntKind.u8 0) := by kernel_rfl
theorem ts36 : tsize Try.prog 36 = some 2 := by kernel_rfl
theorem tb36 : tbytes Try.prog 36 = some 16 := by kernel_rfl
theorem tz36 : tzero Try.prog 36 = Option.some (Go.Value.agg #[Go.Value.int Go.IntKind.i64 0, Go.Value.int Go.IntKind.i64 0]) := by kernel_rfl
theorem ts37 : tsize Try.prog 37 = some 1 := by kernel_rfl
theorem tb37 : tbytes Try.prog 37 = some 1 := by kernel_rfl
theorem tz37 : tzero Try.prog 37 = Option.some (Go.Value.int Go.IntKind.u8 0) := by kernel_rfl
theorem ts39 : tsize Try.prog 39 = some 2 := by kernel_rfl
theorem tb39 : tbytes Try.prog 39 = some 4 := by kernel_rfl
theorem tz39 : tzero Try.prog 39 = Option.some (Go.Value.agg #[Go.Value.int Go.IntKind.u16 0, Go.Value.int Go.IntKind.u16 0]) := by kernel_rfl
theorem ts41 : tsize Try.prog 41 = some 4 := by kernel_rfl
theorem tb41 : tbytes Try.prog 41 = some 40 := by kernel_rfl
theorem tz41 : tzero Try.prog 41 = Option.some
      (Go.Value.agg
        #[Go.Value.int Go.IntKind.u16 0, Go.Value.int Go.IntKind.u16 0, Go.Value.int Go.IntKind.i64 0,
          Go.Value.slice Option.none 0 0]) := by kernel_rfl
theorem ts42 : tsize Try.prog 42 = some 1 := by kernel_rfl
theorem tb42 : tbytes Try.prog 42 = some 24 := by kernel_rfl
theorem tz42 : tzero Try.prog 42 = Option.some (Go.Value.slice Option.none 0 0) := by kernel_rfl
theorem ts44 : tsize Try.prog 44 = some 6 := by kernel_rfl
theorem tb44 : tbytes Try.prog 44 = some 72 := by kernel_rfl
theorem tz44 : tzero Try.prog 44 = Option.some
      (Go.Value.agg
        #[Go.Value.int Go.IntKind.u8 0, Go.Value.int Go.IntKind.u16 0, Go.Value.int Go.IntKind.u16 0,
          Go.Value.int Go.IntKind.i64 0, Go.Value.slice Option.none 0 0, Go.Value.slice Option.none 0 0]) := by kernel_rfl
theorem ts46 : tsize Try.prog 46 = some 2 := by kernel_rfl
theorem tb46 : tbytes Try.prog 46 = some 32 := by kernel_rfl
theorem tz46 : tzero Try.prog 46 = Option.some (Go.Value.agg #[Go.Value.int Go.IntKind.i64 0, Go.Value.slice Option.none 0 0]) := by kernel_rfl
theorem ts47 : tsize Try.prog 47 = some 1 := by kernel_rfl
theorem tb47 : tbytes Try.prog 47 = some 8 := by kernel_rfl
theorem tz47 : tzero Try.prog 47 = Option.some (Go.Value.int Go.IntKind.i64 0) := by kernel_rfl
theorem ts49 : tsize Try.prog 49 = some 3 := by kernel_rfl
theorem tb49 : tbytes Try.prog 49 = some 40 := by kernel_rfl
theorem tz49 : tzero Try.prog 49 = Option.some
      (Go.Value.agg #[Go.Value.int Go.IntKind.i64 0, Go.Value.int Go.IntKind.i64 0, Go.Value.slice Option.none 0 0]) := by kernel_rfl
theorem ts51 : tsize Try.prog 51 = some 26 := by kernel_rfl
theorem tb51 : tbytes Try.prog 51 = some 264 := by kernel_rfl
theorem tz51 : tzero Try.prog 51 = Option.some
      (Go.Value.agg
        #[Go.Value.int Go.IntKind.u8 0, Go.Value.int Go.IntKind.i64 0, Go.Value.int Go.IntKind.i64 0,
          Go.Value.int Go.IntKind.i64 0, Go.Value.int Go.IntKind.i64 0, Go.Value.int Go.IntKind.i64 0,
          Go.Value.int Go.IntKind.i64 0, Go.Value.int Go.IntKind.i64 0, Go.Value.bool Bool.false,
          Go.Value.int Go.IntKind.u8 0, Go.Value.int Go.IntKind.u16 0, Go.Value.int Go.IntKind.u16 0,
          Go.Value.int Go.IntKind.i64 0, Go.Value.slice Option.none 0 0, Go.Value.slice Option.none 0 0,
          Go.Value.int Go.IntKind.i64 0, Go.Value.slice Option.none 0 0, Go.Value.int Go.IntKind.u16 0,
          Go.Value.int Go.IntKind.u16 0, Go.Value.int Go.IntKind.i64 0, Go.Value.slice Option.none 0 0,
          Go.Value.int Go.IntKind.u16 0, Go.Value.int Go.IntKind.u16 0, Go.Value.int Go.IntKind.i64 0,
          Go.Value.int Go.IntKind.i64 0, Go.Value.slice Option.none 0 0]) := by kernel_rfl
theorem ts53 : tsize Try.prog 53 = some 1 := by kernel_rfl
theorem tb53 : tbytes Try.prog 53 = some 0 := by kernel_rfl
theorem tz53 : tzero Try.prog 53 = Option.some (Go.Value.tuple #[Go.Value.slice Option.none 0 0, Go.Value.int Go.IntKind.i64 0]) := by kernel_rfl
theorem ts55 : tsize Try.prog 55 = some 1 := by kernel_rfl
theorem tb55 : tbytes Try.prog 55 = some 0 := by kernel_rfl
theorem tz55 : tzero Try.prog 55 = Option.some
      (Go.Value.tuple
        #[Go.Value.agg
            #[Go.Value.int Go.IntKind.u8 0, Go.Value.int Go.IntKind.i64 0, Go.Value.int Go.IntKind.i64 0,
              Go.Value.int Go.IntKind.i64 0, Go.Value.int Go.IntKind.i64 0, Go.Value.int Go.IntKind.i64 0,
              Go.Value.int Go.IntKind.i64 0, Go.Value.int Go.IntKind.i64 0, Go.Value.bool Bool.false,
              Go.Value.int Go.IntKind.u8 0, Go.Value.int Go.IntKind.u16 0, Go.Value.int Go.IntKind.u16 0,
              Go.Value.int Go.IntKind.i64 0, Go.Value.slice Option.none 0 0, Go.Value.slice Option.none 0 0,
              Go.Value.int Go.IntKind.i64 0, Go.Value.slice Option.none 0 0, Go.Value.int Go.IntKind.u16 0,
              Go.Value.int Go.IntKind.u16 0, Go.Value.int Go.IntKind.i64 0, Go.Value.slice Option.none 0 0,
              Go.Value.int Go.IntKind.u16 0, Go.Value.int Go.IntKind.u16 0, Go.Value.int Go.IntKind.i64 0,
              Go.Value.int Go.IntKind.i64 0, Go.Value.slice Option.none 0 0],
          Go.Value.int Go.IntKind.i64 0]) := by kernel_rfl
theorem ts61 : tsize Try.prog 61 = some 1 := by kernel_rfl
theorem tb61 : tbytes Try.prog 61 = some 24 := by kernel_rfl
theorem tz61 : tzero Try.prog 61 = Option.some (Go.Value.slice Option.none 0 0) := by kernel_rfl
theorem ts63 : tsize Try.prog 63 = some 1 := by kernel_rfl
theorem tb63 : tbytes Try.prog 63 = some 8 := by kernel_rfl
theorem tz63 : tzero Try.prog 63 = Option.some Go.Value.nilFunc := by kernel_rfl
theorem ts66 : tsize Try.prog 66 = some 1 := by kernel_rfl
theorem tb66 : tbytes Try.prog 66 = some 8 := by kernel_rfl
theorem tz66 : tzero Try.prog 66 = Option.some (Go.Value.pointer Option.none) := by kernel_rfl
theorem ts68 : tsize Try.prog 68 = some 1 := by kernel_rfl
theorem tb68 : tbytes Try.prog 68 = some 24 := by kernel_rfl
theorem tz68 : tzero Try.prog 68 = Option.some (Go.Value.agg #[Go.Value.slice Option.none 0 0]) := by kernel_rfl
theorem ts78 : tsize Try.prog 78 = some 1 := by kernel_rfl
theorem tb78 : tbytes Try.prog 78 = some 8 := by kernel_rfl
theorem tz78 : tzero Try.prog 78 = Option.some (Go.Value.pointer Option.none) := by kernel_rfl
theorem ts88 : tsize Try.prog 88 = some 3 := by kernel_rfl
theorem tb88 : tbytes Try.prog 88 = some 24 := by kernel_rfl
theorem tz88 : tzero Try.prog 88 = Option.some
      (Go.Value.agg #[Go.Value.int Go.IntKind.i64 0, Go.Value.int Go.IntKind.i64 0, Go.Value.int Go.IntKind.i64 0]) := by kernel_rfl
theorem ts90 : tsize Try.prog 90 = some 1 := by kernel_rfl
theorem tb90 : tbytes Try.prog 90 = some 8 := by kernel_rfl
theorem tz90 : tzero Try.prog 90 = Option.some Go.Value.nilFunc := by kernel_rfl
theorem ts92 : tsize Try.prog 92 = some 1 := by kernel_rfl
theorem tb92 : tbytes Try.prog 92 = some 8 := by kernel_rfl
theorem tz92 : tzero Try.prog 92 = Option.some Go.Value.nilFunc := by kernel_rfl
theorem ts94 : tsize Try.prog 94 = some 1 := by kernel_rfl
theorem tb94 : tbytes Try.prog 94 = some 8 := by kernel_rfl
theorem tz94 : tzero Try.prog 94 = Option.some Go.Value.nilFunc := by kernel_rfl
theorem ts100 : tsize Try.prog 100 = some 1 := by kernel_rfl
theorem tb100 : tbytes Try.prog 100 = some 8 := by kernel_rfl
theorem tz100 : tzero Try.prog 100 = Option.some (Go.Value.int Go.IntKind.u64 0) := by kernel_rfl
theorem ts103 : tsize Try.prog 103 = some 3 := by kernel_rfl
theorem tb103 : tbytes Try.prog 103 = some 40 := by kernel_rfl
theorem tz103 : tzero Try.prog 103 = Option.some
      (Go.Value.agg #[Go.Value.slice Option.none 0 0, Go.Value.int Go.IntKind.i64 0, Go.Value.int Go.IntKind.i64 0]) := by kernel_rfl
theorem ts123 : tsize Try.prog 123 = some 1 := by kernel_rfl
theorem tb123 : tbytes Try.prog 123 = some 8 := by kernel_rfl
theorem tz123 : tzero Try.prog 123 = Option.some Go.Value.nilFunc := by kernel_rfl
theorem al4 (m : Mem) : opAlloc Try.prog 4 m = some (.pointer (some ⟨m.next, 0, none⟩), m.new (.cells [(Go.Value.bool Bool.false)] 4 true)) := by kernel_rfl
theorem al24 (m : Mem) : opAlloc Try.prog 24 m = some (.pointer (some ⟨m.next, 0, none⟩), m.new (.cells [(Go.Value.slice Option.none 0 0)] 24 true)) := by kernel_rfl
theorem al26 (m : Mem) : opAlloc Try.prog 26 m = some (.pointer (some ⟨m.next, 0, none⟩), m.new (.cells [Go.Value.int Go.IntKind.u16 0, Go.Value.int Go.IntKind.u16 0, Go.Value.int Go.IntKind.u16 0, Go.Value.slice Option.none 0 0] 26 true)) := by kernel_rfl
theorem bz26 : opBuild Try.prog 26 [] = some (Go.Value.agg #[Go.Value.int Go.IntKind.u16 0, Go.Value.int Go.IntKind.u16 0, Go.Value.int Go.IntKind.u16 0, Go.Value.slice Option.none 0 0]) := by kernel_rfl
theorem fa26_0 (i off : Nat) : opFieldAddr Try.prog 26 (.pointer (some ⟨i, off, none⟩)) 0 = some (.pointer (some ⟨i, off + 0, none⟩)) := by kernel_rfl
theorem fa26_1 (i off : Nat) : opFieldAddr Try.prog 26 (.pointer (some ⟨i, off, none⟩)) 1 = some (.pointer (some ⟨i, off + 1, none⟩)) := by kernel_rfl
theorem fa26_2 (i off : Nat) : opFieldAddr Try.prog 26 (.pointer (some ⟨i, off, none⟩)) 2 = some (.pointer (some ⟨i, off + 2, none⟩)) := by kernel_rfl
theorem fa26_3 (i off : Nat) : opFieldAddr Try.prog 26 (.pointer (some ⟨i, off, none⟩)) 3 = some (.pointer (some ⟨i, off + 3, none⟩)) := by kernel_rfl
theorem al28 (m : Mem) : opAlloc Try.prog 28 m = some (.pointer (some ⟨m.next, 0, none⟩), m.new (.cells [Go.Value.int Go.IntKind.u8 0, Go.Value.int Go.IntKind.u16 0, Go.Value.int Go.IntKind.u16 0, Go.Value.int Go.IntKind.u16 0, Go.Value.slice Option.none 0 0, Go.Value.int Go.IntKind.u16 0] 28 true)) := by kernel_rfl
theorem bz28 : opBuild Try.prog 28 [] = some (Go.Value.agg #[Go.Value.int Go.IntKind.u8 0, Go.Value.int Go.IntKind.u16 0, Go.Value.int Go.IntKind.u16 0, Go.Value.int Go.IntKind.u16 0, Go.Value.slice Option.none 0 0, Go.Value.int Go.IntKind.u16 0]) := by kernel_rfl
theorem fa28_0 (i off : Nat) : opFieldAddr Try.prog 28 (.pointer (some ⟨i, off, none⟩)) 0 = some (.pointer (some ⟨i, off + 0, none⟩)) := by kernel_rfl
theorem fa28_1 (i off : Nat) : opFieldAddr Try.prog 28 (.pointer (some ⟨i, off, none⟩)) 1 = some (.pointer (some ⟨i, off + 1, none⟩)) := by kernel_rfl
theorem fa28_2 (i off : Nat) : opFieldAddr Try.prog 28 (.pointer (some ⟨i, off, none⟩)) 2 = some (.pointer (some ⟨i, off + 5, none⟩)) := by kernel_rfl
theorem al30 (m : Mem) : opAlloc Try.prog 30 m = some (.pointer (some ⟨m.next, 0, none⟩), m.new (.cells [Go.Value.int Go.IntKind.u16 0, Go.Value.int Go.IntKind.u16 0, Go.Value.slice Option.none 0 0] 30 true)) := by kernel_rfl
theorem fa30_0 (i off : Nat) : opFieldAddr Try.prog 30 (.pointer (some ⟨i, off, none⟩)) 0 = some (.pointer (some ⟨i, off + 0, none⟩)) := by kernel_rfl
theorem fa30_1 (i off : Nat) : opFieldAddr Try.prog 30 (.pointer (some ⟨i, off, none⟩)) 1 = some (.pointer (some ⟨i, off + 1, none⟩)) := by kernel_rfl
theorem fa30_2 (i off : Nat) : opFieldAddr Try.prog 30 (.pointer (some ⟨i, off, none⟩)) 2 = some (.pointer (some ⟨i, off + 2, none⟩)) := by kernel_rfl
theorem al32 (m : Mem) : opAlloc Try.prog 32 m = some (.pointer (some ⟨m.next, 0, none⟩), m.new (.cells [Go.Value.int Go.IntKind.u8 0, Go.Value.int Go.IntKind.u8 0, Go.Value.int Go.IntKind.u8 0, Go.Value.int Go.IntKind.u32 0, Go.Value.int Go.IntKind.u32 0, Go.Value.int Go.IntKind.u32 0, Go.Value.int Go.IntKind.u8 0, Go.Value.int Go.IntKind.u8 0, Go.Value.bool Bool.false, Go.Value.int Go.IntKind.u8 0, Go.Value.int Go.IntKind.u16 0, Go.Value.int Go.IntKind.u16 0, Go.Value.int Go.IntKind.u16 0, Go.Value.slice Option.none 0 0, Go.Value.int Go.IntKind.u16 0, Go.Value.int Go.IntKind.u16 0, Go.Value.int Go.IntKind.u16 0, Go.Value.int Go.IntKind.u16 0, Go.Value.slice Option.none 0 0, Go.Value.int Go.IntKind.u32 0, Go.Value.int Go.IntKind.u16 0, Go.Value.int Go.IntKind.u16 0, Go.Value.int Go.IntKind.u16 0, Go.Value.int Go.IntKind.u16 0, Go.Value.int Go.IntKind.u16 0, Go.Value.slice Option.none 0 0] 32 true)) := by kernel_rfl
theorem bz32 : opBuild Try.prog 32 [] = some (Go.Value.agg #[Go.Value.int Go.IntKind.u8 0, Go.Value.int Go.IntKind.u8 0, Go.Value.int Go.IntKind.u8 0, Go.Value.int Go.IntKind.u32 0, Go.Value.int Go.IntKind.u32 0, Go.Value.int Go.IntKind.u32 0, Go.Value.int Go.IntKind.u8 0, Go.Value.int Go.IntKind.u8 0, Go.Value.bool Bool.false, Go.Value.int Go.IntKind.u8 0, Go.Value.int Go.IntKind.u16 0, Go.Value.int Go.IntKind.u16 0, Go.Value.int Go.IntKind.u16 0, Go.Value.slice Option.none 0 0, Go.Value.int Go.IntKind.u16 0, Go.Value.int Go.IntKind.u16 0, Go.Value.int Go.IntKind.u16 0, Go.Value.int Go.IntKind.u16 0, Go.Value.slice Option.none 0 0, Go.Value.int Go.IntKind.u32 0, Go.Value.int Go.IntKind.u16 0, Go.Value.int Go.IntKind.u16 0, Go.Value.int Go.IntKind.u16 0, Go.Value.int Go.IntKind.u16 0, Go.Value.int Go.IntKind.u16 0, Go.Value.slice Option.none 0 0]) := by kernel_rfl
theorem fa32_0 (i off : Nat) : opFieldAddr Try.prog 32 (.pointer (some ⟨i, off, none⟩)) 0 = some (.pointer (some ⟨i, off + 0, none⟩)) := by kernel_rfl
theorem fa32_1 (i off : Nat) : opFieldAddr Try.prog 32 (.pointer (some ⟨i, off, none⟩)) 1 = some (.pointer (some ⟨i, off + 1, none⟩)) := by kernel_rfl
theorem fa32_2 (i off : Nat) : opFieldAddr Try.prog 32 (.pointer (some ⟨i, off, none⟩)) 2 = some (.pointer (some ⟨i, off + 2, none⟩)) := by kernel_rfl
theorem fa32_3 (i off : Nat) : opFieldAddr Try.prog 32 (.pointer (some ⟨i, off, none⟩)) 3 = some (.pointer (some ⟨i, off + 3, none⟩)) := by kernel_rfl
theorem fa32_4 (i off : Nat) : opFieldAddr Try.prog 32 (.pointer (some ⟨i, off, none⟩)) 4 = some (.pointer (some ⟨i, off + 4, none⟩)) := by kernel_rfl
theorem fa32_5 (i off : Nat) : opFieldAddr Try.prog 32 (.pointer (some ⟨i, off, none⟩)) 5 = some (.pointer (some ⟨i, off + 5, none⟩)) := by kernel_rfl
theorem fa32_6 (i off : Nat) : opFieldAddr Try.prog 32 (.pointer (some ⟨i, off, none⟩)) 6 = some (.pointer (some ⟨i, off + 6, none⟩)) := by kernel_rfl
theorem fa32_7 (i off : Nat) : opFieldAddr Try.prog 32 (.pointer (some ⟨i, off, none⟩)) 7 = some (.pointer (some ⟨i, off + 7, none⟩)) := by kernel_rfl
theorem fa32_8 (i off : Nat) : opFieldAddr Try.prog 32 (.pointer (some ⟨i, off, none⟩)) 8 = some (.pointer (some ⟨i, off + 8, none⟩)) := by kernel_rfl
theorem fa32_9 (i off : Nat) : opFieldAddr Try.prog 32 (.pointer (some ⟨i, off, none⟩)) 9 = some (.pointer (some ⟨i, off + 9, none⟩)) := by kernel_rfl
theorem fa32_10 (i off : Nat) : opFieldAddr Try.prog 32 (.pointer (some ⟨i, off, none⟩)) 10 = some (.pointer (some ⟨i, off + 15, none⟩)) := by kernel_rfl
theorem fa32_11 (i off : Nat) : opFieldAddr Try.prog 32 (.pointer (some ⟨i, off, none⟩)) 11 = some (.pointer (some ⟨i, off + 19, none⟩)) := by kernel_rfl
theorem fa32_12 (i off : Nat) : opFieldAddr Try.prog 32 (.pointer (some ⟨i, off, none⟩)) 12 = some (.pointer (some ⟨i, off + 20, none⟩)) := by kernel_rfl
theorem fa32_13 (i off : Nat) : opFieldAddr Try.prog 32 (.pointer (some ⟨i, off, none⟩)) 13 = some (.pointer (some ⟨i, off + 21, none⟩)) := by kernel_rfl
theorem fa32_14 (i off : Nat) : opFieldAddr Try.prog 32 (.pointer (some ⟨i, off, none⟩)) 14 = some (.pointer (some ⟨i, off + 22, none⟩)) := by kernel_rfl
theorem fa32_15 (i off : Nat) : opFieldAddr Try.prog 32 (.pointer (some ⟨i, off, none⟩)) 15 = some (.pointer (some ⟨i, off + 23, none⟩)) := by kernel_rfl
theorem al36 (m : Mem) : opAlloc Try.prog 36 m = some (.pointer (some ⟨m.next, 0, none⟩), m.new (.cells [Go.Value.int Go.IntKind.i64 0, Go.Value.int Go.IntKind.i64 0] 36 true)) := by kernel_rfl
theorem bz36 : opBuild Try.prog 36 [] = some (Go.Value.agg #[Go.Value.int Go.IntKind.i64 0, Go.Value.int Go.IntKind.i64 0]) := by kernel_rfl
theorem fa36_0 (i off : Nat) : opFieldAddr Try.prog 36 (.pointer (some ⟨i, off, none⟩)) 0 = some (.pointer (some ⟨i, off + 0, none⟩)) := by kernel_rfl
theorem fa36_1 (i off : Nat) : opFieldAddr Try.prog 36 (.pointer (some ⟨i, off, none⟩)) 1 = some (.pointer (some ⟨i, off + 1, none⟩)) := by kernel_rfl
theorem bz39 : opBuild Try.prog 39 [] = some (Go.Value.agg #[Go.Value.int Go.IntKind.u16 0, Go.Value.int Go.IntKind.u16 0]) := by kernel_rfl
theorem fa39_0 (i off : Nat) : opFieldAddr Try.prog 39 (.pointer (some ⟨i, off, none⟩)) 0 = some (.pointer (some ⟨i, off + 0, none⟩)) := by kernel_rfl
theorem fa39_1 (i off : Nat) : opFieldAddr Try.prog 39 (.pointer (some ⟨i, off, none⟩)) 1 = some (.pointer (some ⟨i, off + 1, none⟩)) := by kernel_rfl
theorem al41 (m : Mem) : opAlloc Try.prog 41 m = some (.pointer (some ⟨m.next, 0, none⟩), m.new (.cells [Go.Value.int Go.IntKind.u16 0, Go.Value.int Go.IntKind.u16 0, Go.Value.int Go.IntKind.i64 0, Go.Value.slice Option.none 0 0] 41 true)) := by kernel_rfl
theorem bz41 : opBuild Try.prog 41 [] = some (Go.Value.agg #[Go.Value.int Go.IntKind.u16 0, Go.Value.int Go.IntKind.u16 0, Go.Value.int Go.IntKind.i64 0, Go.Value.slice Option.none 0 0]) := by kernel_rfl
theorem fa41_0 (i off : Nat) : opFieldAddr Try.prog 41 (.pointer (some ⟨i, off, none⟩)) 0 = some (.pointer (some ⟨i, off + 0, none⟩)) := by kernel_rfl
theorem fa41_1 (i off : Nat) : opFieldAddr Try.prog 41 (.pointer (some ⟨i, off, none⟩)) 1 = some (.pointer (some ⟨i, off + 2, none⟩)) := by kernel_rfl
theorem fa41_2 (i off : Nat) : opFieldAddr Try.prog 41 (.pointer (some ⟨i, off, none⟩)) 2 = some (.pointer (some ⟨i, off + 3, none⟩)) := by kernel_rfl
theorem al44 (m : Mem) : opAlloc Try.prog 44 m = some (.pointer (some ⟨m.next, 0, none⟩), m.new (.cells [Go.Value.int Go.IntKind.u8 0, Go.Value.int Go.IntKind.u16 0, Go.Value.int Go.IntKind.u16 0, Go.Value.int Go.IntKind.i64 0, Go.Value.slice Option.none 0 0, Go.Value.slice Option.none 0 0] 44 true)) := by kernel_rfl
theorem bz44 : opBuild Try.prog 44 [] = some (Go.Value.agg #[Go.Value.int Go.IntKind.u8 0, Go.Value.int Go.IntKind.u16 0, Go.Value.int Go.IntKind.u16 0, Go.Value.int Go.IntKind.i64 0, Go.Value.slice Option.none 0 0, Go.Value.slice Option.none 0 0]) := by kernel_rfl
theorem fa44_0 (i off : Nat) : opFieldAddr Try.prog 44 (.pointer (some ⟨i, off, none⟩)) 0 = some (.pointer (some ⟨i, off + 0, none⟩)) := by kernel_rfl
theorem fa44_1 (i off : Nat) : opFieldAddr Try.prog 44 (.pointer (some ⟨i, off, none⟩)) 1 = some (.pointer (some ⟨i, off + 1, none⟩)) := by kernel_rfl
theorem fa44_2 (i off : Nat) : opFieldAddr Try.prog 44 (.pointer (some ⟨i, off, none⟩)) 2 = some (.pointer (some ⟨i, off + 5, none⟩)) := by kernel_rfl
theorem al46 (m : Mem) : opAlloc Try.prog 46 m = some (.pointer (some ⟨m.next, 0, none⟩), m.new (.cells [Go.Value.int Go.IntKind.i64 0, Go.Value.slice Option.none 0 0] 46 true)) := by kernel_rfl
theorem bz46 : opBuild Try.prog 46 [] = some (Go.Value.agg #[Go.Value.int Go.IntKind.i64 0, Go.Value.slice Option.none 0 0]) := by kernel_rfl
theorem fa46_0 (i off : Nat) : opFieldAddr Try.prog 46 (.pointer (some ⟨i, off, none⟩)) 0 = some (.pointer (some ⟨i, off + 0, none⟩)) := by kernel_rfl
theorem fa46_1 (i off : Nat) : opFieldAddr Try.prog 46 (.pointer (some ⟨i, off, none⟩)) 1 = some (.pointer (some ⟨i, off + 1, none⟩)) := by kernel_rfl
theorem al49 (m : Mem) : opAlloc Try.prog 49 m = some (.pointer (some ⟨m.next, 0, none⟩), m.new (.cells [Go.Value.int Go.IntKind.i64 0, Go.Value.int Go.IntKind.i64 0, Go.Value.slice Option.none 0 0] 49 true)) := by kernel_rfl
theorem bz49 : opBuild Try.prog 49 [] = some (Go.Value.agg #[Go.Value.int Go.IntKind.i64 0, Go.Value.int Go.IntKind.i64 0, Go.Value.slice Option.none 0 0]) := by kernel_rfl
theorem fa49_0 (i off : Nat) : opFieldAddr Try.prog 49 (.pointer (some ⟨i, off, none⟩)) 0 = some (.pointer (some ⟨i, off + 0, none⟩)) := by kernel_rfl
theorem fa49_1 (i off : Nat) : opFieldAddr Try.prog 49 (.pointer (some ⟨i, off, none⟩)) 1 = some (.pointer (some ⟨i, off + 1, none⟩)) := by kernel_rfl
theorem fa49_2 (i off : Nat) : opFieldAddr Try.prog 49 (.pointer (some ⟨i, off, none⟩)) 2 = some (.pointer (some ⟨i, off + 2, none⟩)) := by kernel_rfl
theorem al51 (m : Mem) : opAlloc Try.prog 51 m = some (.pointer (some ⟨m.next, 0, none⟩), m.new (.cells [Go.Value.int Go.IntKind.u8 0, Go.Value.int Go.IntKind.i64 0, Go.Value.int Go.IntKind.i64 0, Go.Value.int Go.IntKind.i64 0, Go.Value.int Go.IntKind.i64 0, Go.Value.int Go.IntKind.i64 0, Go.Value.int Go.IntKind.i64 0, Go.Value.int Go.IntKind.i64 0, Go.Value.bool Bool.false, Go.Value.int Go.IntKind.u8 0, Go.Value.int Go.IntKind.u16 0, Go.Value.int Go.IntKind.u16 0, Go.Value.int Go.IntKind.i64 0, Go.Value.slice Option.none 0 0, Go.Value.slice Option.none 0 0, Go.Value.int Go.IntKind.i64 0, Go.Value.slice Option.none 0 0, Go.Value.int Go.IntKind.u16 0, Go.Value.int Go.IntKind.u16 0, Go.Value.int Go.IntKind.i64 0, Go.Value.slice Option.none 0 0, Go.Value.int Go.IntKind.u16 0, Go.Value.int Go.IntKind.u16 0, Go.Value.int Go.IntKind.i64 0, Go.Value.int Go.IntKind.i64 0, Go.Value.slice Option.none 0 0] 51 true)) := by kernel_rfl
theorem bz51 : opBuild Try.prog 51 [] = some (Go.Value.agg #[Go.Value.int Go.IntKind.u8 0, Go.Value.int Go.IntKind.i64 0, Go.Value.int Go.IntKind.i64 0, Go.Value.int Go.IntKind.i64 0, Go.Value.int Go.IntKind.i64 0, Go.Value.int Go.IntKind.i64 0, Go.Value.int Go.IntKind.i64 0, Go.Value.int Go.IntKind.i64 0, Go.Value.bool Bool.false, Go.Value.int Go.IntKind.u8 0, Go.Value.int Go.IntKind.u16 0, Go.Value.int Go.IntKind.u16 0, Go.Value.int Go.IntKind.i64 0, Go.Value.slice Option.none 0 0, Go.Value.slice Option.none 0 0, Go.Value.int Go.IntKind.i64 0, Go.Value.slice Option.none 0 0, Go.Value.int Go.IntKind.u16 0, Go.Value.int Go.IntKind.u16 0, Go.Value.int Go.IntKind.i64 0, Go.Value.slice Option.none 0 0, Go.Value.int Go.IntKind.u16 0, Go.Value.int Go.IntKind.u16 0, Go.Value.int Go.IntKind.i64 0, Go.Value.int Go.IntKind.i64 0, Go.Value.slice Option.none 0 0]) := by kernel_rfl
theorem fa51_0 (i off : Nat) : opFieldAddr Try.prog 51 (.pointer (some ⟨i, off, none⟩)) 0 = some (.pointer (some ⟨i, off + 0, none⟩)) := by kernel_rfl
theorem fa51_1 (i off : Nat) : opFieldAddr Try.prog 51 (.pointer (some ⟨i, off, none⟩)) 1 = some (.pointer (some ⟨i, off + 1, none⟩)) := by kernel_rfl
theorem fa51_2 (i off : Nat) : opFieldAddr Try.prog 51 (.pointer (some ⟨i, off, none⟩)) 2 = some (.pointer (some ⟨i, off + 2, none⟩)) := by kernel_rfl
theorem fa51_3 (i off : Nat) : opFieldAddr Try.prog 51 (.pointer (some ⟨i, off, none⟩)) 3 = some (.pointer (some ⟨i, off + 3, none⟩)) := by kernel_rfl
theorem fa51_4 (i off : Nat) : opFieldAddr Try.prog 51 (.pointer (some ⟨i, off, none⟩)) 4 = some (.pointer (some ⟨i, off + 4, none⟩)) := by kernel_rfl
theorem fa51_5 (i off : Nat) : opFieldAddr Try.prog 51 (.pointer (some ⟨i, off, none⟩)) 5 = some (.pointer (some ⟨i, off + 6, none⟩)) := by kernel_rfl
theorem fa51_6 (i off : Nat) : opFieldAddr Try.prog 51 (.pointer (some ⟨i, off, none⟩)) 6 = some (.pointer (some ⟨i, off + 8, none⟩)) := by kernel_rfl
theorem fa51_7 (i off : Nat) : opFieldAddr Try.prog 51 (.pointer (some ⟨i, off, none⟩)) 7 = some (.pointer (some ⟨i, off + 9, none⟩)) := by kernel_rfl
theorem fa51_8 (i off : Nat) : opFieldAddr Try.prog 51 (.pointer (some ⟨i, off, none⟩)) 8 = some (.pointer (some ⟨i, off + 15, none⟩)) := by kernel_rfl
theorem fa51_9 (i off : Nat) : opFieldAddr Try.prog 51 (.pointer (some ⟨i, off, none⟩)) 9 = some (.pointer (some ⟨i, off + 17, none⟩)) := by kernel_rfl
theorem fa51_10 (i off : Nat) : opFieldAddr Try.prog 51 (.pointer (some ⟨i, off, none⟩)) 10 = some (.pointer (some ⟨i, off + 21, none⟩)) := by kernel_rfl
theorem fa51_11 (i off : Nat) : opFieldAddr Try.prog 51 (.pointer (some ⟨i, off, none⟩)) 11 = some (.pointer (some ⟨i, off + 23, none⟩)) := by kernel_rfl
theorem al68 (m : Mem) : opAlloc Try.prog 68 m = some (.pointer (some ⟨m.next, 0, none⟩), m.new (.cells [Go.Value.slice Option.none 0 0] 68 true)) := by kernel_rfl
theorem bz68 : opBuild Try.prog 68 [] = some (Go.Value.agg #[Go.Value.slice Option.none 0 0]) := by kernel_rfl
theorem fa68_0 (i off : Nat) : opFieldAddr Try.prog 68 (.pointer (some ⟨i, off, none⟩)) 0 = some (.pointer (some ⟨i, off + 0, none⟩)) := by kernel_rfl
theorem al90 (m : Mem) : opAlloc Try.prog 90 m = some (.pointer (some ⟨m.next, 0, none⟩), m.new (.cells [Go.Value.nilFunc] 90 true)) := by kernel_rfl
theorem al92 (m : Mem) : opAlloc Try.prog 92 m = some (.pointer (some ⟨m.next, 0, none⟩), m.new (.cells [Go.Value.nilFunc] 92 true)) := by kernel_rfl
theorem al94 (m : Mem) : opAlloc Try.prog 94 m = some (.pointer (some ⟨m.next, 0, none⟩), m.new (.cells [Go.Value.nilFunc] 94 true)) := by kernel_rfl
theorem al103 (m : Mem) : opAlloc Try.prog 103 m = some (.pointer (some ⟨m.next, 0, none⟩), m.new (.cells [Go.Value.slice Option.none 0 0, Go.Value.int Go.IntKind.i64 0, Go.Value.int Go.IntKind.i64 0] 103 true)) := by kernel_rfl
theorem bz103 : opBuild Try.prog 103 [] = some (Go.Value.agg #[Go.Value.slice Option.none 0 0, Go.Value.int Go.IntKind.i64 0, Go.Value.int Go.IntKind.i64 0]) := by kernel_rfl
theorem fa103_0 (i off : Nat) : opFieldAddr Try.prog 103 (.pointer (some ⟨i, off, none⟩)) 0 = some (.pointer (some ⟨i, off + 0, none⟩)) := by kernel_rfl
theorem fa103_1 (i off : Nat) : opFieldAddr Try.prog 103 (.pointer (some ⟨i, off, none⟩)) 1 = some (.pointer (some ⟨i, off + 1, none⟩)) := by kernel_rfl
theorem fa103_2 (i off : Nat) : opFieldAddr Try.prog 103 (.pointer (some ⟨i, off, none⟩)) 2 = some (.pointer (some ⟨i, off + 2, none⟩)) := by kernel_rfl
theorem fr0 : Try.f0.results.toList = [] := rfl
theorem fr1 : Try.f1.results.toList = [] := rfl
theorem fr3 : Try.f3.results.toList = [Go.ResultVar.tmp 2] := rfl
theorem fr4 : Try.f4.results.toList = [Go.ResultVar.tmp 10] := rfl
theorem fr5 : Try.f5.results.toList = [Go.ResultVar.tmp 6] := rfl
theorem fr6 : Try.f6.results.toList = [Go.ResultVar.tmp 6] := rfl
theorem fr7 : Try.f7.results.toList = [Go.ResultVar.tmp 0] := rfl
theorem fr8 : Try.f8.results.toList = [Go.ResultVar.tmp 2] := rfl
theorem fr9 : Try.f9.results.toList = [Go.ResultVar.cell 2 51] := rfl
theorem fr10 : Try.f10.results.toList = [Go.ResultVar.tmp 2, Go.ResultVar.tmp 3] := rfl
theorem fr11 : Try.f11.results.toList = [Go.ResultVar.cell 2 51] := rfl
theorem fr12 : Try.f12.results.toList = [Go.ResultVar.cell 2 51, Go.ResultVar.tmp 3] := rfl
theorem fr13 : Try.f13.results.toList = [Go.ResultVar.tmp 2] := rfl
theorem fr14 : Try.f14.results.toList = [Go.ResultVar.tmp 2] := rfl
theorem fr15 : Try.f15.results.toList = [Go.ResultVar.tmp 4] := rfl
theorem fr16 : Try.f16.results.toList = [Go.ResultVar.cell 2 51] := rfl
theorem fr17 : Try.f17.results.toList = [Go.ResultVar.tmp 3] := rfl
theorem fr18 : Try.f18.results.toList = [] := rfl
theorem fr19 : Try.f19.results.toList = [] := rfl
theorem fr20 : Try.f20.results.toList = [] := rfl
theorem fr21 : Try.f21.results.toList = [] := rfl
theorem fr22 : Try.f22.results.toList = [] := rfl
theorem fr23 : Try.f23.results.toList = [] := rfl
theorem fr24 : Try.f24.results.toList = [Go.ResultVar.tmp 2] := rfl
theorem fr25 : Try.f25.results.toList = [Go.ResultVar.cell 2 44] := rfl
theorem fr26 : Try.f26.results.toList = [Go.ResultVar.tmp 2] := rfl
theorem fr27 : Try.f27.results.toList = [Go.ResultVar.cell 2 41] := rfl
theorem fr28 : Try.f28.results.toList = [Go.ResultVar.cell 2 49] := rfl
theorem fr29 : Try.f29.results.toList = [Go.ResultVar.tmp 2] := rfl
theorem fr30 : Try.f30.results.toList = [Go.ResultVar.tmp 4] := rfl
theorem fr31 : Try.f31.results.toList = [Go.ResultVar.tmp 2] := rfl
theorem fr32 : Try.f32.results.toList = [Go.ResultVar.cell 2 36] := rfl
theorem fr33 : Try.f33.results.toList = [Go.ResultVar.cell 2 44] := rfl
theorem fr34 : Try.f34.results.toList = [Go.ResultVar.cell 2 41] := rfl
theorem fr35 : Try.f35.results.toList = [Go.ResultVar.tmp 2] := rfl
theorem fr36 : Try.f36.results.toList = [Go.ResultVar.cell 2 49] := rfl
theorem fr37 : Try.f37.results.toList = [Go.ResultVar.tmp 2] := rfl
theorem fr38 : Try.f38.results.toList = [Go.ResultVar.tmp 2] := rfl
theorem fr39 : Try.f39.results.toList = [Go.ResultVar.tmp 2] := rfl
theorem fr40 : Try.f40.results.toList = [Go.ResultVar.tmp 2] := rfl
theorem fr41 : Try.f41.results.toList = [Go.ResultVar.tmp 2] := rfl
theorem fr42 : Try.f42.results.toList = [Go.ResultVar.tmp 2] := rfl
theorem fr43 : Try.f43.results.toList = [] := rfl
theorem fr44 : Try.f44.results.toList = [Go.ResultVar.tmp 2] := rfl
theorem fr45 : Try.f45.results.toList = [] := rfl
theorem fr46 : Try.f46.results.toList = [Go.ResultVar.tmp 2] := rfl
theorem fr47 : Try.f47.results.toList = [] := rfl
theorem fr48 : Try.f48.results.toList = [] := rfl
theorem fr49 : Try.f49.results.toList = [Go.ResultVar.tmp 2] := rfl
theorem fr50 : Try.f50.results.toList = [Go.ResultVar.tmp 2] := rfl
theorem fr51 : Try.f51.results.toList = [Go.ResultVar.tmp 4] := rfl
theorem fr52 : Try.f52.results.toList = [Go.ResultVar.tmp 4] := rfl
theorem fr53 : Try.f53.results.toList = [Go.ResultVar.tmp 4] := rfl
theorem fr54 : Try.f54.results.toList = [Go.ResultVar.tmp 4] := rfl
theorem fr55 : Try.f55.results.toList = [] := rfl
theorem fr56 : Try.f56.results.toList = [] := rfl
theorem fr57 : Try.f57.results.toList = [Go.ResultVar.tmp 2] := rfl
theorem fr58 : Try.f58.results.toList = [Go.ResultVar.tmp 4] := rfl
theorem fr59 : Try.f59.results.toList = [Go.ResultVar.tmp 2] := rfl
theorem fr60 : Try.f60.results.toList = [Go.ResultVar.tmp 2] := rfl
theorem fr61 : Try.f61.results.toList = [Go.ResultVar.tmp 4] := rfl
end Go.Proofs.Ytejgoooanapjbaa
