/- Facts of the program's types and functions. -/
import Derived.Test.YtgecmpgpinihhaaAmSimps
import Derived.Test.YtgecmpgpinihhaaProg
import Derived.KernelRfl
set_option linter.unusedSimpArgs false
set_option linter.unusedVariables false
namespace Go.Proofs.Ytgecmpgpinihhaa
open Go Go.AM
theorem ts3 : tsize Try.prog 3 = some 1 := by kernel_rfl
theorem tb3 : tbytes Try.prog 3 = some 8 := by kernel_rfl
theorem tz3 : tzero Try.prog 3 = Option.some (Go.Value.int Go.IntKind.i64 0) := by kernel_rfl
theorem ts4 : tsize Try.prog 4 = some 1 := by kernel_rfl
theorem tb4 : tbytes Try.prog 4 = some 1 := by kernel_rfl
theorem tz4 : tzero Try.prog 4 = Option.some (Go.Value.bool Bool.false) := by kernel_rfl
theorem ts5 : tsize Try.prog 5 = some 1 := by kernel_rfl
theorem tb5 : tbytes Try.prog 5 = some 1 := by kernel_rfl
theorem tz5 : tzero Try.prog 5 = Option.some (Go.Value.int Go.IntKind.u8 0) := by kernel_rfl
theorem ts9 : tsize Try.prog 9 = some 1 := by kernel_rfl
theorem tb9 : tbytes Try.prog 9 = some 16 := by kernel_rfl
theorem tz9 : tzero Try.prog 9 = Option.some (Go.Value.string { data := #[] }) := by kernel_rfl
theorem ts22 : tsize Try.prog 22 = some 1 := by kernel_rfl
theorem tb22 : tbytes Try.prog 22 = some 2 := by kernel_rfl
theorem tz22 : tzero Try.prog 22 = Option.some (Go.Value.int Go.IntKind.u16 0) := by kernel_rfl
theorem ts23 : tsize Try.prog 23 = some 1 := by kernel_rfl
theorem tb23 : tbytes Try.prog 23 = some 24 := by kernel_rfl
theorem tz23 : tzero Try.prog 23 = Option.some (Go.Value.slice Option.none 0 0) := by kernel_rfl
theorem ts24 : tsize Try.prog 24 = some 1 := by kernel_rfl
theorem tb24 : tbytes Try.prog 24 = some 24 := by kernel_rfl
theorem tz24 : tzero Try.prog 24 = Option.some (Go.Value.slice Option.none 0 0) := by kernel_rfl
theorem ts26 : tsize Try.prog 26 = some 4 := by kernel_rfl
theorem tb26 : tbytes Try.prog 26 = some 32 := by kernel_rfl
theorem tz26 : tzero Try.prog 26 = Option.some
      (Go.Value.agg
        #[Go.Value.int Go.IntKind.u16 0, Go.Value.int Go.IntKind.u16 0, Go.Value.int Go.IntKind.u16 0,
          Go.Value.slice Option.none 0 0]) := by kernel_rfl
theorem ts28 : tsize Try.prog 28 = some 6 := by kernel_rfl
theorem tb28 : tbytes Try.prog 28 = some 48 := by kernel_rfl
theorem tz28 : tzero Try.prog 28 = Option.some
      (Go.Value.agg
        #[Go.Value.int Go.IntKind.u8 0, Go.Value.int Go.IntKind.u16 0, Go.Value.int Go.IntKind.u16 0,
          Go.Value.int Go.IntKind.u16 0, Go.Value.slice Option.none 0 0, Go.Value.int Go.IntKind.u16 0]) := by kernel_rfl
theorem ts30 : tsize Try.prog 30 = some 1 := by kernel_rfl
theorem tb30 : tbytes Try.prog 30 = some 24 := by kernel_rfl
theorem tz30 : tzero Try.prog 30 = Option.some (Go.Value.slice Option.none 0 0) := by kernel_rfl
theorem ts33 : tsize Try.prog 33 = some 2 := by kernel_rfl
theorem tb33 : tbytes Try.prog 33 = some 32 := by kernel_rfl
theorem tz33 : tzero Try.prog 33 = Option.some (Go.Value.agg #[Go.Value.int Go.IntKind.i64 0, Go.Value.slice Option.none 0 0]) := by kernel_rfl
theorem ts34 : tsize Try.prog 34 = some 1 := by kernel_rfl
theorem tb34 : tbytes Try.prog 34 = some 8 := by kernel_rfl
theorem tz34 : tzero Try.prog 34 = Option.some (Go.Value.pointer Option.none) := by kernel_rfl
theorem ts37 : tsize Try.prog 37 = some 2 := by kernel_rfl
theorem tb37 : tbytes Try.prog 37 = some 16 := by kernel_rfl
theorem tz37 : tzero Try.prog 37 = Option.some (Go.Value.agg #[Go.Value.int Go.IntKind.i64 0, Go.Value.int Go.IntKind.i64 0]) := by kernel_rfl
theorem ts39 : tsize Try.prog 39 = some 1 := by kernel_rfl
theorem tb39 : tbytes Try.prog 39 = some 1 := by kernel_rfl
theorem tz39 : tzero Try.prog 39 = Option.some (Go.Value.int Go.IntKind.u8 0) := by kernel_rfl
theorem ts41 : tsize Try.prog 41 = some 2 := by kernel_rfl
theorem tb41 : tbytes Try.prog 41 = some 4 := by kernel_rfl
theorem tz41 : tzero Try.prog 41 = Option.some (Go.Value.agg #[Go.Value.int Go.IntKind.u16 0, Go.Value.int Go.IntKind.u16 0]) := by kernel_rfl
theorem ts43 : tsize Try.prog 43 = some 4 := by kernel_rfl
theorem tb43 : tbytes Try.prog 43 = some 40 := by kernel_rfl
theorem tz43 : tzero Try.prog 43 = Option.some
      (Go.Value.agg
        #[Go.Value.int Go.IntKind.u16 0, Go.Value.int Go.IntKind.u16 0, Go.Value.int Go.IntKind.i64 0,
          Go.Value.slice Option.none 0 0]) := by kernel_rfl
theorem ts45 : tsize Try.prog 45 = some 6 := by kernel_rfl
theorem tb45 : tbytes Try.prog 45 = some 72 := by kernel_rfl
theorem tz45 : tzero Try.prog 45 = Option.some
      (Go.Value.agg
        #[Go.Value.int Go.IntKind.u8 0, Go.Value.int Go.IntKind.u16 0, Go.Value.int Go.IntKind.u16 0,
          Go.Value.int Go.IntKind.i64 0, Go.Value.slice Option.none 0 0, Go.Value.slice Option.none 0 0]) := by kernel_rfl
theorem ts49 : tsize Try.prog 49 = some 11 := by kernel_rfl
theorem tb49 : tbytes Try.prog 49 = some 56 := by kernel_rfl
theorem tz49 : tzero Try.prog 49 = Option.some
      (Go.Value.agg
        #[Go.Value.int Go.IntKind.u8 0, Go.Value.int Go.IntKind.u8 0, Go.Value.int Go.IntKind.u8 0,
          Go.Value.int Go.IntKind.u8 0, Go.Value.bool Bool.false, Go.Value.int Go.IntKind.u8 0,
          Go.Value.int Go.IntKind.u16 0, Go.Value.int Go.IntKind.u16 0, Go.Value.int Go.IntKind.u16 0,
          Go.Value.slice Option.none 0 0, Go.Value.int Go.IntKind.u16 0]) := by kernel_rfl
theorem ts51 : tsize Try.prog 51 = some 1 := by kernel_rfl
theorem tb51 : tbytes Try.prog 51 = some 0 := by kernel_rfl
theorem tz51 : tzero Try.prog 51 = Option.some
      (Go.Value.tuple
        #[Go.Value.agg
            #[Go.Value.int Go.IntKind.u8 0, Go.Value.int Go.IntKind.u16 0, Go.Value.int Go.IntKind.u16 0,
              Go.Value.int Go.IntKind.i64 0, Go.Value.slice Option.none 0 0, Go.Value.slice Option.none 0 0],
          Go.Value.bool Bool.false]) := by kernel_rfl
theorem ts55 : tsize Try.prog 55 = some 36 := by kernel_rfl
theorem tb55 : tbytes Try.prog 55 = some 288 := by kernel_rfl
theorem tz55 : tzero Try.prog 55 = Option.some
      (Go.Value.agg
        #[Go.Value.int Go.IntKind.u8 0, Go.Value.int Go.IntKind.u16 0, Go.Value.int Go.IntKind.u16 0,
          Go.Value.int Go.IntKind.u16 0, Go.Value.slice Option.none 0 0, Go.Value.int Go.IntKind.u16 0,
          Go.Value.int Go.IntKind.u8 0, Go.Value.int Go.IntKind.u16 0, Go.Value.int Go.IntKind.u16 0,
          Go.Value.int Go.IntKind.u16 0, Go.Value.slice Option.none 0 0, Go.Value.int Go.IntKind.u16 0,
          Go.Value.int Go.IntKind.u8 0, Go.Value.int Go.IntKind.u16 0, Go.Value.int Go.IntKind.u16 0,
          Go.Value.int Go.IntKind.u16 0, Go.Value.slice Option.none 0 0, Go.Value.int Go.IntKind.u16 0,
          Go.Value.int Go.IntKind.u8 0, Go.Value.int Go.IntKind.u16 0, Go.Value.int Go.IntKind.u16 0,
          Go.Value.int Go.IntKind.u16 0, Go.Value.slice Option.none 0 0, Go.Value.int Go.IntKind.u16 0,
          Go.Value.int Go.IntKind.u8 0, Go.Value.int Go.IntKind.u16 0, Go.Value.int Go.IntKind.u16 0,
          Go.Value.int Go.IntKind.u16 0, Go.Value.slice Option.none 0 0, Go.Value.int Go.IntKind.u16 0,
          Go.Value.int Go.IntKind.u8 0, Go.Value.int Go.IntKind.u16 0, Go.Value.int Go.IntKind.u16 0,
          Go.Value.int Go.IntKind.u16 0, Go.Value.slice Option.none 0 0, Go.Value.int Go.IntKind.u16 0]) := by kernel_rfl
theorem ts56 : tsize Try.prog 56 = some 1 := by kernel_rfl
theorem tb56 : tbytes Try.prog 56 = some 24 := by kernel_rfl
theorem tz56 : tzero Try.prog 56 = Option.some (Go.Value.slice Option.none 0 0) := by kernel_rfl
theorem ts57 : tsize Try.prog 57 = some 1 := by kernel_rfl
theorem tb57 : tbytes Try.prog 57 = some 8 := by kernel_rfl
theorem tz57 : tzero Try.prog 57 = Option.some (Go.Value.pointer Option.none) := by kernel_rfl
theorem ts58 : tsize Try.prog 58 = some 6 := by kernel_rfl
theorem tb58 : tbytes Try.prog 58 = some 48 := by kernel_rfl
theorem tz58 : tzero Try.prog 58 = Option.some
      (Go.Value.agg
        #[Go.Value.pointer Option.none, Go.Value.pointer Option.none, Go.Value.pointer Option.none,
          Go.Value.pointer Option.none, Go.Value.pointer Option.none, Go.Value.pointer Option.none]) := by kernel_rfl
theorem ts59 : tsize Try.prog 59 = some 6 := by kernel_rfl
theorem tb59 : tbytes Try.prog 59 = some 48 := by kernel_rfl
theorem tz59 : tzero Try.prog 59 = Option.some
      (Go.Value.agg
        #[Go.Value.pointer Option.none, Go.Value.pointer Option.none, Go.Value.pointer Option.none,
          Go.Value.pointer Option.none, Go.Value.pointer Option.none, Go.Value.pointer Option.none]) := by kernel_rfl
theorem ts61 : tsize Try.prog 61 = some 11 := by kernel_rfl
theorem tb61 : tbytes Try.prog 61 = some 112 := by kernel_rfl
theorem tz61 : tzero Try.prog 61 = Option.some
      (Go.Value.agg
        #[Go.Value.int Go.IntKind.i64 0, Go.Value.int Go.IntKind.i64 0, Go.Value.bool Bool.false,
          Go.Value.int Go.IntKind.i64 0, Go.Value.int Go.IntKind.i64 0, Go.Value.int Go.IntKind.u8 0,
          Go.Value.int Go.IntKind.u16 0, Go.Value.int Go.IntKind.u16 0, Go.Value.int Go.IntKind.i64 0,
          Go.Value.slice Option.none 0 0, Go.Value.slice Option.none 0 0]) := by kernel_rfl
theorem ts62 : tsize Try.prog 62 = some 1 := by kernel_rfl
theorem tb62 : tbytes Try.prog 62 = some 24 := by kernel_rfl
theorem tz62 : tzero Try.prog 62 = Option.some (Go.Value.slice Option.none 0 0) := by kernel_rfl
theorem ts64 : tsize Try.prog 64 = some 4 := by kernel_rfl
theorem tb64 : tbytes Try.prog 64 = some 4 := by kernel_rfl
theorem tz64 : tzero Try.prog 64 = Option.some
      (Go.Value.agg
        #[Go.Value.int Go.IntKind.u8 0, Go.Value.int Go.IntKind.u8 0, Go.Value.bool Bool.false,
          Go.Value.bool Bool.false]) := by kernel_rfl
theorem ts68 : tsize Try.prog 68 = some 14 := by kernel_rfl
theorem tb68 : tbytes Try.prog 68 = some 136 := by kernel_rfl
theorem tz68 : tzero Try.prog 68 = Option.some
      (Go.Value.agg
        #[Go.Value.int Go.IntKind.i64 0, Go.Value.int Go.IntKind.i64 0, Go.Value.int Go.IntKind.i64 0,
          Go.Value.int Go.IntKind.i64 0, Go.Value.int Go.IntKind.i64 0, Go.Value.int Go.IntKind.i64 0,
          Go.Value.int Go.IntKind.i64 0, Go.Value.bool Bool.false, Go.Value.int Go.IntKind.u8 0,
          Go.Value.int Go.IntKind.u16 0, Go.Value.int Go.IntKind.u16 0, Go.Value.int Go.IntKind.i64 0,
          Go.Value.slice Option.none 0 0, Go.Value.slice Option.none 0 0]) := by kernel_rfl
theorem ts69 : tsize Try.prog 69 = some 1 := by kernel_rfl
theorem tb69 : tbytes Try.prog 69 = some 0 := by kernel_rfl
theorem tz69 : tzero Try.prog 69 = Option.some
      (Go.Value.tuple
        #[Go.Value.agg #[Go.Value.int Go.IntKind.i64 0, Go.Value.int Go.IntKind.i64 0],
          Go.Value.agg
            #[Go.Value.int Go.IntKind.u8 0, Go.Value.int Go.IntKind.u16 0, Go.Value.int Go.IntKind.u16 0,
              Go.Value.int Go.IntKind.i64 0, Go.Value.slice Option.none 0 0, Go.Value.slice Option.none 0 0],
          Go.Value.bool Bool.false, Go.Value.bool Bool.false]) := by kernel_rfl
theorem ts73 : tsize Try.prog 73 = some 1 := by kernel_rfl
theorem tb73 : tbytes Try.prog 73 = some 1 := by kernel_rfl
theorem tz73 : tzero Try.prog 73 = Option.some (Go.Value.int Go.IntKind.u8 0) := by kernel_rfl
theorem ts76 : tsize Try.prog 76 = some 27 := by kernel_rfl
theorem tb76 : tbytes Try.prog 76 = some 320 := by kernel_rfl
theorem tz76 : tzero Try.prog 76 = Option.some
      (Go.Value.agg
        #[Go.Value.int Go.IntKind.i64 0, Go.Value.slice Option.none 0 0, Go.Value.int Go.IntKind.u8 0,
          Go.Value.int Go.IntKind.i64 0, Go.Value.int Go.IntKind.i64 0, Go.Value.int Go.IntKind.u8 0,
          Go.Value.int Go.IntKind.u16 0, Go.Value.int Go.IntKind.u16 0, Go.Value.int Go.IntKind.i64 0,
          Go.Value.slice Option.none 0 0, Go.Value.slice Option.none 0 0, Go.Value.int Go.IntKind.i64 0,
          Go.Value.int Go.IntKind.i64 0, Go.Value.int Go.IntKind.u8 0, Go.Value.int Go.IntKind.u16 0,
          Go.Value.int Go.IntKind.u16 0, Go.Value.int Go.IntKind.i64 0, Go.Value.slice Option.none 0 0,
          Go.Value.slice Option.none 0 0, Go.Value.bool Bool.false, Go.Value.slice Option.none 0 0,
          Go.Value.int Go.IntKind.u8 0, Go.Value.int Go.IntKind.u16 0, Go.Value.int Go.IntKind.u16 0,
          Go.Value.int Go.IntKind.i64 0, Go.Value.slice Option.none 0 0, Go.Value.slice Option.none 0 0]) := by kernel_rfl
theorem ts78 : tsize Try.prog 78 = some 1 := by kernel_rfl
theorem tb78 : tbytes Try.prog 78 = some 8 := by kernel_rfl
theorem tz78 : tzero Try.prog 78 = Option.some Go.Value.nilFunc := by kernel_rfl
theorem ts103 : tsize Try.prog 103 = some 1 := by kernel_rfl
theorem tb103 : tbytes Try.prog 103 = some 8 := by kernel_rfl
theorem tz103 : tzero Try.prog 103 = Option.some (Go.Value.int Go.IntKind.i64 0) := by kernel_rfl
theorem bz26 : opBuild Try.prog 26 [] = some (Go.Value.agg #[Go.Value.int Go.IntKind.u16 0, Go.Value.int Go.IntKind.u16 0, Go.Value.int Go.IntKind.u16 0, Go.Value.slice Option.none 0 0]) := by kernel_rfl
theorem fa26_0 (i off : Nat) : opFieldAddr Try.prog 26 (.pointer (some ⟨i, off, none⟩)) 0 = some (.pointer (some ⟨i, off + 0, none⟩)) := by kernel_rfl
theorem fa26_1 (i off : Nat) : opFieldAddr Try.prog 26 (.pointer (some ⟨i, off, none⟩)) 1 = some (.pointer (some ⟨i, off + 1, none⟩)) := by kernel_rfl
theorem fa26_2 (i off : Nat) : opFieldAddr Try.prog 26 (.pointer (some ⟨i, off, none⟩)) 2 = some (.pointer (some ⟨i, off + 2, none⟩)) := by kernel_rfl
theorem fa26_3 (i off : Nat) : opFieldAddr Try.prog 26 (.pointer (some ⟨i, off, none⟩)) 3 = some (.pointer (some ⟨i, off + 3, none⟩)) := by kernel_rfl
theorem al28 (m : Mem) : opAlloc Try.prog 28 m = some (.pointer (some ⟨m.next, 0, none⟩), m.new (.cells [Go.Value.int Go.IntKind.u8 0, Go.Value.int Go.IntKind.u16 0, Go.Value.int Go.IntKind.u16 0, Go.Value.int Go.IntKind.u16 0, Go.Value.slice Option.none 0 0, Go.Value.int Go.IntKind.u16 0] 28 true)) := by kernel_rfl
theorem bz28 : opBuild Try.prog 28 [] = some (Go.Value.agg #[Go.Value.int Go.IntKind.u8 0, Go.Value.int Go.IntKind.u16 0, Go.Value.int Go.IntKind.u16 0, Go.Value.int Go.IntKind.u16 0, Go.Value.slice Option.none 0 0, Go.Value.int Go.IntKind.u16 0]) := by kernel_rfl
theorem fa28_0 (i off : Nat) : opFieldAddr Try.prog 28 (.pointer (some ⟨i, off, none⟩)) 0 = some (.pointer (some ⟨i, off + 0, none⟩)) := by kernel_rfl
theorem fa28_1 (i off : Nat) : opFieldAddr Try.prog 28 (.pointer (some ⟨i, off, none⟩)) 1 = some (.pointer (some ⟨i, off + 1, none⟩)) := by kernel_rfl
theorem fa28_2 (i off : Nat) : opFieldAddr Try.prog 28 (.pointer (some ⟨i, off, none⟩)) 2 = some (.pointer (some ⟨i, off + 5, none⟩)) := by kernel_rfl
theorem al33 (m : Mem) : opAlloc Try.prog 33 m = some (.pointer (some ⟨m.next, 0, none⟩), m.new (.cells [Go.Value.int Go.IntKind.i64 0, Go.Value.slice Option.none 0 0] 33 true)) := by kernel_rfl
theorem bz33 : opBuild Try.prog 33 [] = some (Go.Value.agg #[Go.Value.int Go.IntKind.i64 0, Go.Value.slice Option.none 0 0]) := by kernel_rfl
theorem fa33_0 (i off : Nat) : opFieldAddr Try.prog 33 (.pointer (some ⟨i, off, none⟩)) 0 = some (.pointer (some ⟨i, off + 0, none⟩)) := by kernel_rfl
theorem fa33_1 (i off : Nat) : opFieldAddr Try.prog 33 (.pointer (some ⟨i, off, none⟩)) 1 = some (.pointer (some ⟨i, off + 1, none⟩)) := by kernel_rfl
theorem al37 (m : Mem) : opAlloc Try.prog 37 m = some (.pointer (some ⟨m.next, 0, none⟩), m.new (.cells [Go.Value.int Go.IntKind.i64 0, Go.Value.int Go.IntKind.i64 0] 37 true)) := by kernel_rfl
theorem bz37 : opBuild Try.prog 37 [] = some (Go.Value.agg #[Go.Value.int Go.IntKind.i64 0, Go.Value.int Go.IntKind.i64 0]) := by kernel_rfl
theorem fa37_0 (i off : Nat) : opFieldAddr Try.prog 37 (.pointer (some ⟨i, off, none⟩)) 0 = some (.pointer (some ⟨i, off + 0, none⟩)) := by kernel_rfl
theorem fa37_1 (i off : Nat) : opFieldAddr Try.prog 37 (.pointer (some ⟨i, off, none⟩)) 1 = some (.pointer (some ⟨i, off + 1, none⟩)) := by kernel_rfl
theorem al43 (m : Mem) : opAlloc Try.prog 43 m = some (.pointer (some ⟨m.next, 0, none⟩), m.new (.cells [Go.Value.int Go.IntKind.u16 0, Go.Value.int Go.IntKind.u16 0, Go.Value.int Go.IntKind.i64 0, Go.Value.slice Option.none 0 0] 43 true)) := by kernel_rfl
theorem bz43 : opBuild Try.prog 43 [] = some (Go.Value.agg #[Go.Value.int Go.IntKind.u16 0, Go.Value.int Go.IntKind.u16 0, Go.Value.int Go.IntKind.i64 0, Go.Value.slice Option.none 0 0]) := by kernel_rfl
theorem fa43_0 (i off : Nat) : opFieldAddr Try.prog 43 (.pointer (some ⟨i, off, none⟩)) 0 = some (.pointer (some ⟨i, off + 0, none⟩)) := by kernel_rfl
theorem fa43_1 (i off : Nat) : opFieldAddr Try.prog 43 (.pointer (some ⟨i, off, none⟩)) 1 = some (.pointer (some ⟨i, off + 2, none⟩)) := by kernel_rfl
theorem fa43_2 (i off : Nat) : opFieldAddr Try.prog 43 (.pointer (some ⟨i, off, none⟩)) 2 = some (.pointer (some ⟨i, off + 3, none⟩)) := by kernel_rfl
theorem al45 (m : Mem) : opAlloc Try.prog 45 m = some (.pointer (some ⟨m.next, 0, none⟩), m.new (.cells [Go.Value.int Go.IntKind.u8 0, Go.Value.int Go.IntKind.u16 0, Go.Value.int Go.IntKind.u16 0, Go.Value.int Go.IntKind.i64 0, Go.Value.slice Option.none 0 0, Go.Value.slice Option.none 0 0] 45 true)) := by kernel_rfl
theorem bz45 : opBuild Try.prog 45 [] = some (Go.Value.agg #[Go.Value.int Go.IntKind.u8 0, Go.Value.int Go.IntKind.u16 0, Go.Value.int Go.IntKind.u16 0, Go.Value.int Go.IntKind.i64 0, Go.Value.slice Option.none 0 0, Go.Value.slice Option.none 0 0]) := by kernel_rfl
theorem fa45_0 (i off : Nat) : opFieldAddr Try.prog 45 (.pointer (some ⟨i, off, none⟩)) 0 = some (.pointer (some ⟨i, off + 0, none⟩)) := by kernel_rfl
theorem fa45_1 (i off : Nat) : opFieldAddr Try.prog 45 (.pointer (some ⟨i, off, none⟩)) 1 = some (.pointer (some ⟨i, off + 1, none⟩)) := by kernel_rfl
theorem fa45_2 (i off : Nat) : opFieldAddr Try.prog 45 (.pointer (some ⟨i, off, none⟩)) 2 = some (.pointer (some ⟨i, off + 5, none⟩)) := by kernel_rfl
theorem al49 (m : Mem) : opAlloc Try.prog 49 m = some (.pointer (some ⟨m.next, 0, none⟩), m.new (.cells [Go.Value.int Go.IntKind.u8 0, Go.Value.int Go.IntKind.u8 0, Go.Value.int Go.IntKind.u8 0, Go.Value.int Go.IntKind.u8 0, Go.Value.bool Bool.false, Go.Value.int Go.IntKind.u8 0, Go.Value.int Go.IntKind.u16 0, Go.Value.int Go.IntKind.u16 0, Go.Value.int Go.IntKind.u16 0, Go.Value.slice Option.none 0 0, Go.Value.int Go.IntKind.u16 0] 49 true)) := by kernel_rfl
theorem fa49_0 (i off : Nat) : opFieldAddr Try.prog 49 (.pointer (some ⟨i, off, none⟩)) 0 = some (.pointer (some ⟨i, off + 0, none⟩)) := by kernel_rfl
theorem fa49_1 (i off : Nat) : opFieldAddr Try.prog 49 (.pointer (some ⟨i, off, none⟩)) 1 = some (.pointer (some ⟨i, off + 1, none⟩)) := by kernel_rfl
theorem fa49_2 (i off : Nat) : opFieldAddr Try.prog 49 (.pointer (some ⟨i, off, none⟩)) 2 = some (.pointer (some ⟨i, off + 2, none⟩)) := by kernel_rfl
theorem fa49_3 (i off : Nat) : opFieldAddr Try.prog 49 (.pointer (some ⟨i, off, none⟩)) 3 = some (.pointer (some ⟨i, off + 3, none⟩)) := by kernel_rfl
theorem fa49_4 (i off : Nat) : opFieldAddr Try.prog 49 (.pointer (some ⟨i, off, none⟩)) 4 = some (.pointer (some ⟨i, off + 4, none⟩)) := by kernel_rfl
theorem fa49_5 (i off : Nat) : opFieldAddr Try.prog 49 (.pointer (some ⟨i, off, none⟩)) 5 = some (.pointer (some ⟨i, off + 5, none⟩)) := by kernel_rfl
theorem al58 (m : Mem) : opAlloc Try.prog 58 m = some (.pointer (some ⟨m.next, 0, none⟩), m.new (.cells [Go.Value.pointer Option.none, Go.Value.pointer Option.none, Go.Value.pointer Option.none, Go.Value.pointer Option.none, Go.Value.pointer Option.none, Go.Value.pointer Option.none] 58 true)) := by kernel_rfl
theorem al59 (m : Mem) : opAlloc Try.prog 59 m = some (.pointer (some ⟨m.next, 0, none⟩), m.new (.cells [Go.Value.pointer Option.none, Go.Value.pointer Option.none, Go.Value.pointer Option.none, Go.Value.pointer Option.none, Go.Value.pointer Option.none, Go.Value.pointer Option.none] 59 true)) := by kernel_rfl
theorem al61 (m : Mem) : opAlloc Try.prog 61 m = some (.pointer (some ⟨m.next, 0, none⟩), m.new (.cells [Go.Value.int Go.IntKind.i64 0, Go.Value.int Go.IntKind.i64 0, Go.Value.bool Bool.false, Go.Value.int Go.IntKind.i64 0, Go.Value.int Go.IntKind.i64 0, Go.Value.int Go.IntKind.u8 0, Go.Value.int Go.IntKind.u16 0, Go.Value.int Go.IntKind.u16 0, Go.Value.int Go.IntKind.i64 0, Go.Value.slice Option.none 0 0, Go.Value.slice Option.none 0 0] 61 true)) := by kernel_rfl
theorem bz61 : opBuild Try.prog 61 [] = some (Go.Value.agg #[Go.Value.int Go.IntKind.i64 0, Go.Value.int Go.IntKind.i64 0, Go.Value.bool Bool.false, Go.Value.int Go.IntKind.i64 0, Go.Value.int Go.IntKind.i64 0, Go.Value.int Go.IntKind.u8 0, Go.Value.int Go.IntKind.u16 0, Go.Value.int Go.IntKind.u16 0, Go.Value.int Go.IntKind.i64 0, Go.Value.slice Option.none 0 0, Go.Value.slice Option.none 0 0]) := by kernel_rfl
theorem fa61_0 (i off : Nat) : opFieldAddr Try.prog 61 (.pointer (some ⟨i, off, none⟩)) 0 = some (.pointer (some ⟨i, off + 0, none⟩)) := by kernel_rfl
theorem fa61_1 (i off : Nat) : opFieldAddr Try.prog 61 (.pointer (some ⟨i, off, none⟩)) 1 = some (.pointer (some ⟨i, off + 2, none⟩)) := by kernel_rfl
theorem fa61_2 (i off : Nat) : opFieldAddr Try.prog 61 (.pointer (some ⟨i, off, none⟩)) 2 = some (.pointer (some ⟨i, off + 3, none⟩)) := by kernel_rfl
theorem fa61_3 (i off : Nat) : opFieldAddr Try.prog 61 (.pointer (some ⟨i, off, none⟩)) 3 = some (.pointer (some ⟨i, off + 5, none⟩)) := by kernel_rfl
theorem al64 (m : Mem) : opAlloc Try.prog 64 m = some (.pointer (some ⟨m.next, 0, none⟩), m.new (.cells [Go.Value.int Go.IntKind.u8 0, Go.Value.int Go.IntKind.u8 0, Go.Value.bool Bool.false, Go.Value.bool Bool.false] 64 true)) := by kernel_rfl
theorem fa64_0 (i off : Nat) : opFieldAddr Try.prog 64 (.pointer (some ⟨i, off, none⟩)) 0 = some (.pointer (some ⟨i, off + 0, none⟩)) := by kernel_rfl
theorem fa64_1 (i off : Nat) : opFieldAddr Try.prog 64 (.pointer (some ⟨i, off, none⟩)) 1 = some (.pointer (some ⟨i, off + 1, none⟩)) := by kernel_rfl
theorem fa64_2 (i off : Nat) : opFieldAddr Try.prog 64 (.pointer (some ⟨i, off, none⟩)) 2 = some (.pointer (some ⟨i, off + 2, none⟩)) := by kernel_rfl
theorem fa64_3 (i off : Nat) : opFieldAddr Try.prog 64 (.pointer (some ⟨i, off, none⟩)) 3 = some (.pointer (some ⟨i, off + 3, none⟩)) := by kernel_rfl
theorem al68 (m : Mem) : opAlloc Try.prog 68 m = some (.pointer (some ⟨m.next, 0, none⟩), m.new (.cells [Go.Value.int Go.IntKind.i64 0, Go.Value.int Go.IntKind.i64 0, Go.Value.int Go.IntKind.i64 0, Go.Value.int Go.IntKind.i64 0, Go.Value.int Go.IntKind.i64 0, Go.Value.int Go.IntKind.i64 0, Go.Value.int Go.IntKind.i64 0, Go.Value.bool Bool.false, Go.Value.int Go.IntKind.u8 0, Go.Value.int Go.IntKind.u16 0, Go.Value.int Go.IntKind.u16 0, Go.Value.int Go.IntKind.i64 0, Go.Value.slice Option.none 0 0, Go.Value.slice Option.none 0 0] 68 true)) := by kernel_rfl
theorem fa68_0 (i off : Nat) : opFieldAddr Try.prog 68 (.pointer (some ⟨i, off, none⟩)) 0 = some (.pointer (some ⟨i, off + 0, none⟩)) := by kernel_rfl
theorem fa68_1 (i off : Nat) : opFieldAddr Try.prog 68 (.pointer (some ⟨i, off, none⟩)) 1 = some (.pointer (some ⟨i, off + 1, none⟩)) := by kernel_rfl
theorem fa68_2 (i off : Nat) : opFieldAddr Try.prog 68 (.pointer (some ⟨i, off, none⟩)) 2 = some (.pointer (some ⟨i, off + 2, none⟩)) := by kernel_rfl
theorem fa68_3 (i off : Nat) : opFieldAddr Try.prog 68 (.pointer (some ⟨i, off, none⟩)) 3 = some (.pointer (some ⟨i, off + 3, none⟩)) := by kernel_rfl
theorem fa68_4 (i off : Nat) : opFieldAddr Try.prog 68 (.pointer (some ⟨i, off, none⟩)) 4 = some (.pointer (some ⟨i, off + 5, none⟩)) := by kernel_rfl
theorem fa68_5 (i off : Nat) : opFieldAddr Try.prog 68 (.pointer (some ⟨i, off, none⟩)) 5 = some (.pointer (some ⟨i, off + 7, none⟩)) := by kernel_rfl
theorem fa68_6 (i off : Nat) : opFieldAddr Try.prog 68 (.pointer (some ⟨i, off, none⟩)) 6 = some (.pointer (some ⟨i, off + 8, none⟩)) := by kernel_rfl
theorem bz76 : opBuild Try.prog 76 [] = some (Go.Value.agg #[Go.Value.int Go.IntKind.i64 0, Go.Value.slice Option.none 0 0, Go.Value.int Go.IntKind.u8 0, Go.Value.int Go.IntKind.i64 0, Go.Value.int Go.IntKind.i64 0, Go.Value.int Go.IntKind.u8 0, Go.Value.int Go.IntKind.u16 0, Go.Value.int Go.IntKind.u16 0, Go.Value.int Go.IntKind.i64 0, Go.Value.slice Option.none 0 0, Go.Value.slice Option.none 0 0, Go.Value.int Go.IntKind.i64 0, Go.Value.int Go.IntKind.i64 0, Go.Value.int Go.IntKind.u8 0, Go.Value.int Go.IntKind.u16 0, Go.Value.int Go.IntKind.u16 0, Go.Value.int Go.IntKind.i64 0, Go.Value.slice Option.none 0 0, Go.Value.slice Option.none 0 0, Go.Value.bool Bool.false, Go.Value.slice Option.none 0 0, Go.Value.int Go.IntKind.u8 0, Go.Value.int Go.IntKind.u16 0, Go.Value.int Go.IntKind.u16 0, Go.Value.int Go.IntKind.i64 0, Go.Value.slice Option.none 0 0, Go.Value.slice Option.none 0 0]) := by kernel_rfl
theorem fa76_0 (i off : Nat) : opFieldAddr Try.prog 76 (.pointer (some ⟨i, off, none⟩)) 0 = some (.pointer (some ⟨i, off + 0, none⟩)) := by kernel_rfl
theorem fa76_1 (i off : Nat) : opFieldAddr Try.prog 76 (.pointer (some ⟨i, off, none⟩)) 1 = some (.pointer (some ⟨i, off + 2, none⟩)) := by kernel_rfl
theorem fa76_2 (i off : Nat) : opFieldAddr Try.prog 76 (.pointer (some ⟨i, off, none⟩)) 2 = some (.pointer (some ⟨i, off + 3, none⟩)) := by kernel_rfl
theorem fa76_3 (i off : Nat) : opFieldAddr Try.prog 76 (.pointer (some ⟨i, off, none⟩)) 3 = some (.pointer (some ⟨i, off + 5, none⟩)) := by kernel_rfl
theorem fa76_4 (i off : Nat) : opFieldAddr Try.prog 76 (.pointer (some ⟨i, off, none⟩)) 4 = some (.pointer (some ⟨i, off + 11, none⟩)) := by kernel_rfl
theorem fa76_5 (i off : Nat) : opFieldAddr Try.prog 76 (.pointer (some ⟨i, off, none⟩)) 5 = some (.pointer (some ⟨i, off + 13, none⟩)) := by kernel_rfl
theorem fa76_6 (i off : Nat) : opFieldAddr Try.prog 76 (.pointer (some ⟨i, off, none⟩)) 6 = some (.pointer (some ⟨i, off + 19, none⟩)) := by kernel_rfl
theorem fa76_7 (i off : Nat) : opFieldAddr Try.prog 76 (.pointer (some ⟨i, off, none⟩)) 7 = some (.pointer (some ⟨i, off + 20, none⟩)) := by kernel_rfl
theorem fa76_8 (i off : Nat) : opFieldAddr Try.prog 76 (.pointer (some ⟨i, off, none⟩)) 8 = some (.pointer (some ⟨i, off + 21, none⟩)) := by kernel_rfl
theorem fr0 : Try.f0.results.toList = [] := rfl
theorem fr2 : Try.f2.results.toList = [] := rfl
theorem fr3 : Try.f3.results.toList = [Go.ResultVar.tmp 6] := rfl
theorem fr4 : Try.f4.results.toList = [Go.ResultVar.tmp 6] := rfl
theorem fr5 : Try.f5.results.toList = [Go.ResultVar.tmp 0] := rfl
theorem fr6 : Try.f6.results.toList = [Go.ResultVar.tmp 2] := rfl
theorem fr7 : Try.f7.results.toList = [Go.ResultVar.tmp 2] := rfl
theorem fr8 : Try.f8.results.toList = [] := rfl
theorem fr9 : Try.f9.results.toList = [Go.ResultVar.cell 2 45] := rfl
theorem fr10 : Try.f10.results.toList = [Go.ResultVar.tmp 12] := rfl
theorem fr11 : Try.f11.results.toList = [Go.ResultVar.tmp 6] := rfl
theorem fr12 : Try.f12.results.toList = [Go.ResultVar.cell 2 45, Go.ResultVar.tmp 3] := rfl
theorem fr13 : Try.f13.results.toList = [Go.ResultVar.tmp 4] := rfl
theorem fr14 : Try.f14.results.toList = [Go.ResultVar.cell 2 37] := rfl
theorem fr15 : Try.f15.results.toList = [Go.ResultVar.tmp 4] := rfl
theorem fr16 : Try.f16.results.toList = [Go.ResultVar.cell 2 37] := rfl
theorem fr17 : Try.f17.results.toList = [Go.ResultVar.cell 4 37, Go.ResultVar.cell 5 45, Go.ResultVar.tmp 6, Go.ResultVar.tmp 7] := rfl
theorem fr18 : Try.f18.results.toList = [Go.ResultVar.tmp 6] := rfl
theorem fr19 : Try.f19.results.toList = [Go.ResultVar.tmp 2] := rfl
theorem fr20 : Try.f20.results.toList = [Go.ResultVar.cell 2 43] := rfl
theorem fr21 : Try.f21.results.toList = [Go.ResultVar.tmp 4] := rfl
theorem fr22 : Try.f22.results.toList = [Go.ResultVar.tmp 4] := rfl
theorem fr23 : Try.f23.results.toList = [Go.ResultVar.tmp 4] := rfl
theorem fr24 : Try.f24.results.toList = [Go.ResultVar.tmp 4] := rfl
theorem fr25 : Try.f25.results.toList = [Go.ResultVar.tmp 4] := rfl
theorem fr26 : Try.f26.results.toList = [Go.ResultVar.tmp 4] := rfl
theorem fr27 : Try.f27.results.toList = [Go.ResultVar.tmp 4] := rfl
end Go.Proofs.Ytgecmpgpinihhaa
