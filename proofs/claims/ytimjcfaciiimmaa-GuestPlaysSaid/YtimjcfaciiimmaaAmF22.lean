/- Facts of the program's types and functions. -/
import Derived.Test.YtimjcfaciiimmaaAmSimps
import Derived.Test.YtimjcfaciiimmaaProg
import Derived.KernelRfl
set_option linter.unusedSimpArgs false
set_option linter.unusedVariables false
namespace Go.Proofs.Ytimjcfaciiimmaa
open Go Go.AM
theorem tb2 : tbytes Try.prog 2 = some 8 := by kernel_rfl
theorem ts3 : tsize Try.prog 3 = some 1 := by kernel_rfl
theorem tb3 : tbytes Try.prog 3 = some 8 := by kernel_rfl
theorem tz3 : tzero Try.prog 3 = Option.some (Go.Value.int Go.IntKind.i64 0) := by kernel_rfl
theorem ts4 : tsize Try.prog 4 = some 1 := by kernel_rfl
theorem tb4 : tbytes Try.prog 4 = some 1 := by kernel_rfl
theorem tz4 : tzero Try.prog 4 = Option.some (Go.Value.bool Bool.false) := by kernel_rfl
theorem ts5 : tsize Try.prog 5 = some 1 := by kernel_rfl
theorem tb5 : tbytes Try.prog 5 = some 1 := by kernel_rfl
theorem tz5 : tzero Try.prog 5 = Option.some (Go.Value.int Go.IntKind.u8 0) := by kernel_rfl
theorem tb8 : tbytes Try.prog 8 = some 24 := by kernel_rfl
theorem ts9 : tsize Try.prog 9 = some 1 := by kernel_rfl
theorem tb9 : tbytes Try.prog 9 = some 16 := by kernel_rfl
theorem tz9 : tzero Try.prog 9 = Option.some (Go.Value.string { data := #[] }) := by kernel_rfl
theorem ts22 : tsize Try.prog 22 = some 1 := by kernel_rfl
theorem tb22 : tbytes Try.prog 22 = some 2 := by kernel_rfl
theorem tz22 : tzero Try.prog 22 = Option.some (Go.Value.int Go.IntKind.u16 0) := by kernel_rfl
theorem ts23 : tsize Try.prog 23 = some 1 := by kernel_rfl
theorem tb23 : tbytes Try.prog 23 = some 24 := by kernel_rfl
theorem tz23 : tzero Try.prog 23 = Option.some (Go.Value.slice Option.none 0 0) := by kernel_rfl
theorem ts25 : tsize Try.prog 25 = some 1 := by kernel_rfl
theorem tb25 : tbytes Try.prog 25 = some 24 := by kernel_rfl
theorem tz25 : tzero Try.prog 25 = Option.some (Go.Value.slice Option.none 0 0) := by kernel_rfl
theorem ts26 : tsize Try.prog 26 = some 1 := by kernel_rfl
theorem tb26 : tbytes Try.prog 26 = some 8 := by kernel_rfl
theorem tz26 : tzero Try.prog 26 = Option.some (Go.Value.pointer Option.none) := by kernel_rfl
theorem ts30 : tsize Try.prog 30 = some 1 := by kernel_rfl
theorem tb30 : tbytes Try.prog 30 = some 24 := by kernel_rfl
theorem tz30 : tzero Try.prog 30 = Option.some (Go.Value.slice Option.none 0 0) := by kernel_rfl
theorem ts32 : tsize Try.prog 32 = some 6 := by kernel_rfl
theorem tb32 : tbytes Try.prog 32 = some 104 := by kernel_rfl
theorem tz32 : tzero Try.prog 32 = Option.some
      (Go.Value.agg
        #[Go.Value.string { data := #[] }, Go.Value.int Go.IntKind.i64 0, Go.Value.int Go.IntKind.i64 0,
          Go.Value.slice Option.none 0 0, Go.Value.slice Option.none 0 0, Go.Value.slice Option.none 0 0]) := by kernel_rfl
theorem ts34 : tsize Try.prog 34 = some 1 := by kernel_rfl
theorem tb34 : tbytes Try.prog 34 = some 24 := by kernel_rfl
theorem tz34 : tzero Try.prog 34 = Option.some (Go.Value.slice Option.none 0 0) := by kernel_rfl
theorem ts35 : tsize Try.prog 35 = some 1 := by kernel_rfl
theorem tb35 : tbytes Try.prog 35 = some 8 := by kernel_rfl
theorem tz35 : tzero Try.prog 35 = Option.some (Go.Value.int Go.IntKind.i64 0) := by kernel_rfl
theorem ts39 : tsize Try.prog 39 = some 3 := by kernel_rfl
theorem tb39 : tbytes Try.prog 39 = some 40 := by kernel_rfl
theorem tz39 : tzero Try.prog 39 = Option.some
      (Go.Value.agg #[Go.Value.int Go.IntKind.i64 0, Go.Value.int Go.IntKind.i64 0, Go.Value.slice Option.none 0 0]) := by kernel_rfl
theorem ts40 : tsize Try.prog 40 = some 1 := by kernel_rfl
theorem tb40 : tbytes Try.prog 40 = some 0 := by kernel_rfl
theorem tz40 : tzero Try.prog 40 = Option.some
      (Go.Value.tuple
        #[Go.Value.agg #[Go.Value.int Go.IntKind.i64 0, Go.Value.int Go.IntKind.i64 0, Go.Value.slice Option.none 0 0],
          Go.Value.bool Bool.false]) := by kernel_rfl
theorem ts45 : tsize Try.prog 45 = some 1 := by kernel_rfl
theorem tb45 : tbytes Try.prog 45 = some 24 := by kernel_rfl
theorem tz45 : tzero Try.prog 45 = Option.some (Go.Value.slice Option.none 0 0) := by kernel_rfl
theorem ts49 : tsize Try.prog 49 = some 3 := by kernel_rfl
theorem tb49 : tbytes Try.prog 49 = some 32 := by kernel_rfl
theorem tz49 : tzero Try.prog 49 = Option.some
      (Go.Value.agg #[Go.Value.int Go.IntKind.u16 0, Go.Value.int Go.IntKind.u16 0, Go.Value.slice Option.none 0 0]) := by kernel_rfl
theorem ts52 : tsize Try.prog 52 = some 2 := by kernel_rfl
theorem tb52 : tbytes Try.prog 52 = some 32 := by kernel_rfl
theorem tz52 : tzero Try.prog 52 = Option.some (Go.Value.agg #[Go.Value.int Go.IntKind.i64 0, Go.Value.slice Option.none 0 0]) := by kernel_rfl
theorem ts54 : tsize Try.prog 54 = some 1 := by kernel_rfl
theorem tb54 : tbytes Try.prog 54 = some 1 := by kernel_rfl
theorem tz54 : tzero Try.prog 54 = Option.some (Go.Value.int Go.IntKind.u8 0) := by kernel_rfl
theorem ts56 : tsize Try.prog 56 = some 2 := by kernel_rfl
theorem tb56 : tbytes Try.prog 56 = some 4 := by kernel_rfl
theorem tz56 : tzero Try.prog 56 = Option.some (Go.Value.agg #[Go.Value.int Go.IntKind.u16 0, Go.Value.int Go.IntKind.u16 0]) := by kernel_rfl
theorem ts59 : tsize Try.prog 59 = some 2 := by kernel_rfl
theorem tb59 : tbytes Try.prog 59 = some 16 := by kernel_rfl
theorem tz59 : tzero Try.prog 59 = Option.some (Go.Value.agg #[Go.Value.int Go.IntKind.i64 0, Go.Value.int Go.IntKind.i64 0]) := by kernel_rfl
theorem ts60 : tsize Try.prog 60 = some 1 := by kernel_rfl
theorem tb60 : tbytes Try.prog 60 = some 1 := by kernel_rfl
theorem tz60 : tzero Try.prog 60 = Option.some (Go.Value.int Go.IntKind.u8 0) := by kernel_rfl
theorem ts62 : tsize Try.prog 62 = some 4 := by kernel_rfl
theorem tb62 : tbytes Try.prog 62 = some 40 := by kernel_rfl
theorem tz62 : tzero Try.prog 62 = Option.some
      (Go.Value.agg
        #[Go.Value.int Go.IntKind.u16 0, Go.Value.int Go.IntKind.u16 0, Go.Value.int Go.IntKind.i64 0,
          Go.Value.slice Option.none 0 0]) := by kernel_rfl
theorem ts64 : tsize Try.prog 64 = some 6 := by kernel_rfl
theorem tb64 : tbytes Try.prog 64 = some 72 := by kernel_rfl
theorem tz64 : tzero Try.prog 64 = Option.some
      (Go.Value.agg
        #[Go.Value.int Go.IntKind.u8 0, Go.Value.int Go.IntKind.u16 0, Go.Value.int Go.IntKind.u16 0,
          Go.Value.int Go.IntKind.i64 0, Go.Value.slice Option.none 0 0, Go.Value.slice Option.none 0 0]) := by kernel_rfl
theorem ts66 : tsize Try.prog 66 = some 26 := by kernel_rfl
theorem tb66 : tbytes Try.prog 66 = some 264 := by kernel_rfl
theorem tz66 : tzero Try.prog 66 = Option.some
      (Go.Value.agg
        #[Go.Value.int Go.IntKind.u8 0, Go.Value.int Go.IntKind.i64 0, Go.Value.int Go.IntKind.i64 0,
          Go.Value.int Go.IntKind.i64 0, Go.Value.int Go.IntKind.i64 0, Go.Value.int Go.IntKind.i64 0,
          Go.Value.int Go.IntKind.i64 0, Go.Value.int Go.IntKind.i64 0, Go.Value.bool Bool.false,
          Go.Value.int Go.IntKind.u8 0, Go.Value.int Go.IntKind.u16 0, Go.Value.int Go.IntKind.u16 0,
          Go.Value.int Go.IntKind.i64 0, Go.Value.slice Option.none 0 0, Go.Value.slice Option.none 0 0,
          Go.Value.int Go.IntKind.i64 0, Go.Value.slice Option.none 0 0, Go.Value.int Go.IntKind.u16 0,
          Go.Value.int Go.IntKind.u16 0, Go.Value.int Go.IntKind.i64 0, Go.Value.slice Option.none 0 0,
          Go.Value.int Go.IntKind.u16 0, Go.Value.int Go.IntKind.u16 0, Go.Value.int Go.IntKind.i64 0,
          Go.Value.int Go.IntKind.i64 0, Go.Value.slice Option.none 0 0]) := by kernel_rfl
theorem ts69 : tsize Try.prog 69 = some 1 := by kernel_rfl
theorem tb69 : tbytes Try.prog 69 = some 24 := by kernel_rfl
theorem tz69 : tzero Try.prog 69 = Option.some (Go.Value.slice Option.none 0 0) := by kernel_rfl
theorem ts70 : tsize Try.prog 70 = some 1 := by kernel_rfl
theorem tb70 : tbytes Try.prog 70 = some 8 := by kernel_rfl
theorem tz70 : tzero Try.prog 70 = Option.some (Go.Value.map Option.none) := by kernel_rfl
theorem ts71 : tsize Try.prog 71 = some 1 := by kernel_rfl
theorem tb71 : tbytes Try.prog 71 = some 8 := by kernel_rfl
theorem tz71 : tzero Try.prog 71 = Option.some (Go.Value.map Option.none) := by kernel_rfl
theorem ts72 : tsize Try.prog 72 = some 1 := by kernel_rfl
theorem tb72 : tbytes Try.prog 72 = some 8 := by kernel_rfl
theorem tz72 : tzero Try.prog 72 = Option.some (Go.Value.map Option.none) := by kernel_rfl
theorem ts74 : tsize Try.prog 74 = some 8 := by kernel_rfl
theorem tb74 : tbytes Try.prog 74 = some 40 := by kernel_rfl
theorem tz74 : tzero Try.prog 74 = Option.some
      (Go.Value.agg
        #[Go.Value.int Go.IntKind.u8 0, Go.Value.int Go.IntKind.u8 0, Go.Value.int Go.IntKind.u8 0,
          Go.Value.int Go.IntKind.u8 0, Go.Value.int Go.IntKind.u16 0, Go.Value.int Go.IntKind.u16 0,
          Go.Value.int Go.IntKind.u16 0, Go.Value.slice Option.none 0 0]) := by kernel_rfl
theorem ts75 : tsize Try.prog 75 = some 1 := by kernel_rfl
theorem tb75 : tbytes Try.prog 75 = some 8 := by kernel_rfl
theorem tz75 : tzero Try.prog 75 = Option.some (Go.Value.pointer Option.none) := by kernel_rfl
theorem ts77 : tsize Try.prog 77 = some 1 := by kernel_rfl
theorem tb77 : tbytes Try.prog 77 = some 1 := by kernel_rfl
theorem tz77 : tzero Try.prog 77 = Option.some (Go.Value.int Go.IntKind.u8 0) := by kernel_rfl
theorem ts83 : tsize Try.prog 83 = some 1 := by kernel_rfl
theorem tb83 : tbytes Try.prog 83 = some 8 := by kernel_rfl
theorem tz83 : tzero Try.prog 83 = Option.some (Go.Value.map Option.none) := by kernel_rfl
theorem ts85 : tsize Try.prog 85 = some 12 := by kernel_rfl
theorem tb85 : tbytes Try.prog 85 = some 184 := by kernel_rfl
theorem tz85 : tzero Try.prog 85 = Option.some
      (Go.Value.agg
        #[Go.Value.int Go.IntKind.i64 0, Go.Value.int Go.IntKind.u16 0, Go.Value.string { data := #[] },
          Go.Value.int Go.IntKind.i64 0, Go.Value.int Go.IntKind.i64 0, Go.Value.slice Option.none 0 0,
          Go.Value.slice Option.none 0 0, Go.Value.slice Option.none 0 0, Go.Value.slice Option.none 0 0,
          Go.Value.map Option.none, Go.Value.map Option.none, Go.Value.slice Option.none 0 0]) := by kernel_rfl
theorem ts92 : tsize Try.prog 92 = some 12 := by kernel_rfl
theorem tb92 : tbytes Try.prog 92 = some 168 := by kernel_rfl
theorem tz92 : tzero Try.prog 92 = Option.some
      (Go.Value.agg
        #[Go.Value.string { data := #[] }, Go.Value.int Go.IntKind.i64 0, Go.Value.int Go.IntKind.u8 0,
          Go.Value.int Go.IntKind.i64 0, Go.Value.slice Option.none 0 0, Go.Value.slice Option.none 0 0,
          Go.Value.int Go.IntKind.u8 0, Go.Value.int Go.IntKind.i64 0, Go.Value.slice Option.none 0 0,
          Go.Value.slice Option.none 0 0, Go.Value.int Go.IntKind.u8 0, Go.Value.int Go.IntKind.i64 0]) := by kernel_rfl
theorem ts93 : tsize Try.prog 93 = some 1 := by kernel_rfl
theorem tb93 : tbytes Try.prog 93 = some 8 := by kernel_rfl
theorem tz93 : tzero Try.prog 93 = Option.some (Go.Value.pointer Option.none) := by kernel_rfl
theorem ts94 : tsize Try.prog 94 = some 1 := by kernel_rfl
theorem tb94 : tbytes Try.prog 94 = some 0 := by kernel_rfl
theorem tz94 : tzero Try.prog 94 = Option.some
      (Go.Value.tuple
        #[Go.Value.agg
            #[Go.Value.string { data := #[] }, Go.Value.int Go.IntKind.i64 0, Go.Value.int Go.IntKind.u8 0,
              Go.Value.int Go.IntKind.i64 0, Go.Value.slice Option.none 0 0, Go.Value.slice Option.none 0 0,
              Go.Value.int Go.IntKind.u8 0, Go.Value.int Go.IntKind.i64 0, Go.Value.slice Option.none 0 0,
              Go.Value.slice Option.none 0 0, Go.Value.int Go.IntKind.u8 0, Go.Value.int Go.IntKind.i64 0],
          Go.Value.bool Bool.false]) := by kernel_rfl
theorem ts98 : tsize Try.prog 98 = some 6 := by kernel_rfl
theorem tb98 : tbytes Try.prog 98 = some 56 := by kernel_rfl
theorem tz98 : tzero Try.prog 98 = Option.some
      (Go.Value.agg
        #[Go.Value.int Go.IntKind.u16 0, Go.Value.int Go.IntKind.u16 0, Go.Value.int Go.IntKind.i64 0,
          Go.Value.slice Option.none 0 0, Go.Value.pointer Option.none, Go.Value.int Go.IntKind.i64 0]) := by kernel_rfl
theorem ts101 : tsize Try.prog 101 = some 1 := by kernel_rfl
theorem tb101 : tbytes Try.prog 101 = some 24 := by kernel_rfl
theorem tz101 : tzero Try.prog 101 = Option.some (Go.Value.slice Option.none 0 0) := by kernel_rfl
theorem ts103 : tsize Try.prog 103 = some 5 := by kernel_rfl
theorem tb103 : tbytes Try.prog 103 = some 88 := by kernel_rfl
theorem tz103 : tzero Try.prog 103 = Option.some
      (Go.Value.agg
        #[Go.Value.int Go.IntKind.u8 0, Go.Value.int Go.IntKind.i64 0, Go.Value.slice Option.none 0 0,
          Go.Value.slice Option.none 0 0, Go.Value.slice Option.none 0 0]) := by kernel_rfl
theorem ts107 : tsize Try.prog 107 = some 1 := by kernel_rfl
theorem tb107 : tbytes Try.prog 107 = some 8 := by kernel_rfl
theorem tz107 : tzero Try.prog 107 = Option.some Go.Value.nilFunc := by kernel_rfl
theorem ts113 : tsize Try.prog 113 = some 3 := by kernel_rfl
theorem tb113 : tbytes Try.prog 113 = some 24 := by kernel_rfl
theorem tz113 : tzero Try.prog 113 = Option.some
      (Go.Value.agg #[Go.Value.int Go.IntKind.i64 0, Go.Value.int Go.IntKind.i64 0, Go.Value.int Go.IntKind.i64 0]) := by kernel_rfl
theorem al32 (m : Mem) : opAlloc Try.prog 32 m = some (.pointer (some ⟨m.next, 0, none⟩), m.new (.cells [Go.Value.string { data := #[] }, Go.Value.int Go.IntKind.i64 0, Go.Value.int Go.IntKind.i64 0, Go.Value.slice Option.none 0 0, Go.Value.slice Option.none 0 0, Go.Value.slice Option.none 0 0] 32 true)) := by kernel_rfl
theorem bz32 : opBuild Try.prog 32 [] = some (Go.Value.agg #[Go.Value.string { data := #[] }, Go.Value.int Go.IntKind.i64 0, Go.Value.int Go.IntKind.i64 0, Go.Value.slice Option.none 0 0, Go.Value.slice Option.none 0 0, Go.Value.slice Option.none 0 0]) := by kernel_rfl
theorem fa32_0 (i off : Nat) : opFieldAddr Try.prog 32 (.pointer (some ⟨i, off, none⟩)) 0 = some (.pointer (some ⟨i, off + 0, none⟩)) := by kernel_rfl
theorem fa32_5 (i off : Nat) : opFieldAddr Try.prog 32 (.pointer (some ⟨i, off, none⟩)) 5 = some (.pointer (some ⟨i, off + 5, none⟩)) := by kernel_rfl
theorem al39 (m : Mem) : opAlloc Try.prog 39 m = some (.pointer (some ⟨m.next, 0, none⟩), m.new (.cells [Go.Value.int Go.IntKind.i64 0, Go.Value.int Go.IntKind.i64 0, Go.Value.slice Option.none 0 0] 39 true)) := by kernel_rfl
theorem bz39 : opBuild Try.prog 39 [] = some (Go.Value.agg #[Go.Value.int Go.IntKind.i64 0, Go.Value.int Go.IntKind.i64 0, Go.Value.slice Option.none 0 0]) := by kernel_rfl
theorem fa39_0 (i off : Nat) : opFieldAddr Try.prog 39 (.pointer (some ⟨i, off, none⟩)) 0 = some (.pointer (some ⟨i, off + 0, none⟩)) := by kernel_rfl
theorem fa39_1 (i off : Nat) : opFieldAddr Try.prog 39 (.pointer (some ⟨i, off, none⟩)) 1 = some (.pointer (some ⟨i, off + 1, none⟩)) := by kernel_rfl
theorem fa39_2 (i off : Nat) : opFieldAddr Try.prog 39 (.pointer (some ⟨i, off, none⟩)) 2 = some (.pointer (some ⟨i, off + 2, none⟩)) := by kernel_rfl
theorem fa49_0 (i off : Nat) : opFieldAddr Try.prog 49 (.pointer (some ⟨i, off, none⟩)) 0 = some (.pointer (some ⟨i, off + 0, none⟩)) := by kernel_rfl
theorem fa49_1 (i off : Nat) : opFieldAddr Try.prog 49 (.pointer (some ⟨i, off, none⟩)) 1 = some (.pointer (some ⟨i, off + 1, none⟩)) := by kernel_rfl
theorem fa49_2 (i off : Nat) : opFieldAddr Try.prog 49 (.pointer (some ⟨i, off, none⟩)) 2 = some (.pointer (some ⟨i, off + 2, none⟩)) := by kernel_rfl
theorem al52 (m : Mem) : opAlloc Try.prog 52 m = some (.pointer (some ⟨m.next, 0, none⟩), m.new (.cells [Go.Value.int Go.IntKind.i64 0, Go.Value.slice Option.none 0 0] 52 true)) := by kernel_rfl
theorem bz52 : opBuild Try.prog 52 [] = some (Go.Value.agg #[Go.Value.int Go.IntKind.i64 0, Go.Value.slice Option.none 0 0]) := by kernel_rfl
theorem fa52_0 (i off : Nat) : opFieldAddr Try.prog 52 (.pointer (some ⟨i, off, none⟩)) 0 = some (.pointer (some ⟨i, off + 0, none⟩)) := by kernel_rfl
theorem fa52_1 (i off : Nat) : opFieldAddr Try.prog 52 (.pointer (some ⟨i, off, none⟩)) 1 = some (.pointer (some ⟨i, off + 1, none⟩)) := by kernel_rfl
theorem fa56_0 (i off : Nat) : opFieldAddr Try.prog 56 (.pointer (some ⟨i, off, none⟩)) 0 = some (.pointer (some ⟨i, off + 0, none⟩)) := by kernel_rfl
theorem fa56_1 (i off : Nat) : opFieldAddr Try.prog 56 (.pointer (some ⟨i, off, none⟩)) 1 = some (.pointer (some ⟨i, off + 1, none⟩)) := by kernel_rfl
theorem fa59_0 (i off : Nat) : opFieldAddr Try.prog 59 (.pointer (some ⟨i, off, none⟩)) 0 = some (.pointer (some ⟨i, off + 0, none⟩)) := by kernel_rfl
theorem fa59_1 (i off : Nat) : opFieldAddr Try.prog 59 (.pointer (some ⟨i, off, none⟩)) 1 = some (.pointer (some ⟨i, off + 1, none⟩)) := by kernel_rfl
theorem al62 (m : Mem) : opAlloc Try.prog 62 m = some (.pointer (some ⟨m.next, 0, none⟩), m.new (.cells [Go.Value.int Go.IntKind.u16 0, Go.Value.int Go.IntKind.u16 0, Go.Value.int Go.IntKind.i64 0, Go.Value.slice Option.none 0 0] 62 true)) := by kernel_rfl
theorem bz62 : opBuild Try.prog 62 [] = some (Go.Value.agg #[Go.Value.int Go.IntKind.u16 0, Go.Value.int Go.IntKind.u16 0, Go.Value.int Go.IntKind.i64 0, Go.Value.slice Option.none 0 0]) := by kernel_rfl
theorem fa62_0 (i off : Nat) : opFieldAddr Try.prog 62 (.pointer (some ⟨i, off, none⟩)) 0 = some (.pointer (some ⟨i, off + 0, none⟩)) := by kernel_rfl
theorem fa62_1 (i off : Nat) : opFieldAddr Try.prog 62 (.pointer (some ⟨i, off, none⟩)) 1 = some (.pointer (some ⟨i, off + 2, none⟩)) := by kernel_rfl
theorem fa62_2 (i off : Nat) : opFieldAddr Try.prog 62 (.pointer (some ⟨i, off, none⟩)) 2 = some (.pointer (some ⟨i, off + 3, none⟩)) := by kernel_rfl
theorem fa64_0 (i off : Nat) : opFieldAddr Try.prog 64 (.pointer (some ⟨i, off, none⟩)) 0 = some (.pointer (some ⟨i, off + 0, none⟩)) := by kernel_rfl
theorem fa64_1 (i off : Nat) : opFieldAddr Try.prog 64 (.pointer (some ⟨i, off, none⟩)) 1 = some (.pointer (some ⟨i, off + 1, none⟩)) := by kernel_rfl
theorem fa64_2 (i off : Nat) : opFieldAddr Try.prog 64 (.pointer (some ⟨i, off, none⟩)) 2 = some (.pointer (some ⟨i, off + 5, none⟩)) := by kernel_rfl
theorem al66 (m : Mem) : opAlloc Try.prog 66 m = some (.pointer (some ⟨m.next, 0, none⟩), m.new (.cells [Go.Value.int Go.IntKind.u8 0, Go.Value.int Go.IntKind.i64 0, Go.Value.int Go.IntKind.i64 0, Go.Value.int Go.IntKind.i64 0, Go.Value.int Go.IntKind.i64 0, Go.Value.int Go.IntKind.i64 0, Go.Value.int Go.IntKind.i64 0, Go.Value.int Go.IntKind.i64 0, Go.Value.bool Bool.false, Go.Value.int Go.IntKind.u8 0, Go.Value.int Go.IntKind.u16 0, Go.Value.int Go.IntKind.u16 0, Go.Value.int Go.IntKind.i64 0, Go.Value.slice Option.none 0 0, Go.Value.slice Option.none 0 0, Go.Value.int Go.IntKind.i64 0, Go.Value.slice Option.none 0 0, Go.Value.int Go.IntKind.u16 0, Go.Value.int Go.IntKind.u16 0, Go.Value.int Go.IntKind.i64 0, Go.Value.slice Option.none 0 0, Go.Value.int Go.IntKind.u16 0, Go.Value.int Go.IntKind.u16 0, Go.Value.int Go.IntKind.i64 0, Go.Value.int Go.IntKind.i64 0, Go.Value.slice Option.none 0 0] 66 true)) := by kernel_rfl
theorem bz66 : opBuild Try.prog 66 [] = some (Go.Value.agg #[Go.Value.int Go.IntKind.u8 0, Go.Value.int Go.IntKind.i64 0, Go.Value.int Go.IntKind.i64 0, Go.Value.int Go.IntKind.i64 0, Go.Value.int Go.IntKind.i64 0, Go.Value.int Go.IntKind.i64 0, Go.Value.int Go.IntKind.i64 0, Go.Value.int Go.IntKind.i64 0, Go.Value.bool Bool.false, Go.Value.int Go.IntKind.u8 0, Go.Value.int Go.IntKind.u16 0, Go.Value.int Go.IntKind.u16 0, Go.Value.int Go.IntKind.i64 0, Go.Value.slice Option.none 0 0, Go.Value.slice Option.none 0 0, Go.Value.int Go.IntKind.i64 0, Go.Value.slice Option.none 0 0, Go.Value.int Go.IntKind.u16 0, Go.Value.int Go.IntKind.u16 0, Go.Value.int Go.IntKind.i64 0, Go.Value.slice Option.none 0 0, Go.Value.int Go.IntKind.u16 0, Go.Value.int Go.IntKind.u16 0, Go.Value.int Go.IntKind.i64 0, Go.Value.int Go.IntKind.i64 0, Go.Value.slice Option.none 0 0]) := by kernel_rfl
theorem fa66_0 (i off : Nat) : opFieldAddr Try.prog 66 (.pointer (some ⟨i, off, none⟩)) 0 = some (.pointer (some ⟨i, off + 0, none⟩)) := by kernel_rfl
theorem fa66_1 (i off : Nat) : opFieldAddr Try.prog 66 (.pointer (some ⟨i, off, none⟩)) 1 = some (.pointer (some ⟨i, off + 1, none⟩)) := by kernel_rfl
theorem fa66_2 (i off : Nat) : opFieldAddr Try.prog 66 (.pointer (some ⟨i, off, none⟩)) 2 = some (.pointer (some ⟨i, off + 2, none⟩)) := by kernel_rfl
theorem fa66_3 (i off : Nat) : opFieldAddr Try.prog 66 (.pointer (some ⟨i, off, none⟩)) 3 = some (.pointer (some ⟨i, off + 3, none⟩)) := by kernel_rfl
theorem fa66_4 (i off : Nat) : opFieldAddr Try.prog 66 (.pointer (some ⟨i, off, none⟩)) 4 = some (.pointer (some ⟨i, off + 4, none⟩)) := by kernel_rfl
theorem fa66_5 (i off : Nat) : opFieldAddr Try.prog 66 (.pointer (some ⟨i, off, none⟩)) 5 = some (.pointer (some ⟨i, off + 6, none⟩)) := by kernel_rfl
theorem fa66_6 (i off : Nat) : opFieldAddr Try.prog 66 (.pointer (some ⟨i, off, none⟩)) 6 = some (.pointer (some ⟨i, off + 8, none⟩)) := by kernel_rfl
theorem fa66_7 (i off : Nat) : opFieldAddr Try.prog 66 (.pointer (some ⟨i, off, none⟩)) 7 = some (.pointer (some ⟨i, off + 9, none⟩)) := by kernel_rfl
theorem fa66_8 (i off : Nat) : opFieldAddr Try.prog 66 (.pointer (some ⟨i, off, none⟩)) 8 = some (.pointer (some ⟨i, off + 15, none⟩)) := by kernel_rfl
theorem fa66_9 (i off : Nat) : opFieldAddr Try.prog 66 (.pointer (some ⟨i, off, none⟩)) 9 = some (.pointer (some ⟨i, off + 17, none⟩)) := by kernel_rfl
theorem fa66_10 (i off : Nat) : opFieldAddr Try.prog 66 (.pointer (some ⟨i, off, none⟩)) 10 = some (.pointer (some ⟨i, off + 21, none⟩)) := by kernel_rfl
theorem fa66_11 (i off : Nat) : opFieldAddr Try.prog 66 (.pointer (some ⟨i, off, none⟩)) 11 = some (.pointer (some ⟨i, off + 23, none⟩)) := by kernel_rfl
theorem al74 (m : Mem) : opAlloc Try.prog 74 m = some (.pointer (some ⟨m.next, 0, none⟩), m.new (.cells [Go.Value.int Go.IntKind.u8 0, Go.Value.int Go.IntKind.u8 0, Go.Value.int Go.IntKind.u8 0, Go.Value.int Go.IntKind.u8 0, Go.Value.int Go.IntKind.u16 0, Go.Value.int Go.IntKind.u16 0, Go.Value.int Go.IntKind.u16 0, Go.Value.slice Option.none 0 0] 74 true)) := by kernel_rfl
theorem bz74 : opBuild Try.prog 74 [] = some (Go.Value.agg #[Go.Value.int Go.IntKind.u8 0, Go.Value.int Go.IntKind.u8 0, Go.Value.int Go.IntKind.u8 0, Go.Value.int Go.IntKind.u8 0, Go.Value.int Go.IntKind.u16 0, Go.Value.int Go.IntKind.u16 0, Go.Value.int Go.IntKind.u16 0, Go.Value.slice Option.none 0 0]) := by kernel_rfl
theorem fa74_0 (i off : Nat) : opFieldAddr Try.prog 74 (.pointer (some ⟨i, off, none⟩)) 0 = some (.pointer (some ⟨i, off + 0, none⟩)) := by kernel_rfl
theorem fa74_1 (i off : Nat) : opFieldAddr Try.prog 74 (.pointer (some ⟨i, off, none⟩)) 1 = some (.pointer (some ⟨i, off + 1, none⟩)) := by kernel_rfl
theorem fa74_2 (i off : Nat) : opFieldAddr Try.prog 74 (.pointer (some ⟨i, off, none⟩)) 2 = some (.pointer (some ⟨i, off + 2, none⟩)) := by kernel_rfl
theorem fa74_3 (i off : Nat) : opFieldAddr Try.prog 74 (.pointer (some ⟨i, off, none⟩)) 3 = some (.pointer (some ⟨i, off + 3, none⟩)) := by kernel_rfl
theorem fa74_4 (i off : Nat) : opFieldAddr Try.prog 74 (.pointer (some ⟨i, off, none⟩)) 4 = some (.pointer (some ⟨i, off + 4, none⟩)) := by kernel_rfl
theorem fa74_5 (i off : Nat) : opFieldAddr Try.prog 74 (.pointer (some ⟨i, off, none⟩)) 5 = some (.pointer (some ⟨i, off + 5, none⟩)) := by kernel_rfl
theorem bz85 : opBuild Try.prog 85 [] = some (Go.Value.agg #[Go.Value.int Go.IntKind.i64 0, Go.Value.int Go.IntKind.u16 0, Go.Value.string { data := #[] }, Go.Value.int Go.IntKind.i64 0, Go.Value.int Go.IntKind.i64 0, Go.Value.slice Option.none 0 0, Go.Value.slice Option.none 0 0, Go.Value.slice Option.none 0 0, Go.Value.slice Option.none 0 0, Go.Value.map Option.none, Go.Value.map Option.none, Go.Value.slice Option.none 0 0]) := by kernel_rfl
theorem fa85_0 (i off : Nat) : opFieldAddr Try.prog 85 (.pointer (some ⟨i, off, none⟩)) 0 = some (.pointer (some ⟨i, off + 0, none⟩)) := by kernel_rfl
theorem fa85_1 (i off : Nat) : opFieldAddr Try.prog 85 (.pointer (some ⟨i, off, none⟩)) 1 = some (.pointer (some ⟨i, off + 1, none⟩)) := by kernel_rfl
theorem fa85_2 (i off : Nat) : opFieldAddr Try.prog 85 (.pointer (some ⟨i, off, none⟩)) 2 = some (.pointer (some ⟨i, off + 2, none⟩)) := by kernel_rfl
theorem fa85_3 (i off : Nat) : opFieldAddr Try.prog 85 (.pointer (some ⟨i, off, none⟩)) 3 = some (.pointer (some ⟨i, off + 8, none⟩)) := by kernel_rfl
theorem fa85_4 (i off : Nat) : opFieldAddr Try.prog 85 (.pointer (some ⟨i, off, none⟩)) 4 = some (.pointer (some ⟨i, off + 9, none⟩)) := by kernel_rfl
theorem fa85_5 (i off : Nat) : opFieldAddr Try.prog 85 (.pointer (some ⟨i, off, none⟩)) 5 = some (.pointer (some ⟨i, off + 10, none⟩)) := by kernel_rfl
theorem fa85_6 (i off : Nat) : opFieldAddr Try.prog 85 (.pointer (some ⟨i, off, none⟩)) 6 = some (.pointer (some ⟨i, off + 11, none⟩)) := by kernel_rfl
theorem al92 (m : Mem) : opAlloc Try.prog 92 m = some (.pointer (some ⟨m.next, 0, none⟩), m.new (.cells [Go.Value.string { data := #[] }, Go.Value.int Go.IntKind.i64 0, Go.Value.int Go.IntKind.u8 0, Go.Value.int Go.IntKind.i64 0, Go.Value.slice Option.none 0 0, Go.Value.slice Option.none 0 0, Go.Value.int Go.IntKind.u8 0, Go.Value.int Go.IntKind.i64 0, Go.Value.slice Option.none 0 0, Go.Value.slice Option.none 0 0, Go.Value.int Go.IntKind.u8 0, Go.Value.int Go.IntKind.i64 0] 92 true)) := by kernel_rfl
theorem bz92 : opBuild Try.prog 92 [] = some (Go.Value.agg #[Go.Value.string { data := #[] }, Go.Value.int Go.IntKind.i64 0, Go.Value.int Go.IntKind.u8 0, Go.Value.int Go.IntKind.i64 0, Go.Value.slice Option.none 0 0, Go.Value.slice Option.none 0 0, Go.Value.int Go.IntKind.u8 0, Go.Value.int Go.IntKind.i64 0, Go.Value.slice Option.none 0 0, Go.Value.slice Option.none 0 0, Go.Value.int Go.IntKind.u8 0, Go.Value.int Go.IntKind.i64 0]) := by kernel_rfl
theorem fa92_1 (i off : Nat) : opFieldAddr Try.prog 92 (.pointer (some ⟨i, off, none⟩)) 1 = some (.pointer (some ⟨i, off + 1, none⟩)) := by kernel_rfl
theorem fa92_4 (i off : Nat) : opFieldAddr Try.prog 92 (.pointer (some ⟨i, off, none⟩)) 4 = some (.pointer (some ⟨i, off + 10, none⟩)) := by kernel_rfl
theorem fa92_5 (i off : Nat) : opFieldAddr Try.prog 92 (.pointer (some ⟨i, off, none⟩)) 5 = some (.pointer (some ⟨i, off + 11, none⟩)) := by kernel_rfl
theorem fa98_0 (i off : Nat) : opFieldAddr Try.prog 98 (.pointer (some ⟨i, off, none⟩)) 0 = some (.pointer (some ⟨i, off + 0, none⟩)) := by kernel_rfl
theorem fa98_1 (i off : Nat) : opFieldAddr Try.prog 98 (.pointer (some ⟨i, off, none⟩)) 1 = some (.pointer (some ⟨i, off + 4, none⟩)) := by kernel_rfl
theorem fa98_2 (i off : Nat) : opFieldAddr Try.prog 98 (.pointer (some ⟨i, off, none⟩)) 2 = some (.pointer (some ⟨i, off + 5, none⟩)) := by kernel_rfl
theorem bz103 : opBuild Try.prog 103 [] = some (Go.Value.agg #[Go.Value.int Go.IntKind.u8 0, Go.Value.int Go.IntKind.i64 0, Go.Value.slice Option.none 0 0, Go.Value.slice Option.none 0 0, Go.Value.slice Option.none 0 0]) := by kernel_rfl
theorem fa103_0 (i off : Nat) : opFieldAddr Try.prog 103 (.pointer (some ⟨i, off, none⟩)) 0 = some (.pointer (some ⟨i, off + 0, none⟩)) := by kernel_rfl
theorem fa103_1 (i off : Nat) : opFieldAddr Try.prog 103 (.pointer (some ⟨i, off, none⟩)) 1 = some (.pointer (some ⟨i, off + 1, none⟩)) := by kernel_rfl
theorem fa103_2 (i off : Nat) : opFieldAddr Try.prog 103 (.pointer (some ⟨i, off, none⟩)) 2 = some (.pointer (some ⟨i, off + 3, none⟩)) := by kernel_rfl
theorem fa103_3 (i off : Nat) : opFieldAddr Try.prog 103 (.pointer (some ⟨i, off, none⟩)) 3 = some (.pointer (some ⟨i, off + 4, none⟩)) := by kernel_rfl
theorem fr0 : Try.f0.results.toList = [] := rfl
theorem fr1 : Try.f1.results.toList = [] := rfl
theorem fr4 : Try.f4.results.toList = [Go.ResultVar.tmp 4] := rfl
theorem fr6 : Try.f6.results.toList = [Go.ResultVar.tmp 4] := rfl
theorem fr7 : Try.f7.results.toList = [Go.ResultVar.tmp 0] := rfl
theorem fr8 : Try.f8.results.toList = [Go.ResultVar.tmp 8] := rfl
theorem fr9 : Try.f9.results.toList = [Go.ResultVar.cell 2 32] := rfl
theorem fr10 : Try.f10.results.toList = [Go.ResultVar.tmp 8, Go.ResultVar.tmp 9] := rfl
theorem fr11 : Try.f11.results.toList = [Go.ResultVar.cell 4 39, Go.ResultVar.tmp 5] := rfl
theorem fr12 : Try.f12.results.toList = [Go.ResultVar.tmp 2] := rfl
theorem fr13 : Try.f13.results.toList = [Go.ResultVar.tmp 2] := rfl
theorem fr14 : Try.f14.results.toList = [Go.ResultVar.tmp 2] := rfl
theorem fr15 : Try.f15.results.toList = [] := rfl
theorem fr16 : Try.f16.results.toList = [Go.ResultVar.cell 2 39] := rfl
theorem fr17 : Try.f17.results.toList = [Go.ResultVar.tmp 4] := rfl
theorem fr18 : Try.f18.results.toList = [Go.ResultVar.tmp 2] := rfl
theorem fr19 : Try.f19.results.toList = [Go.ResultVar.tmp 4] := rfl
theorem fr20 : Try.f20.results.toList = [Go.ResultVar.tmp 2] := rfl
theorem fr21 : Try.f21.results.toList = [Go.ResultVar.tmp 8] := rfl
theorem fr22 : Try.f22.results.toList = [Go.ResultVar.cell 2 39, Go.ResultVar.tmp 3] := rfl
theorem fr23 : Try.f23.results.toList = [Go.ResultVar.cell 4 92, Go.ResultVar.tmp 5] := rfl
theorem fr24 : Try.f24.results.toList = [Go.ResultVar.tmp 2] := rfl
theorem fr25 : Try.f25.results.toList = [Go.ResultVar.tmp 4] := rfl
theorem fr26 : Try.f26.results.toList = [] := rfl
theorem fr27 : Try.f27.results.toList = [Go.ResultVar.tmp 2] := rfl
theorem fr28 : Try.f28.results.toList = [Go.ResultVar.tmp 4] := rfl
theorem fr29 : Try.f29.results.toList = [Go.ResultVar.tmp 4] := rfl
theorem fr30 : Try.f30.results.toList = [Go.ResultVar.tmp 4] := rfl
theorem fr31 : Try.f31.results.toList = [Go.ResultVar.tmp 2] := rfl
theorem fr32 : Try.f32.results.toList = [Go.ResultVar.tmp 4] := rfl
theorem fr33 : Try.f33.results.toList = [Go.ResultVar.tmp 4] := rfl
theorem fr34 : Try.f34.results.toList = [Go.ResultVar.tmp 4] := rfl
theorem fr35 : Try.f35.results.toList = [Go.ResultVar.tmp 4] := rfl
theorem fr36 : Try.f36.results.toList = [Go.ResultVar.tmp 4] := rfl
theorem fr37 : Try.f37.results.toList = [Go.ResultVar.cell 2 66] := rfl
theorem fr38 : Try.f38.results.toList = [Go.ResultVar.tmp 2] := rfl
theorem fr39 : Try.f39.results.toList = [Go.ResultVar.tmp 2] := rfl
theorem fr40 : Try.f40.results.toList = [Go.ResultVar.tmp 2] := rfl
theorem fr41 : Try.f41.results.toList = [Go.ResultVar.tmp 4] := rfl
theorem fr42 : Try.f42.results.toList = [Go.ResultVar.tmp 2] := rfl
theorem fr43 : Try.f43.results.toList = [Go.ResultVar.tmp 4] := rfl
theorem fr44 : Try.f44.results.toList = [Go.ResultVar.tmp 4] := rfl
theorem fr45 : Try.f45.results.toList = [Go.ResultVar.tmp 3] := rfl
theorem fr46 : Try.f46.results.toList = [Go.ResultVar.tmp 4] := rfl
theorem fr47 : Try.f47.results.toList = [Go.ResultVar.tmp 4] := rfl
end Go.Proofs.Ytimjcfaciiimmaa
