/- Facts of the program's types and functions. -/
import Derived.Test.YtgecmpgpinihhaaAmSimps
import Derived.Test.YtgecmpgpinihhaaProg
import Derived.KernelRfl
set_option linter.unusedSimpArgs false
set_option linter.unusedVariables false
namespace Go.Proofs.Ytgecmpgpinihhaa
open Go Go.AM
theorem ts0 : tsize Try.prog 0 = some 1 := by kernel_rfl
theorem tb0 : tbytes Try.prog 0 = some 0 := by kernel_rfl
theorem tz0 : tzero Try.prog 0 = Option.some (Go.Value.tuple #[]) := by kernel_rfl
theorem ts1 : tsize Try.prog 1 = some 1 := by kernel_rfl
theorem tb1 : tbytes Try.prog 1 = some 8 := by kernel_rfl
theorem tz1 : tzero Try.prog 1 = Option.some Go.Value.nilFunc := by kernel_rfl
theorem ts2 : tsize Try.prog 2 = some 1 := by kernel_rfl
theorem tb2 : tbytes Try.prog 2 = some 8 := by kernel_rfl
theorem tz2 : tzero Try.prog 2 = Option.some (Go.Value.int Go.IntKind.i64 0) := by kernel_rfl
theorem ts3 : tsize Try.prog 3 = some 1 := by kernel_rfl
theorem tb3 : tbytes Try.prog 3 = some 8 := by kernel_rfl
theorem tz3 : tzero Try.prog 3 = Option.some (Go.Value.int Go.IntKind.i64 0) := by kernel_rfl
theorem ts4 : tsize Try.prog 4 = some 1 := by kernel_rfl
theorem tb4 : tbytes Try.prog 4 = some 1 := by kernel_rfl
theorem tz4 : tzero Try.prog 4 = Option.some (Go.Value.bool Bool.false) := by kernel_rfl
theorem ts5 : tsize Try.prog 5 = some 1 := by kernel_rfl
theorem tb5 : tbytes Try.prog 5 = some 1 := by kernel_rfl
theorem tz5 : tzero Try.prog 5 = Option.some (Go.Value.int Go.IntKind.u8 0) := by kernel_rfl
theorem ts6 : tsize Try.prog 6 = some 1 := by kernel_rfl
theorem tb6 : tbytes Try.prog 6 = some 1 := by kernel_rfl
theorem tz6 : tzero Try.prog 6 = Option.some (Go.Value.int Go.IntKind.u8 0) := by kernel_rfl
theorem ts7 : tsize Try.prog 7 = some 4 := by kernel_rfl
theorem tb7 : tbytes Try.prog 7 = some 24 := by kernel_rfl
theorem tz7 : tzero Try.prog 7 = Option.some
      (Go.Value.agg
        #[Go.Value.int Go.IntKind.i64 0, Go.Value.int Go.IntKind.i64 0, Go.Value.bool Bool.false,
          Go.Value.int Go.IntKind.u8 0]) := by kernel_rfl
theorem ts8 : tsize Try.prog 8 = some 4 := by kernel_rfl
theorem tb8 : tbytes Try.prog 8 = some 24 := by kernel_rfl
theorem tz8 : tzero Try.prog 8 = Option.some
      (Go.Value.agg
        #[Go.Value.int Go.IntKind.i64 0, Go.Value.int Go.IntKind.i64 0, Go.Value.bool Bool.false,
          Go.Value.int Go.IntKind.u8 0]) := by kernel_rfl
theorem ts9 : tsize Try.prog 9 = some 1 := by kernel_rfl
theorem tb9 : tbytes Try.prog 9 = some 16 := by kernel_rfl
theorem tz9 : tzero Try.prog 9 = Option.some (Go.Value.string { data := #[] }) := by kernel_rfl
theorem ts10 : tsize Try.prog 10 = some 1 := by kernel_rfl
theorem tb10 : tbytes Try.prog 10 = some 16 := by kernel_rfl
theorem tz10 : tzero Try.prog 10 = Option.some (Go.Value.string { data := #[] }) := by kernel_rfl
theorem ts11 : tsize Try.prog 11 = some 1 := by kernel_rfl
theorem tb11 : tbytes Try.prog 11 = some 16 := by kernel_rfl
theorem tz11 : tzero Try.prog 11 = Option.some (Go.Value.string { data := #[] }) := by kernel_rfl
theorem ts12 : tsize Try.prog 12 = some 1 := by kernel_rfl
theorem tb12 : tbytes Try.prog 12 = some 8 := by kernel_rfl
theorem tz12 : tzero Try.prog 12 = Option.some (Go.Value.int Go.IntKind.u64 0) := by kernel_rfl
theorem ts13 : tsize Try.prog 13 = some 2 := by kernel_rfl
theorem tb13 : tbytes Try.prog 13 = some 24 := by kernel_rfl
theorem tz13 : tzero Try.prog 13 = Option.some (Go.Value.agg #[Go.Value.string { data := #[] }, Go.Value.int Go.IntKind.u64 0]) := by kernel_rfl
theorem ts14 : tsize Try.prog 14 = some 2 := by kernel_rfl
theorem tb14 : tbytes Try.prog 14 = some 24 := by kernel_rfl
theorem tz14 : tzero Try.prog 14 = Option.some (Go.Value.agg #[Go.Value.string { data := #[] }, Go.Value.int Go.IntKind.u64 0]) := by kernel_rfl
theorem ts15 : tsize Try.prog 15 = some 1 := by kernel_rfl
theorem tb15 : tbytes Try.prog 15 = some 8 := by kernel_rfl
theorem tz15 : tzero Try.prog 15 = Option.some (Go.Value.pointer Option.none) := by kernel_rfl
theorem ts16 : tsize Try.prog 16 = some 1 := by kernel_rfl
theorem tb16 : tbytes Try.prog 16 = some 8 := by kernel_rfl
theorem tz16 : tzero Try.prog 16 = Option.some (Go.Value.pointer Option.none) := by kernel_rfl
theorem ts17 : tsize Try.prog 17 = some 1 := by kernel_rfl
theorem tb17 : tbytes Try.prog 17 = some 8 := by kernel_rfl
theorem tz17 : tzero Try.prog 17 = Option.some (Go.Value.pointer Option.none) := by kernel_rfl
theorem ts18 : tsize Try.prog 18 = some 1 := by kernel_rfl
theorem tb18 : tbytes Try.prog 18 = some 8 := by kernel_rfl
theorem tz18 : tzero Try.prog 18 = Option.some (Go.Value.agg #[Go.Value.pointer Option.none]) := by kernel_rfl
theorem ts19 : tsize Try.prog 19 = some 1 := by kernel_rfl
theorem tb19 : tbytes Try.prog 19 = some 8 := by kernel_rfl
theorem tz19 : tzero Try.prog 19 = Option.some (Go.Value.agg #[Go.Value.pointer Option.none]) := by kernel_rfl
theorem ts20 : tsize Try.prog 20 = some 1 := by kernel_rfl
theorem tb20 : tbytes Try.prog 20 = some 16 := by kernel_rfl
theorem tz20 : tzero Try.prog 20 = Option.some Go.Value.nilIface := by kernel_rfl
theorem ts21 : tsize Try.prog 21 = some 1 := by kernel_rfl
theorem tb21 : tbytes Try.prog 21 = some 4 := by kernel_rfl
theorem tz21 : tzero Try.prog 21 = Option.some (Go.Value.int Go.IntKind.i32 0) := by kernel_rfl
theorem ts22 : tsize Try.prog 22 = some 1 := by kernel_rfl
theorem tb22 : tbytes Try.prog 22 = some 2 := by kernel_rfl
theorem tz22 : tzero Try.prog 22 = Option.some (Go.Value.int Go.IntKind.u16 0) := by kernel_rfl
theorem ts23 : tsize Try.prog 23 = some 1 := by kernel_rfl
theorem tb23 : tbytes Try.prog 23 = some 24 := by kernel_rfl
theorem tz23 : tzero Try.prog 23 = Option.some (Go.Value.slice Option.none 0 0) := by kernel_rfl
theorem ts24 : tsize Try.prog 24 = some 1 := by kernel_rfl
theorem tb24 : tbytes Try.prog 24 = some 24 := by kernel_rfl
theorem tz24 : tzero Try.prog 24 = Option.some (Go.Value.slice Option.none 0 0) := by kernel_rfl
theorem ts25 : tsize Try.prog 25 = some 4 := by kernel_rfl
theorem tb25 : tbytes Try.prog 25 = some 32 := by kernel_rfl
theorem tz25 : tzero Try.prog 25 = Option.some
      (Go.Value.agg
        #[Go.Value.int Go.IntKind.u16 0, Go.Value.int Go.IntKind.u16 0, Go.Value.int Go.IntKind.u16 0,
          Go.Value.slice Option.none 0 0]) := by kernel_rfl
theorem ts26 : tsize Try.prog 26 = some 4 := by kernel_rfl
theorem tb26 : tbytes Try.prog 26 = some 32 := by kernel_rfl
theorem tz26 : tzero Try.prog 26 = Option.some
      (Go.Value.agg
        #[Go.Value.int Go.IntKind.u16 0, Go.Value.int Go.IntKind.u16 0, Go.Value.int Go.IntKind.u16 0,
          Go.Value.slice Option.none 0 0]) := by kernel_rfl
theorem ts27 : tsize Try.prog 27 = some 6 := by kernel_rfl
theorem tb27 : tbytes Try.prog 27 = some 48 := by kernel_rfl
theorem tz27 : tzero Try.prog 27 = Option.some
      (Go.Value.agg
        #[Go.Value.int Go.IntKind.u8 0, Go.Value.int Go.IntKind.u16 0, Go.Value.int Go.IntKind.u16 0,
          Go.Value.int Go.IntKind.u16 0, Go.Value.slice Option.none 0 0, Go.Value.int Go.IntKind.u16 0]) := by kernel_rfl
theorem ts28 : tsize Try.prog 28 = some 6 := by kernel_rfl
theorem tb28 : tbytes Try.prog 28 = some 48 := by kernel_rfl
theorem tz28 : tzero Try.prog 28 = Option.some
      (Go.Value.agg
        #[Go.Value.int Go.IntKind.u8 0, Go.Value.int Go.IntKind.u16 0, Go.Value.int Go.IntKind.u16 0,
          Go.Value.int Go.IntKind.u16 0, Go.Value.slice Option.none 0 0, Go.Value.int Go.IntKind.u16 0]) := by kernel_rfl
theorem ts29 : tsize Try.prog 29 = some 1 := by kernel_rfl
theorem tb29 : tbytes Try.prog 29 = some 8 := by kernel_rfl
theorem tz29 : tzero Try.prog 29 = Option.some Go.Value.nilFunc := by kernel_rfl
theorem ts30 : tsize Try.prog 30 = some 1 := by kernel_rfl
theorem tb30 : tbytes Try.prog 30 = some 24 := by kernel_rfl
theorem tz30 : tzero Try.prog 30 = Option.some (Go.Value.slice Option.none 0 0) := by kernel_rfl
theorem ts31 : tsize Try.prog 31 = some 1 := by kernel_rfl
theorem tb31 : tbytes Try.prog 31 = some 8 := by kernel_rfl
theorem tz31 : tzero Try.prog 31 = Option.some Go.Value.nilFunc := by kernel_rfl
theorem ts32 : tsize Try.prog 32 = some 2 := by kernel_rfl
theorem tb32 : tbytes Try.prog 32 = some 32 := by kernel_rfl
theorem tz32 : tzero Try.prog 32 = Option.some (Go.Value.agg #[Go.Value.int Go.IntKind.i64 0, Go.Value.slice Option.none 0 0]) := by kernel_rfl
theorem ts33 : tsize Try.prog 33 = some 2 := by kernel_rfl
theorem tb33 : tbytes Try.prog 33 = some 32 := by kernel_rfl
theorem tz33 : tzero Try.prog 33 = Option.some (Go.Value.agg #[Go.Value.int Go.IntKind.i64 0, Go.Value.slice Option.none 0 0]) := by kernel_rfl
theorem ts34 : tsize Try.prog 34 = some 1 := by kernel_rfl
theorem tb34 : tbytes Try.prog 34 = some 8 := by kernel_rfl
theorem tz34 : tzero Try.prog 34 = Option.some (Go.Value.pointer Option.none) := by kernel_rfl
theorem ts35 : tsize Try.prog 35 = some 1 := by kernel_rfl
theorem tb35 : tbytes Try.prog 35 = some 8 := by kernel_rfl
theorem tz35 : tzero Try.prog 35 = Option.some Go.Value.nilFunc := by kernel_rfl
theorem ts36 : tsize Try.prog 36 = some 2 := by kernel_rfl
theorem tb36 : tbytes Try.prog 36 = some 16 := by kernel_rfl
theorem tz36 : tzero Try.prog 36 = Option.some (Go.Value.agg #[Go.Value.int Go.IntKind.i64 0, Go.Value.int Go.IntKind.i64 0]) := by kernel_rfl
theorem ts37 : tsize Try.prog 37 = some 2 := by kernel_rfl
theorem tb37 : tbytes Try.prog 37 = some 16 := by kernel_rfl
theorem tz37 : tzero Try.prog 37 = Option.some (Go.Value.agg #[Go.Value.int Go.IntKind.i64 0, Go.Value.int Go.IntKind.i64 0]) := by kernel_rfl
theorem ts38 : tsize Try.prog 38 = some 1 := by kernel_rfl
theorem tb38 : tbytes Try.prog 38 = some 8 := by kernel_rfl
theorem tz38 : tzero Try.prog 38 = Option.some Go.Value.nilFunc := by kernel_rfl
theorem ts39 : tsize Try.prog 39 = some 1 := by kernel_rfl
theorem tb39 : tbytes Try.prog 39 = some 1 := by kernel_rfl
theorem tz39 : tzero Try.prog 39 = Option.some (Go.Value.int Go.IntKind.u8 0) := by kernel_rfl
theorem ts40 : tsize Try.prog 40 = some 2 := by kernel_rfl
theorem tb40 : tbytes Try.prog 40 = some 4 := by kernel_rfl
theorem tz40 : tzero Try.prog 40 = Option.some (Go.Value.agg #[Go.Value.int Go.IntKind.u16 0, Go.Value.int Go.IntKind.u16 0]) := by kernel_rfl
theorem ts41 : tsize Try.prog 41 = some 2 := by kernel_rfl
theorem tb41 : tbytes Try.prog 41 = some 4 := by kernel_rfl
theorem tz41 : tzero Try.prog 41 = Option.some (Go.Value.agg #[Go.Value.int Go.IntKind.u16 0, Go.Value.int Go.IntKind.u16 0]) := by kernel_rfl
theorem ts42 : tsize Try.prog 42 = some 4 := by kernel_rfl
theorem tb42 : tbytes Try.prog 42 = some 40 := by kernel_rfl
theorem tz42 : tzero Try.prog 42 = Option.some
      (Go.Value.agg
        #[Go.Value.int Go.IntKind.u16 0, Go.Value.int Go.IntKind.u16 0, Go.Value.int Go.IntKind.i64 0,
          Go.Value.slice Option.none 0 0]) := by kernel_rfl
theorem ts43 : tsize Try.prog 43 = some 4 := by kernel_rfl
theorem tb43 : tbytes Try.prog 43 = some 40 := by kernel_rfl
theorem tz43 : tzero Try.prog 43 = Option.some
      (Go.Value.agg
        #[Go.Value.int Go.IntKind.u16 0, Go.Value.int Go.IntKind.u16 0, Go.Value.int Go.IntKind.i64 0,
          Go.Value.slice Option.none 0 0]) := by kernel_rfl
theorem ts44 : tsize Try.prog 44 = some 6 := by kernel_rfl
theorem tb44 : tbytes Try.prog 44 = some 72 := by kernel_rfl
theorem tz44 : tzero Try.prog 44 = Option.some
      (Go.Value.agg
        #[Go.Value.int Go.IntKind.u8 0, Go.Value.int Go.IntKind.u16 0, Go.Value.int Go.IntKind.u16 0,
          Go.Value.int Go.IntKind.i64 0, Go.Value.slice Option.none 0 0, Go.Value.slice Option.none 0 0]) := by kernel_rfl
theorem ts45 : tsize Try.prog 45 = some 6 := by kernel_rfl
theorem tb45 : tbytes Try.prog 45 = some 72 := by kernel_rfl
theorem tz45 : tzero Try.prog 45 = Option.some
      (Go.Value.agg
        #[Go.Value.int Go.IntKind.u8 0, Go.Value.int Go.IntKind.u16 0, Go.Value.int Go.IntKind.u16 0,
          Go.Value.int Go.IntKind.i64 0, Go.Value.slice Option.none 0 0, Go.Value.slice Option.none 0 0]) := by kernel_rfl
theorem ts46 : tsize Try.prog 46 = some 1 := by kernel_rfl
theorem tb46 : tbytes Try.prog 46 = some 8 := by kernel_rfl
theorem tz46 : tzero Try.prog 46 = Option.some Go.Value.nilFunc := by kernel_rfl
theorem ts47 : tsize Try.prog 47 = some 1 := by kernel_rfl
theorem tb47 : tbytes Try.prog 47 = some 8 := by kernel_rfl
theorem tz47 : tzero Try.prog 47 = Option.some Go.Value.nilFunc := by kernel_rfl
theorem ts48 : tsize Try.prog 48 = some 11 := by kernel_rfl
theorem tb48 : tbytes Try.prog 48 = some 56 := by kernel_rfl
theorem tz48 : tzero Try.prog 48 = Option.some
      (Go.Value.agg
        #[Go.Value.int Go.IntKind.u8 0, Go.Value.int Go.IntKind.u8 0, Go.Value.int Go.IntKind.u8 0,
          Go.Value.int Go.IntKind.u8 0, Go.Value.bool Bool.false, Go.Value.int Go.IntKind.u8 0,
          Go.Value.int Go.IntKind.u16 0, Go.Value.int Go.IntKind.u16 0, Go.Value.int Go.IntKind.u16 0,
          Go.Value.slice Option.none 0 0, Go.Value.int Go.IntKind.u16 0]) := by kernel_rfl
theorem ts49 : tsize Try.prog 49 = some 11 := by kernel_rfl
theorem tb49 : tbytes Try.prog 49 = some 56 := by kernel_rfl
theorem tz49 : tzero Try.prog 49 = Option.some
      (Go.Value.agg
        #[Go.Value.int Go.IntKind.u8 0, Go.Value.int Go.IntKind.u8 0, Go.Value.int Go.IntKind.u8 0,
          Go.Value.int Go.IntKind.u8 0, Go.Value.bool Bool.false, Go.Value.int Go.IntKind.u8 0,
          Go.Value.int Go.IntKind.u16 0, Go.Value.int Go.IntKind.u16 0, Go.Value.int Go.IntKind.u16 0,
          Go.Value.slice Option.none 0 0, Go.Value.int Go.IntKind.u16 0]) := by kernel_rfl
theorem ts50 : tsize Try.prog 50 = some 1 := by kernel_rfl
theorem tb50 : tbytes Try.prog 50 = some 8 := by kernel_rfl
theorem tz50 : tzero Try.prog 50 = Option.some Go.Value.nilFunc := by kernel_rfl
theorem ts51 : tsize Try.prog 51 = some 1 := by kernel_rfl
theorem tb51 : tbytes Try.prog 51 = some 0 := by kernel_rfl
theorem tz51 : tzero Try.prog 51 = Option.some
      (Go.Value.tuple
        #[Go.Value.agg
            #[Go.Value.int Go.IntKind.u8 0, Go.Value.int Go.IntKind.u16 0, Go.Value.int Go.IntKind.u16 0,
              Go.Value.int Go.IntKind.i64 0, Go.Value.slice Option.none 0 0, Go.Value.slice Option.none 0 0],
          Go.Value.bool Bool.false]) := by kernel_rfl
theorem ts52 : tsize Try.prog 52 = some 1 := by kernel_rfl
theorem tb52 : tbytes Try.prog 52 = some 8 := by kernel_rfl
theorem tz52 : tzero Try.prog 52 = Option.some Go.Value.nilFunc := by kernel_rfl
theorem ts53 : tsize Try.prog 53 = some 1 := by kernel_rfl
theorem tb53 : tbytes Try.prog 53 = some 8 := by kernel_rfl
theorem tz53 : tzero Try.prog 53 = Option.some Go.Value.nilFunc := by kernel_rfl
theorem ts54 : tsize Try.prog 54 = some 1 := by kernel_rfl
theorem tb54 : tbytes Try.prog 54 = some 8 := by kernel_rfl
theorem tz54 : tzero Try.prog 54 = Option.some Go.Value.nilFunc := by kernel_rfl
theorem ts55 : tsize Try.prog 55 = some 36 := by kernel_rfl
theorem tb55 : tbytes Try.prog 55 = some 288 := by kernel_rfl
theorem tz55 : tzero Try.prog 55 = Option.some
      (Go.Value.agg
        #[Go.Value.int Go.IntKind.u8 0, Go.Value.int Go.IntKind.u16 0, Go.Value.int Go.IntKind.u16 0,
          Go.Value.int Go.IntKind.u16 0, Go.Value.slice Option.none 0 0, Go.Value.int Go.IntKind.u16 0,
          Go.Value.int Go.IntKind.u8 0, Go.Value.int Go.IntKind.u16 0, Go.Value.int Go.IntKind.u16 0,
          Go.Value.int Go.IntKind.u16 0, Go.Value.slice Option.none 0 0, Go.Value.int Go.IntKind.u16 0,
          Go.Value.int Go.IntKind.u8 0, Go.Value.int Go.IntKind.u16 0, Go.Value.int Go.IntKind.u16 0,
          Go.Value.int Go.IntKind.u16 0, Go.Value.slice Option.none 0 0, Go.Value.int Go.IntKind.u16 0,
          Go.Value.int Go.IntKind.u8 0, Go.Value.int Go.IntKind.u16 0, Go.Value.int Go.IntKind.u16 0,
          Go.Value.int Go.IntKind.u16 0, Go.Value.slice Option.none 0 0, Go.Value.int Go.IntKind.u16 0,
          Go.Value.int Go.IntKind.u8 0, Go.Value.int Go.IntKind.u16 0, Go.Value.int Go.IntKind.u16 0,
          Go.Value.int Go.IntKind.u16 0, Go.Value.slice Option.none 0 0, Go.Value.int Go.IntKind.u16 0,
          Go.Value.int Go.IntKind.u8 0, Go.Value.int Go.IntKind.u16 0, Go.Value.int Go.IntKind.u16 0,
          Go.Value.int Go.IntKind.u16 0, Go.Value.slice Option.none 0 0, Go.Value.int Go.IntKind.u16 0]) := by kernel_rfl
theorem ts56 : tsize Try.prog 56 = some 1 := by kernel_rfl
theorem tb56 : tbytes Try.prog 56 = some 24 := by kernel_rfl
theorem tz56 : tzero Try.prog 56 = Option.some (Go.Value.slice Option.none 0 0) := by kernel_rfl
theorem ts57 : tsize Try.prog 57 = some 1 := by kernel_rfl
theorem tb57 : tbytes Try.prog 57 = some 8 := by kernel_rfl
theorem tz57 : tzero Try.prog 57 = Option.some (Go.Value.pointer Option.none) := by kernel_rfl
theorem ts58 : tsize Try.prog 58 = some 6 := by kernel_rfl
theorem tb58 : tbytes Try.prog 58 = some 48 := by kernel_rfl
theorem tz58 : tzero Try.prog 58 = Option.some
      (Go.Value.agg
        #[Go.Value.pointer Option.none, Go.Value.pointer Option.none, Go.Value.pointer Option.none,
          Go.Value.pointer Option.none, Go.Value.pointer Option.none, Go.Value.pointer Option.none]) := by kernel_rfl
theorem ts59 : tsize Try.prog 59 = some 6 := by kernel_rfl
theorem tb59 : tbytes Try.prog 59 = some 48 := by kernel_rfl
theorem tz59 : tzero Try.prog 59 = Option.some
      (Go.Value.agg
        #[Go.Value.pointer Option.none, Go.Value.pointer Option.none, Go.Value.pointer Option.none,
          Go.Value.pointer Option.none, Go.Value.pointer Option.none, Go.Value.pointer Option.none]) := by kernel_rfl
theorem ts60 : tsize Try.prog 60 = some 11 := by kernel_rfl
theorem tb60 : tbytes Try.prog 60 = some 112 := by kernel_rfl
theorem tz60 : tzero Try.prog 60 = Option.some
      (Go.Value.agg
        #[Go.Value.int Go.IntKind.i64 0, Go.Value.int Go.IntKind.i64 0, Go.Value.bool Bool.false,
          Go.Value.int Go.IntKind.i64 0, Go.Value.int Go.IntKind.i64 0, Go.Value.int Go.IntKind.u8 0,
          Go.Value.int Go.IntKind.u16 0, Go.Value.int Go.IntKind.u16 0, Go.Value.int Go.IntKind.i64 0,
          Go.Value.slice Option.none 0 0, Go.Value.slice Option.none 0 0]) := by kernel_rfl
theorem ts61 : tsize Try.prog 61 = some 11 := by kernel_rfl
theorem tb61 : tbytes Try.prog 61 = some 112 := by kernel_rfl
theorem tz61 : tzero Try.prog 61 = Option.some
      (Go.Value.agg
        #[Go.Value.int Go.IntKind.i64 0, Go.Value.int Go.IntKind.i64 0, Go.Value.bool Bool.false,
          Go.Value.int Go.IntKind.i64 0, Go.Value.int Go.IntKind.i64 0, Go.Value.int Go.IntKind.u8 0,
          Go.Value.int Go.IntKind.u16 0, Go.Value.int Go.IntKind.u16 0, Go.Value.int Go.IntKind.i64 0,
          Go.Value.slice Option.none 0 0, Go.Value.slice Option.none 0 0]) := by kernel_rfl
theorem ts62 : tsize Try.prog 62 = some 1 := by kernel_rfl
theorem tb62 : tbytes Try.prog 62 = some 24 := by kernel_rfl
theorem tz62 : tzero Try.prog 62 = Option.some (Go.Value.slice Option.none 0 0) := by kernel_rfl
theorem ts63 : tsize Try.prog 63 = some 4 := by kernel_rfl
theorem tb63 : tbytes Try.prog 63 = some 4 := by kernel_rfl
theorem tz63 : tzero Try.prog 63 = Option.some
      (Go.Value.agg
        #[Go.Value.int Go.IntKind.u8 0, Go.Value.int Go.IntKind.u8 0, Go.Value.bool Bool.false,
          Go.Value.bool Bool.false]) := by kernel_rfl
theorem ts64 : tsize Try.prog 64 = some 4 := by kernel_rfl
theorem tb64 : tbytes Try.prog 64 = some 4 := by kernel_rfl
theorem tz64 : tzero Try.prog 64 = Option.some
      (Go.Value.agg
        #[Go.Value.int Go.IntKind.u8 0, Go.Value.int Go.IntKind.u8 0, Go.Value.bool Bool.false,
          Go.Value.bool Bool.false]) := by kernel_rfl
theorem ts65 : tsize Try.prog 65 = some 1 := by kernel_rfl
theorem tb65 : tbytes Try.prog 65 = some 8 := by kernel_rfl
theorem tz65 : tzero Try.prog 65 = Option.some Go.Value.nilFunc := by kernel_rfl
theorem ts66 : tsize Try.prog 66 = some 1 := by kernel_rfl
theorem tb66 : tbytes Try.prog 66 = some 8 := by kernel_rfl
theorem tz66 : tzero Try.prog 66 = Option.some Go.Value.nilFunc := by kernel_rfl
theorem ts67 : tsize Try.prog 67 = some 14 := by kernel_rfl
theorem tb67 : tbytes Try.prog 67 = some 136 := by kernel_rfl
theorem tz67 : tzero Try.prog 67 = Option.some
      (Go.Value.agg
        #[Go.Value.int Go.IntKind.i64 0, Go.Value.int Go.IntKind.i64 0, Go.Value.int Go.IntKind.i64 0,
          Go.Value.int Go.IntKind.i64 0, Go.Value.int Go.IntKind.i64 0, Go.Value.int Go.IntKind.i64 0,
          Go.Value.int Go.IntKind.i64 0, Go.Value.bool Bool.false, Go.Value.int Go.IntKind.u8 0,
          Go.Value.int Go.IntKind.u16 0, Go.Value.int Go.IntKind.u16 0, Go.Value.int Go.IntKind.i64 0,
          Go.Value.slice Option.none 0 0, Go.Value.slice Option.none 0 0]) := by kernel_rfl
theorem ts68 : tsize Try.prog 68 = some 14 := by kernel_rfl
theorem tb68 : tbytes Try.prog 68 = some 136 := by kernel_rfl
theorem tz68 : tzero Try.prog 68 = Option.some
      (Go.Value.agg
        #[Go.Value.int Go.IntKind.i64 0, Go.Value.int Go.IntKind.i64 0, Go.Value.int Go.IntKind.i64 0,
          Go.Value.int Go.IntKind.i64 0, Go.Value.int Go.IntKind.i64 0, Go.Value.int Go.IntKind.i64 0,
          Go.Value.int Go.IntKind.i64 0, Go.Value.bool Bool.false, Go.Value.int Go.IntKind.u8 0,
          Go.Value.int Go.IntKind.u16 0, Go.Value.int Go.IntKind.u16 0, Go.Value.int Go.IntKind.i64 0,
          Go.Value.slice Option.none 0 0, Go.Value.slice Option.none 0 0]) := by kernel_rfl
theorem ts69 : tsize Try.prog 69 = some 1 := by kernel_rfl
theorem tb69 : tbytes Try.prog 69 = some 0 := by kernel_rfl
theorem tz69 : tzero Try.prog 69 = Option.some
      (Go.Value.tuple
        #[Go.Value.agg #[Go.Value.int Go.IntKind.i64 0, Go.Value.int Go.IntKind.i64 0],
          Go.Value.agg
            #[Go.Value.int Go.IntKind.u8 0, Go.Value.int Go.IntKind.u16 0, Go.Value.int Go.IntKind.u16 0,
              Go.Value.int Go.IntKind.i64 0, Go.Value.slice Option.none 0 0, Go.Value.slice Option.none 0 0],
          Go.Value.bool Bool.false, Go.Value.bool Bool.false]) := by kernel_rfl
theorem ts70 : tsize Try.prog 70 = some 1 := by kernel_rfl
theorem tb70 : tbytes Try.prog 70 = some 8 := by kernel_rfl
theorem tz70 : tzero Try.prog 70 = Option.some Go.Value.nilFunc := by kernel_rfl
theorem ts71 : tsize Try.prog 71 = some 1 := by kernel_rfl
theorem tb71 : tbytes Try.prog 71 = some 8 := by kernel_rfl
theorem tz71 : tzero Try.prog 71 = Option.some Go.Value.nilFunc := by kernel_rfl
theorem ts72 : tsize Try.prog 72 = some 1 := by kernel_rfl
theorem tb72 : tbytes Try.prog 72 = some 8 := by kernel_rfl
theorem tz72 : tzero Try.prog 72 = Option.some Go.Value.nilFunc := by kernel_rfl
theorem ts73 : tsize Try.prog 73 = some 1 := by kernel_rfl
theorem tb73 : tbytes Try.prog 73 = some 1 := by kernel_rfl
theorem tz73 : tzero Try.prog 73 = Option.some (Go.Value.int Go.IntKind.u8 0) := by kernel_rfl
theorem ts74 : tsize Try.prog 74 = some 1 := by kernel_rfl
theorem tb74 : tbytes Try.prog 74 = some 8 := by kernel_rfl
theorem tz74 : tzero Try.prog 74 = Option.some Go.Value.nilFunc := by kernel_rfl
theorem ts75 : tsize Try.prog 75 = some 27 := by kernel_rfl
theorem tb75 : tbytes Try.prog 75 = some 320 := by kernel_rfl
theorem tz75 : tzero Try.prog 75 = Option.some
      (Go.Value.agg
        #[Go.Value.int Go.IntKind.i64 0, Go.Value.slice Option.none 0 0, Go.Value.int Go.IntKind.u8 0,
          Go.Value.int Go.IntKind.i64 0, Go.Value.int Go.IntKind.i64 0, Go.Value.int Go.IntKind.u8 0,
          Go.Value.int Go.IntKind.u16 0, Go.Value.int Go.IntKind.u16 0, Go.Value.int Go.IntKind.i64 0,
          Go.Value.slice Option.none 0 0, Go.Value.slice Option.none 0 0, Go.Value.int Go.IntKind.i64 0,
          Go.Value.int Go.IntKind.i64 0, Go.Value.int Go.IntKind.u8 0, Go.Value.int Go.IntKind.u16 0,
          Go.Value.int Go.IntKind.u16 0, Go.Value.int Go.IntKind.i64 0, Go.Value.slice Option.none 0 0,
          Go.Value.slice Option.none 0 0, Go.Value.bool Bool.false, Go.Value.slice Option.none 0 0,
          Go.Value.int Go.IntKind.u8 0, Go.Value.int Go.IntKind.u16 0, Go.Value.int Go.IntKind.u16 0,
          Go.Value.int Go.IntKind.i64 0, Go.Value.slice Option.none 0 0, Go.Value.slice Option.none 0 0]) := by kernel_rfl
theorem ts76 : tsize Try.prog 76 = some 27 := by kernel_rfl
theorem tb76 : tbytes Try.prog 76 = some 320 := by kernel_rfl
theorem tz76 : tzero Try.prog 76 = Option.some
      (Go.Value.agg
        #[Go.Value.int Go.IntKind.i64 0, Go.Value.slice Option.none 0 0, Go.Value.int Go.IntKind.u8 0,
          Go.Value.int Go.IntKind.i64 0, Go.Value.int Go.IntKind.i64 0, Go.Value.int Go.IntKind.u8 0,
          Go.Value.int Go.IntKind.u16 0, Go.Value.int Go.IntKind.u16 0, Go.Value.int Go.IntKind.i64 0,
          Go.Value.slice Option.none 0 0, Go.Value.slice Option.none 0 0, Go.Value.int Go.IntKind.i64 0,
          Go.Value.int Go.IntKind.i64 0, Go.Value.int Go.IntKind.u8 0, Go.Value.int Go.IntKind.u16 0,
          Go.Value.int Go.IntKind.u16 0, Go.Value.int Go.IntKind.i64 0, Go.Value.slice Option.none 0 0,
          Go.Value.slice Option.none 0 0, Go.Value.bool Bool.false, Go.Value.slice Option.none 0 0,
          Go.Value.int Go.IntKind.u8 0, Go.Value.int Go.IntKind.u16 0, Go.Value.int Go.IntKind.u16 0,
          Go.Value.int Go.IntKind.i64 0, Go.Value.slice Option.none 0 0, Go.Value.slice Option.none 0 0]) := by kernel_rfl
theorem ts77 : tsize Try.prog 77 = some 1 := by kernel_rfl
theorem tb77 : tbytes Try.prog 77 = some 8 := by kernel_rfl
theorem tz77 : tzero Try.prog 77 = Option.some Go.Value.nilFunc := by kernel_rfl
theorem ts78 : tsize Try.prog 78 = some 1 := by kernel_rfl
theorem tb78 : tbytes Try.prog 78 = some 8 := by kernel_rfl
theorem tz78 : tzero Try.prog 78 = Option.some Go.Value.nilFunc := by kernel_rfl
theorem ts79 : tsize Try.prog 79 = some 1 := by kernel_rfl
theorem tb79 : tbytes Try.prog 79 = some 8 := by kernel_rfl
theorem tz79 : tzero Try.prog 79 = Option.some Go.Value.nilFunc := by kernel_rfl
theorem ts80 : tsize Try.prog 80 = some 1 := by kernel_rfl
theorem tb80 : tbytes Try.prog 80 = some 8 := by kernel_rfl
theorem tz80 : tzero Try.prog 80 = Option.some Go.Value.nilFunc := by kernel_rfl
theorem ts81 : tsize Try.prog 81 = some 1 := by kernel_rfl
theorem tb81 : tbytes Try.prog 81 = some 8 := by kernel_rfl
theorem tz81 : tzero Try.prog 81 = Option.some Go.Value.nilFunc := by kernel_rfl
theorem ts82 : tsize Try.prog 82 = some 1 := by kernel_rfl
theorem tb82 : tbytes Try.prog 82 = some 8 := by kernel_rfl
theorem tz82 : tzero Try.prog 82 = Option.some Go.Value.nilFunc := by kernel_rfl
theorem ts83 : tsize Try.prog 83 = some 1 := by kernel_rfl
theorem tb83 : tbytes Try.prog 83 = some 8 := by kernel_rfl
theorem tz83 : tzero Try.prog 83 = Option.some Go.Value.nilFunc := by kernel_rfl
theorem ts84 : tsize Try.prog 84 = some 1 := by kernel_rfl
theorem tb84 : tbytes Try.prog 84 = some 8 := by kernel_rfl
theorem tz84 : tzero Try.prog 84 = Option.some Go.Value.nilFunc := by kernel_rfl
theorem ts85 : tsize Try.prog 85 = some 4 := by kernel_rfl
theorem tb85 : tbytes Try.prog 85 = some 40 := by kernel_rfl
theorem tz85 : tzero Try.prog 85 = Option.some
      (Go.Value.agg
        #[Go.Value.pointer Option.none, Go.Value.pointer Option.none, Go.Value.pointer Option.none,
          Go.Value.string { data := #[] }]) := by kernel_rfl
theorem ts86 : tsize Try.prog 86 = some 4 := by kernel_rfl
theorem tb86 : tbytes Try.prog 86 = some 40 := by kernel_rfl
theorem tz86 : tzero Try.prog 86 = Option.some
      (Go.Value.agg
        #[Go.Value.pointer Option.none, Go.Value.pointer Option.none, Go.Value.pointer Option.none,
          Go.Value.string { data := #[] }]) := by kernel_rfl
theorem ts87 : tsize Try.prog 87 = some 0 := by kernel_rfl
theorem tb87 : tbytes Try.prog 87 = some 0 := by kernel_rfl
theorem tz87 : tzero Try.prog 87 = Option.some (Go.Value.agg #[]) := by kernel_rfl
theorem ts88 : tsize Try.prog 88 = some 0 := by kernel_rfl
theorem tb88 : tbytes Try.prog 88 = some 0 := by kernel_rfl
theorem tz88 : tzero Try.prog 88 = Option.some (Go.Value.agg #[]) := by kernel_rfl
theorem ts89 : tsize Try.prog 89 = some 0 := by kernel_rfl
theorem tb89 : tbytes Try.prog 89 = some 0 := by kernel_rfl
theorem tz89 : tzero Try.prog 89 = Option.some (Go.Value.agg #[]) := by kernel_rfl
theorem ts90 : tsize Try.prog 90 = some 1 := by kernel_rfl
theorem tb90 : tbytes Try.prog 90 = some 8 := by kernel_rfl
theorem tz90 : tzero Try.prog 90 = Option.some Go.Value.nilFunc := by kernel_rfl
theorem ts91 : tsize Try.prog 91 = some 1 := by kernel_rfl
theorem tb91 : tbytes Try.prog 91 = some 4 := by kernel_rfl
theorem tz91 : tzero Try.prog 91 = Option.some (Go.Value.int Go.IntKind.u32 0) := by kernel_rfl
theorem ts92 : tsize Try.prog 92 = some 1 := by kernel_rfl
theorem tb92 : tbytes Try.prog 92 = some 1 := by kernel_rfl
theorem tz92 : tzero Try.prog 92 = Option.some (Go.Value.int Go.IntKind.u8 0) := by kernel_rfl
theorem ts93 : tsize Try.prog 93 = some 1 := by kernel_rfl
theorem tb93 : tbytes Try.prog 93 = some 1 := by kernel_rfl
theorem tz93 : tzero Try.prog 93 = Option.some (Go.Value.int Go.IntKind.u8 0) := by kernel_rfl
theorem ts94 : tsize Try.prog 94 = some 1 := by kernel_rfl
theorem tb94 : tbytes Try.prog 94 = some 8 := by kernel_rfl
theorem tz94 : tzero Try.prog 94 = Option.some Go.Value.nilFunc := by kernel_rfl
theorem ts95 : tsize Try.prog 95 = some 1 := by kernel_rfl
theorem tb95 : tbytes Try.prog 95 = some 8 := by kernel_rfl
theorem tz95 : tzero Try.prog 95 = Option.some (Go.Value.pointer Option.none) := by kernel_rfl
theorem ts96 : tsize Try.prog 96 = some 1 := by kernel_rfl
theorem tb96 : tbytes Try.prog 96 = some 4 := by kernel_rfl
theorem tz96 : tzero Try.prog 96 = Option.some (Go.Value.int Go.IntKind.i32 0) := by kernel_rfl
theorem ts97 : tsize Try.prog 97 = some 1 := by kernel_rfl
theorem tb97 : tbytes Try.prog 97 = some 4 := by kernel_rfl
theorem tz97 : tzero Try.prog 97 = Option.some (Go.Value.int Go.IntKind.i32 0) := by kernel_rfl
theorem ts98 : tsize Try.prog 98 = some 11 := by kernel_rfl
theorem tb98 : tbytes Try.prog 98 = some 48 := by kernel_rfl
theorem tz98 : tzero Try.prog 98 = Option.some
      (Go.Value.agg
        #[Go.Value.int Go.IntKind.u64 0, Go.Value.int Go.IntKind.u64 0, Go.Value.int Go.IntKind.u32 0,
          Go.Value.int Go.IntKind.u8 0, Go.Value.int Go.IntKind.u8 0, Go.Value.int Go.IntKind.u8 0,
          Go.Value.int Go.IntKind.u8 0, Go.Value.nilFunc, Go.Value.pointer Option.none, Go.Value.int Go.IntKind.i32 0,
          Go.Value.int Go.IntKind.i32 0]) := by kernel_rfl
theorem ts99 : tsize Try.prog 99 = some 11 := by kernel_rfl
theorem tb99 : tbytes Try.prog 99 = some 48 := by kernel_rfl
theorem tz99 : tzero Try.prog 99 = Option.some
      (Go.Value.agg
        #[Go.Value.int Go.IntKind.u64 0, Go.Value.int Go.IntKind.u64 0, Go.Value.int Go.IntKind.u32 0,
          Go.Value.int Go.IntKind.u8 0, Go.Value.int Go.IntKind.u8 0, Go.Value.int Go.IntKind.u8 0,
          Go.Value.int Go.IntKind.u8 0, Go.Value.nilFunc, Go.Value.pointer Option.none, Go.Value.int Go.IntKind.i32 0,
          Go.Value.int Go.IntKind.i32 0]) := by kernel_rfl
theorem ts100 : tsize Try.prog 100 = some 1 := by kernel_rfl
theorem tb100 : tbytes Try.prog 100 = some 8 := by kernel_rfl
theorem tz100 : tzero Try.prog 100 = Option.some Go.Value.nilFunc := by kernel_rfl
theorem ts101 : tsize Try.prog 101 = some 1 := by kernel_rfl
theorem tb101 : tbytes Try.prog 101 = some 8 := by kernel_rfl
theorem tz101 : tzero Try.prog 101 = Option.some Go.Value.nilFunc := by kernel_rfl
theorem ts102 : tsize Try.prog 102 = some 1 := by kernel_rfl
theorem tb102 : tbytes Try.prog 102 = some 8 := by kernel_rfl
theorem tz102 : tzero Try.prog 102 = Option.some (Go.Value.pointer Option.none) := by kernel_rfl
theorem ts103 : tsize Try.prog 103 = some 1 := by kernel_rfl
theorem tb103 : tbytes Try.prog 103 = some 8 := by kernel_rfl
theorem tz103 : tzero Try.prog 103 = Option.some (Go.Value.int Go.IntKind.i64 0) := by kernel_rfl
theorem al1 (m : Mem) : opAlloc Try.prog 1 m = some (.pointer (some ⟨m.next, 0, none⟩), m.new (.cells [Go.Value.nilFunc] 1 true)) := by kernel_rfl
theorem al2 (m : Mem) : opAlloc Try.prog 2 m = some (.pointer (some ⟨m.next, 0, none⟩), m.new (.cells [(Go.Value.int Go.IntKind.i64 0)] 2 true)) := by kernel_rfl
theorem al3 (m : Mem) : opAlloc Try.prog 3 m = some (.pointer (some ⟨m.next, 0, none⟩), m.new (.cells [(Go.Value.int Go.IntKind.i64 0)] 3 true)) := by kernel_rfl
theorem al4 (m : Mem) : opAlloc Try.prog 4 m = some (.pointer (some ⟨m.next, 0, none⟩), m.new (.cells [(Go.Value.bool Bool.false)] 4 true)) := by kernel_rfl
theorem al5 (m : Mem) : opAlloc Try.prog 5 m = some (.pointer (some ⟨m.next, 0, none⟩), m.new (.cells [(Go.Value.int Go.IntKind.u8 0)] 5 true)) := by kernel_rfl
theorem al6 (m : Mem) : opAlloc Try.prog 6 m = some (.pointer (some ⟨m.next, 0, none⟩), m.new (.cells [(Go.Value.int Go.IntKind.u8 0)] 6 true)) := by kernel_rfl
theorem al7 (m : Mem) : opAlloc Try.prog 7 m = some (.pointer (some ⟨m.next, 0, none⟩), m.new (.cells [Go.Value.int Go.IntKind.i64 0, Go.Value.int Go.IntKind.i64 0, Go.Value.bool Bool.false, Go.Value.int Go.IntKind.u8 0] 7 true)) := by kernel_rfl
theorem bz7 : opBuild Try.prog 7 [] = some (Go.Value.agg #[Go.Value.int Go.IntKind.i64 0, Go.Value.int Go.IntKind.i64 0, Go.Value.bool Bool.false, Go.Value.int Go.IntKind.u8 0]) := by kernel_rfl
theorem fa7_0 (i off : Nat) : opFieldAddr Try.prog 7 (.pointer (some ⟨i, off, none⟩)) 0 = some (.pointer (some ⟨i, off + 0, none⟩)) := by kernel_rfl
theorem fa7_1 (i off : Nat) : opFieldAddr Try.prog 7 (.pointer (some ⟨i, off, none⟩)) 1 = some (.pointer (some ⟨i, off + 1, none⟩)) := by kernel_rfl
theorem fa7_2 (i off : Nat) : opFieldAddr Try.prog 7 (.pointer (some ⟨i, off, none⟩)) 2 = some (.pointer (some ⟨i, off + 2, none⟩)) := by kernel_rfl
theorem fa7_3 (i off : Nat) : opFieldAddr Try.prog 7 (.pointer (some ⟨i, off, none⟩)) 3 = some (.pointer (some ⟨i, off + 3, none⟩)) := by kernel_rfl
theorem al8 (m : Mem) : opAlloc Try.prog 8 m = some (.pointer (some ⟨m.next, 0, none⟩), m.new (.cells [Go.Value.int Go.IntKind.i64 0, Go.Value.int Go.IntKind.i64 0, Go.Value.bool Bool.false, Go.Value.int Go.IntKind.u8 0] 8 true)) := by kernel_rfl
theorem bz8 : opBuild Try.prog 8 [] = some (Go.Value.agg #[Go.Value.int Go.IntKind.i64 0, Go.Value.int Go.IntKind.i64 0, Go.Value.bool Bool.false, Go.Value.int Go.IntKind.u8 0]) := by kernel_rfl
theorem fa8_0 (i off : Nat) : opFieldAddr Try.prog 8 (.pointer (some ⟨i, off, none⟩)) 0 = some (.pointer (some ⟨i, off + 0, none⟩)) := by kernel_rfl
theorem fa8_1 (i off : Nat) : opFieldAddr Try.prog 8 (.pointer (some ⟨i, off, none⟩)) 1 = some (.pointer (some ⟨i, off + 1, none⟩)) := by kernel_rfl
theorem fa8_2 (i off : Nat) : opFieldAddr Try.prog 8 (.pointer (some ⟨i, off, none⟩)) 2 = some (.pointer (some ⟨i, off + 2, none⟩)) := by kernel_rfl
theorem fa8_3 (i off : Nat) : opFieldAddr Try.prog 8 (.pointer (some ⟨i, off, none⟩)) 3 = some (.pointer (some ⟨i, off + 3, none⟩)) := by kernel_rfl
theorem al9 (m : Mem) : opAlloc Try.prog 9 m = some (.pointer (some ⟨m.next, 0, none⟩), m.new (.cells [(Go.Value.string { data := #[] })] 9 true)) := by kernel_rfl
theorem al10 (m : Mem) : opAlloc Try.prog 10 m = some (.pointer (some ⟨m.next, 0, none⟩), m.new (.cells [(Go.Value.string { data := #[] })] 10 true)) := by kernel_rfl
theorem al11 (m : Mem) : opAlloc Try.prog 11 m = some (.pointer (some ⟨m.next, 0, none⟩), m.new (.cells [(Go.Value.string { data := #[] })] 11 true)) := by kernel_rfl
theorem al12 (m : Mem) : opAlloc Try.prog 12 m = some (.pointer (some ⟨m.next, 0, none⟩), m.new (.cells [(Go.Value.int Go.IntKind.u64 0)] 12 true)) := by kernel_rfl
theorem al13 (m : Mem) : opAlloc Try.prog 13 m = some (.pointer (some ⟨m.next, 0, none⟩), m.new (.cells [Go.Value.string { data := #[] }, Go.Value.int Go.IntKind.u64 0] 13 true)) := by kernel_rfl
theorem bz13 : opBuild Try.prog 13 [] = some (Go.Value.agg #[Go.Value.string { data := #[] }, Go.Value.int Go.IntKind.u64 0]) := by kernel_rfl
theorem fa13_0 (i off : Nat) : opFieldAddr Try.prog 13 (.pointer (some ⟨i, off, none⟩)) 0 = some (.pointer (some ⟨i, off + 0, none⟩)) := by kernel_rfl
theorem fa13_1 (i off : Nat) : opFieldAddr Try.prog 13 (.pointer (some ⟨i, off, none⟩)) 1 = some (.pointer (some ⟨i, off + 1, none⟩)) := by kernel_rfl
theorem al14 (m : Mem) : opAlloc Try.prog 14 m = some (.pointer (some ⟨m.next, 0, none⟩), m.new (.cells [Go.Value.string { data := #[] }, Go.Value.int Go.IntKind.u64 0] 14 true)) := by kernel_rfl
theorem bz14 : opBuild Try.prog 14 [] = some (Go.Value.agg #[Go.Value.string { data := #[] }, Go.Value.int Go.IntKind.u64 0]) := by kernel_rfl
theorem fa14_0 (i off : Nat) : opFieldAddr Try.prog 14 (.pointer (some ⟨i, off, none⟩)) 0 = some (.pointer (some ⟨i, off + 0, none⟩)) := by kernel_rfl
theorem fa14_1 (i off : Nat) : opFieldAddr Try.prog 14 (.pointer (some ⟨i, off, none⟩)) 1 = some (.pointer (some ⟨i, off + 1, none⟩)) := by kernel_rfl
theorem al15 (m : Mem) : opAlloc Try.prog 15 m = some (.pointer (some ⟨m.next, 0, none⟩), m.new (.cells [(Go.Value.pointer Option.none)] 15 true)) := by kernel_rfl
theorem al16 (m : Mem) : opAlloc Try.prog 16 m = some (.pointer (some ⟨m.next, 0, none⟩), m.new (.cells [(Go.Value.pointer Option.none)] 16 true)) := by kernel_rfl
theorem al17 (m : Mem) : opAlloc Try.prog 17 m = some (.pointer (some ⟨m.next, 0, none⟩), m.new (.cells [(Go.Value.pointer Option.none)] 17 true)) := by kernel_rfl
theorem al18 (m : Mem) : opAlloc Try.prog 18 m = some (.pointer (some ⟨m.next, 0, none⟩), m.new (.cells [Go.Value.pointer Option.none] 18 true)) := by kernel_rfl
theorem bz18 : opBuild Try.prog 18 [] = some (Go.Value.agg #[Go.Value.pointer Option.none]) := by kernel_rfl
theorem fa18_0 (i off : Nat) : opFieldAddr Try.prog 18 (.pointer (some ⟨i, off, none⟩)) 0 = some (.pointer (some ⟨i, off + 0, none⟩)) := by kernel_rfl
theorem al19 (m : Mem) : opAlloc Try.prog 19 m = some (.pointer (some ⟨m.next, 0, none⟩), m.new (.cells [Go.Value.pointer Option.none] 19 true)) := by kernel_rfl
theorem bz19 : opBuild Try.prog 19 [] = some (Go.Value.agg #[Go.Value.pointer Option.none]) := by kernel_rfl
theorem fa19_0 (i off : Nat) : opFieldAddr Try.prog 19 (.pointer (some ⟨i, off, none⟩)) 0 = some (.pointer (some ⟨i, off + 0, none⟩)) := by kernel_rfl
theorem al20 (m : Mem) : opAlloc Try.prog 20 m = some (.pointer (some ⟨m.next, 0, none⟩), m.new (.cells [Go.Value.nilIface] 20 true)) := by kernel_rfl
theorem al21 (m : Mem) : opAlloc Try.prog 21 m = some (.pointer (some ⟨m.next, 0, none⟩), m.new (.cells [(Go.Value.int Go.IntKind.i32 0)] 21 true)) := by kernel_rfl
theorem al22 (m : Mem) : opAlloc Try.prog 22 m = some (.pointer (some ⟨m.next, 0, none⟩), m.new (.cells [(Go.Value.int Go.IntKind.u16 0)] 22 true)) := by kernel_rfl
theorem al23 (m : Mem) : opAlloc Try.prog 23 m = some (.pointer (some ⟨m.next, 0, none⟩), m.new (.cells [(Go.Value.slice Option.none 0 0)] 23 true)) := by kernel_rfl
theorem al24 (m : Mem) : opAlloc Try.prog 24 m = some (.pointer (some ⟨m.next, 0, none⟩), m.new (.cells [(Go.Value.slice Option.none 0 0)] 24 true)) := by kernel_rfl
theorem al25 (m : Mem) : opAlloc Try.prog 25 m = some (.pointer (some ⟨m.next, 0, none⟩), m.new (.cells [Go.Value.int Go.IntKind.u16 0, Go.Value.int Go.IntKind.u16 0, Go.Value.int Go.IntKind.u16 0, Go.Value.slice Option.none 0 0] 25 true)) := by kernel_rfl
theorem bz25 : opBuild Try.prog 25 [] = some (Go.Value.agg #[Go.Value.int Go.IntKind.u16 0, Go.Value.int Go.IntKind.u16 0, Go.Value.int Go.IntKind.u16 0, Go.Value.slice Option.none 0 0]) := by kernel_rfl
theorem fa25_0 (i off : Nat) : opFieldAddr Try.prog 25 (.pointer (some ⟨i, off, none⟩)) 0 = some (.pointer (some ⟨i, off + 0, none⟩)) := by kernel_rfl
theorem fa25_1 (i off : Nat) : opFieldAddr Try.prog 25 (.pointer (some ⟨i, off, none⟩)) 1 = some (.pointer (some ⟨i, off + 1, none⟩)) := by kernel_rfl
theorem fa25_2 (i off : Nat) : opFieldAddr Try.prog 25 (.pointer (some ⟨i, off, none⟩)) 2 = some (.pointer (some ⟨i, off + 2, none⟩)) := by kernel_rfl
theorem fa25_3 (i off : Nat) : opFieldAddr Try.prog 25 (.pointer (some ⟨i, off, none⟩)) 3 = some (.pointer (some ⟨i, off + 3, none⟩)) := by kernel_rfl
theorem al26 (m : Mem) : opAlloc Try.prog 26 m = some (.pointer (some ⟨m.next, 0, none⟩), m.new (.cells [Go.Value.int Go.IntKind.u16 0, Go.Value.int Go.IntKind.u16 0, Go.Value.int Go.IntKind.u16 0, Go.Value.slice Option.none 0 0] 26 true)) := by kernel_rfl
theorem bz26 : opBuild Try.prog 26 [] = some (Go.Value.agg #[Go.Value.int Go.IntKind.u16 0, Go.Value.int Go.IntKind.u16 0, Go.Value.int Go.IntKind.u16 0, Go.Value.slice Option.none 0 0]) := by kernel_rfl
theorem fa26_0 (i off : Nat) : opFieldAddr Try.prog 26 (.pointer (some ⟨i, off, none⟩)) 0 = some (.pointer (some ⟨i, off + 0, none⟩)) := by kernel_rfl
theorem fa26_1 (i off : Nat) : opFieldAddr Try.prog 26 (.pointer (some ⟨i, off, none⟩)) 1 = some (.pointer (some ⟨i, off + 1, none⟩)) := by kernel_rfl
theorem fa26_2 (i off : Nat) : opFieldAddr Try.prog 26 (.pointer (some ⟨i, off, none⟩)) 2 = some (.pointer (some ⟨i, off + 2, none⟩)) := by kernel_rfl
theorem fa26_3 (i off : Nat) : opFieldAddr Try.prog 26 (.pointer (some ⟨i, off, none⟩)) 3 = some (.pointer (some ⟨i, off + 3, none⟩)) := by kernel_rfl
theorem al27 (m : Mem) : opAlloc Try.prog 27 m = some (.pointer (some ⟨m.next, 0, none⟩), m.new (.cells [Go.Value.int Go.IntKind.u8 0, Go.Value.int Go.IntKind.u16 0, Go.Value.int Go.IntKind.u16 0, Go.Value.int Go.IntKind.u16 0, Go.Value.slice Option.none 0 0, Go.Value.int Go.IntKind.u16 0] 27 true)) := by kernel_rfl
theorem bz27 : opBuild Try.prog 27 [] = some (Go.Value.agg #[Go.Value.int Go.IntKind.u8 0, Go.Value.int Go.IntKind.u16 0, Go.Value.int Go.IntKind.u16 0, Go.Value.int Go.IntKind.u16 0, Go.Value.slice Option.none 0 0, Go.Value.int Go.IntKind.u16 0]) := by kernel_rfl
theorem fa27_0 (i off : Nat) : opFieldAddr Try.prog 27 (.pointer (some ⟨i, off, none⟩)) 0 = some (.pointer (some ⟨i, off + 0, none⟩)) := by kernel_rfl
theorem fa27_1 (i off : Nat) : opFieldAddr Try.prog 27 (.pointer (some ⟨i, off, none⟩)) 1 = some (.pointer (some ⟨i, off + 1, none⟩)) := by kernel_rfl
theorem fa27_2 (i off : Nat) : opFieldAddr Try.prog 27 (.pointer (some ⟨i, off, none⟩)) 2 = some (.pointer (some ⟨i, off + 5, none⟩)) := by kernel_rfl
theorem al28 (m : Mem) : opAlloc Try.prog 28 m = some (.pointer (some ⟨m.next, 0, none⟩), m.new (.cells [Go.Value.int Go.IntKind.u8 0, Go.Value.int Go.IntKind.u16 0, Go.Value.int Go.IntKind.u16 0, Go.Value.int Go.IntKind.u16 0, Go.Value.slice Option.none 0 0, Go.Value.int Go.IntKind.u16 0] 28 true)) := by kernel_rfl
theorem bz28 : opBuild Try.prog 28 [] = some (Go.Value.agg #[Go.Value.int Go.IntKind.u8 0, Go.Value.int Go.IntKind.u16 0, Go.Value.int Go.IntKind.u16 0, Go.Value.int Go.IntKind.u16 0, Go.Value.slice Option.none 0 0, Go.Value.int Go.IntKind.u16 0]) := by kernel_rfl
theorem fa28_0 (i off : Nat) : opFieldAddr Try.prog 28 (.pointer (some ⟨i, off, none⟩)) 0 = some (.pointer (some ⟨i, off + 0, none⟩)) := by kernel_rfl
theorem fa28_1 (i off : Nat) : opFieldAddr Try.prog 28 (.pointer (some ⟨i, off, none⟩)) 1 = some (.pointer (some ⟨i, off + 1, none⟩)) := by kernel_rfl
theorem fa28_2 (i off : Nat) : opFieldAddr Try.prog 28 (.pointer (some ⟨i, off, none⟩)) 2 = some (.pointer (some ⟨i, off + 5, none⟩)) := by kernel_rfl
theorem al29 (m : Mem) : opAlloc Try.prog 29 m = some (.pointer (some ⟨m.next, 0, none⟩), m.new (.cells [Go.Value.nilFunc] 29 true)) := by kernel_rfl
theorem al30 (m : Mem) : opAlloc Try.prog 30 m = some (.pointer (some ⟨m.next, 0, none⟩), m.new (.cells [(Go.Value.slice Option.none 0 0)] 30 true)) := by kernel_rfl
theorem al31 (m : Mem) : opAlloc Try.prog 31 m = some (.pointer (some ⟨m.next, 0, none⟩), m.new (.cells [Go.Value.nilFunc] 31 true)) := by kernel_rfl
theorem al32 (m : Mem) : opAlloc Try.prog 32 m = some (.pointer (some ⟨m.next, 0, none⟩), m.new (.cells [Go.Value.int Go.IntKind.i64 0, Go.Value.slice Option.none 0 0] 32 true)) := by kernel_rfl
theorem bz32 : opBuild Try.prog 32 [] = some (Go.Value.agg #[Go.Value.int Go.IntKind.i64 0, Go.Value.slice Option.none 0 0]) := by kernel_rfl
theorem fa32_0 (i off : Nat) : opFieldAddr Try.prog 32 (.pointer (some ⟨i, off, none⟩)) 0 = some (.pointer (some ⟨i, off + 0, none⟩)) := by kernel_rfl
theorem fa32_1 (i off : Nat) : opFieldAddr Try.prog 32 (.pointer (some ⟨i, off, none⟩)) 1 = some (.pointer (some ⟨i, off + 1, none⟩)) := by kernel_rfl
theorem al33 (m : Mem) : opAlloc Try.prog 33 m = some (.pointer (some ⟨m.next, 0, none⟩), m.new (.cells [Go.Value.int Go.IntKind.i64 0, Go.Value.slice Option.none 0 0] 33 true)) := by kernel_rfl
theorem bz33 : opBuild Try.prog 33 [] = some (Go.Value.agg #[Go.Value.int Go.IntKind.i64 0, Go.Value.slice Option.none 0 0]) := by kernel_rfl
theorem fa33_0 (i off : Nat) : opFieldAddr Try.prog 33 (.pointer (some ⟨i, off, none⟩)) 0 = some (.pointer (some ⟨i, off + 0, none⟩)) := by kernel_rfl
theorem fa33_1 (i off : Nat) : opFieldAddr Try.prog 33 (.pointer (some ⟨i, off, none⟩)) 1 = some (.pointer (some ⟨i, off + 1, none⟩)) := by kernel_rfl
theorem al34 (m : Mem) : opAlloc Try.prog 34 m = some (.pointer (some ⟨m.next, 0, none⟩), m.new (.cells [(Go.Value.pointer Option.none)] 34 true)) := by kernel_rfl
theorem al35 (m : Mem) : opAlloc Try.prog 35 m = some (.pointer (some ⟨m.next, 0, none⟩), m.new (.cells [Go.Value.nilFunc] 35 true)) := by kernel_rfl
theorem al36 (m : Mem) : opAlloc Try.prog 36 m = some (.pointer (some ⟨m.next, 0, none⟩), m.new (.cells [Go.Value.int Go.IntKind.i64 0, Go.Value.int Go.IntKind.i64 0] 36 true)) := by kernel_rfl
theorem bz36 : opBuild Try.prog 36 [] = some (Go.Value.agg #[Go.Value.int Go.IntKind.i64 0, Go.Value.int Go.IntKind.i64 0]) := by kernel_rfl
theorem fa36_0 (i off : Nat) : opFieldAddr Try.prog 36 (.pointer (some ⟨i, off, none⟩)) 0 = some (.pointer (some ⟨i, off + 0, none⟩)) := by kernel_rfl
theorem fa36_1 (i off : Nat) : opFieldAddr Try.prog 36 (.pointer (some ⟨i, off, none⟩)) 1 = some (.pointer (some ⟨i, off + 1, none⟩)) := by kernel_rfl
theorem al37 (m : Mem) : opAlloc Try.prog 37 m = some (.pointer (some ⟨m.next, 0, none⟩), m.new (.cells [Go.Value.int Go.IntKind.i64 0, Go.Value.int Go.IntKind.i64 0] 37 true)) := by kernel_rfl
theorem bz37 : opBuild Try.prog 37 [] = some (Go.Value.agg #[Go.Value.int Go.IntKind.i64 0, Go.Value.int Go.IntKind.i64 0]) := by kernel_rfl
theorem fa37_0 (i off : Nat) : opFieldAddr Try.prog 37 (.pointer (some ⟨i, off, none⟩)) 0 = some (.pointer (some ⟨i, off + 0, none⟩)) := by kernel_rfl
theorem fa37_1 (i off : Nat) : opFieldAddr Try.prog 37 (.pointer (some ⟨i, off, none⟩)) 1 = some (.pointer (some ⟨i, off + 1, none⟩)) := by kernel_rfl
theorem al38 (m : Mem) : opAlloc Try.prog 38 m = some (.pointer (some ⟨m.next, 0, none⟩), m.new (.cells [Go.Value.nilFunc] 38 true)) := by kernel_rfl
theorem al39 (m : Mem) : opAlloc Try.prog 39 m = some (.pointer (some ⟨m.next, 0, none⟩), m.new (.cells [(Go.Value.int Go.IntKind.u8 0)] 39 true)) := by kernel_rfl
theorem al40 (m : Mem) : opAlloc Try.prog 40 m = some (.pointer (some ⟨m.next, 0, none⟩), m.new (.cells [Go.Value.int Go.IntKind.u16 0, Go.Value.int Go.IntKind.u16 0] 40 true)) := by kernel_rfl
theorem bz40 : opBuild Try.prog 40 [] = some (Go.Value.agg #[Go.Value.int Go.IntKind.u16 0, Go.Value.int Go.IntKind.u16 0]) := by kernel_rfl
theorem fa40_0 (i off : Nat) : opFieldAddr Try.prog 40 (.pointer (some ⟨i, off, none⟩)) 0 = some (.pointer (some ⟨i, off + 0, none⟩)) := by kernel_rfl
theorem fa40_1 (i off : Nat) : opFieldAddr Try.prog 40 (.pointer (some ⟨i, off, none⟩)) 1 = some (.pointer (some ⟨i, off + 1, none⟩)) := by kernel_rfl
theorem al41 (m : Mem) : opAlloc Try.prog 41 m = some (.pointer (some ⟨m.next, 0, none⟩), m.new (.cells [Go.Value.int Go.IntKind.u16 0, Go.Value.int Go.IntKind.u16 0] 41 true)) := by kernel_rfl
theorem bz41 : opBuild Try.prog 41 [] = some (Go.Value.agg #[Go.Value.int Go.IntKind.u16 0, Go.Value.int Go.IntKind.u16 0]) := by kernel_rfl
theorem fa41_0 (i off : Nat) : opFieldAddr Try.prog 41 (.pointer (some ⟨i, off, none⟩)) 0 = some (.pointer (some ⟨i, off + 0, none⟩)) := by kernel_rfl
theorem fa41_1 (i off : Nat) : opFieldAddr Try.prog 41 (.pointer (some ⟨i, off, none⟩)) 1 = some (.pointer (some ⟨i, off + 1, none⟩)) := by kernel_rfl
theorem al42 (m : Mem) : opAlloc Try.prog 42 m = some (.pointer (some ⟨m.next, 0, none⟩), m.new (.cells [Go.Value.int Go.IntKind.u16 0, Go.Value.int Go.IntKind.u16 0, Go.Value.int Go.IntKind.i64 0, Go.Value.slice Option.none 0 0] 42 true)) := by kernel_rfl
theorem bz42 : opBuild Try.prog 42 [] = some (Go.Value.agg #[Go.Value.int Go.IntKind.u16 0, Go.Value.int Go.IntKind.u16 0, Go.Value.int Go.IntKind.i64 0, Go.Value.slice Option.none 0 0]) := by kernel_rfl
theorem fa42_0 (i off : Nat) : opFieldAddr Try.prog 42 (.pointer (some ⟨i, off, none⟩)) 0 = some (.pointer (some ⟨i, off + 0, none⟩)) := by kernel_rfl
theorem fa42_1 (i off : Nat) : opFieldAddr Try.prog 42 (.pointer (some ⟨i, off, none⟩)) 1 = some (.pointer (some ⟨i, off + 2, none⟩)) := by kernel_rfl
theorem fa42_2 (i off : Nat) : opFieldAddr Try.prog 42 (.pointer (some ⟨i, off, none⟩)) 2 = some (.pointer (some ⟨i, off + 3, none⟩)) := by kernel_rfl
theorem al43 (m : Mem) : opAlloc Try.prog 43 m = some (.pointer (some ⟨m.next, 0, none⟩), m.new (.cells [Go.Value.int Go.IntKind.u16 0, Go.Value.int Go.IntKind.u16 0, Go.Value.int Go.IntKind.i64 0, Go.Value.slice Option.none 0 0] 43 true)) := by kernel_rfl
theorem bz43 : opBuild Try.prog 43 [] = some (Go.Value.agg #[Go.Value.int Go.IntKind.u16 0, Go.Value.int Go.IntKind.u16 0, Go.Value.int Go.IntKind.i64 0, Go.Value.slice Option.none 0 0]) := by kernel_rfl
theorem fa43_0 (i off : Nat) : opFieldAddr Try.prog 43 (.pointer (some ⟨i, off, none⟩)) 0 = some (.pointer (some ⟨i, off + 0, none⟩)) := by kernel_rfl
theorem fa43_1 (i off : Nat) : opFieldAddr Try.prog 43 (.pointer (some ⟨i, off, none⟩)) 1 = some (.pointer (some ⟨i, off + 2, none⟩)) := by kernel_rfl
theorem fa43_2 (i off : Nat) : opFieldAddr Try.prog 43 (.pointer (some ⟨i, off, none⟩)) 2 = some (.pointer (some ⟨i, off + 3, none⟩)) := by kernel_rfl
theorem al44 (m : Mem) : opAlloc Try.prog 44 m = some (.pointer (some ⟨m.next, 0, none⟩), m.new (.cells [Go.Value.int Go.IntKind.u8 0, Go.Value.int Go.IntKind.u16 0, Go.Value.int Go.IntKind.u16 0, Go.Value.int Go.IntKind.i64 0, Go.Value.slice Option.none 0 0, Go.Value.slice Option.none 0 0] 44 true)) := by kernel_rfl
theorem bz44 : opBuild Try.prog 44 [] = some (Go.Value.agg #[Go.Value.int Go.IntKind.u8 0, Go.Value.int Go.IntKind.u16 0, Go.Value.int Go.IntKind.u16 0, Go.Value.int Go.IntKind.i64 0, Go.Value.slice Option.none 0 0, Go.Value.slice Option.none 0 0]) := by kernel_rfl
theorem fa44_0 (i off : Nat) : opFieldAddr Try.prog 44 (.pointer (some ⟨i, off, none⟩)) 0 = some (.pointer (some ⟨i, off + 0, none⟩)) := by kernel_rfl
theorem fa44_1 (i off : Nat) : opFieldAddr Try.prog 44 (.pointer (some ⟨i, off, none⟩)) 1 = some (.pointer (some ⟨i, off + 1, none⟩)) := by kernel_rfl
theorem fa44_2 (i off : Nat) : opFieldAddr Try.prog 44 (.pointer (some ⟨i, off, none⟩)) 2 = some (.pointer (some ⟨i, off + 5, none⟩)) := by kernel_rfl
theorem al45 (m : Mem) : opAlloc Try.prog 45 m = some (.pointer (some ⟨m.next, 0, none⟩), m.new (.cells [Go.Value.int Go.IntKind.u8 0, Go.Value.int Go.IntKind.u16 0, Go.Value.int Go.IntKind.u16 0, Go.Value.int Go.IntKind.i64 0, Go.Value.slice Option.none 0 0, Go.Value.slice Option.none 0 0] 45 true)) := by kernel_rfl
theorem bz45 : opBuild Try.prog 45 [] = some (Go.Value.agg #[Go.Value.int Go.IntKind.u8 0, Go.Value.int Go.IntKind.u16 0, Go.Value.int Go.IntKind.u16 0, Go.Value.int Go.IntKind.i64 0, Go.Value.slice Option.none 0 0, Go.Value.slice Option.none 0 0]) := by kernel_rfl
theorem fa45_0 (i off : Nat) : opFieldAddr Try.prog 45 (.pointer (some ⟨i, off, none⟩)) 0 = some (.pointer (some ⟨i, off + 0, none⟩)) := by kernel_rfl
theorem fa45_1 (i off : Nat) : opFieldAddr Try.prog 45 (.pointer (some ⟨i, off, none⟩)) 1 = some (.pointer (some ⟨i, off + 1, none⟩)) := by kernel_rfl
theorem fa45_2 (i off : Nat) : opFieldAddr Try.prog 45 (.pointer (some ⟨i, off, none⟩)) 2 = some (.pointer (some ⟨i, off + 5, none⟩)) := by kernel_rfl
theorem al46 (m : Mem) : opAlloc Try.prog 46 m = some (.pointer (some ⟨m.next, 0, none⟩), m.new (.cells [Go.Value.nilFunc] 46 true)) := by kernel_rfl
theorem al47 (m : Mem) : opAlloc Try.prog 47 m = some (.pointer (some ⟨m.next, 0, none⟩), m.new (.cells [Go.Value.nilFunc] 47 true)) := by kernel_rfl
theorem al48 (m : Mem) : opAlloc Try.prog 48 m = some (.pointer (some ⟨m.next, 0, none⟩), m.new (.cells [Go.Value.int Go.IntKind.u8 0, Go.Value.int Go.IntKind.u8 0, Go.Value.int Go.IntKind.u8 0, Go.Value.int Go.IntKind.u8 0, Go.Value.bool Bool.false, Go.Value.int Go.IntKind.u8 0, Go.Value.int Go.IntKind.u16 0, Go.Value.int Go.IntKind.u16 0, Go.Value.int Go.IntKind.u16 0, Go.Value.slice Option.none 0 0, Go.Value.int Go.IntKind.u16 0] 48 true)) := by kernel_rfl
theorem bz48 : opBuild Try.prog 48 [] = some (Go.Value.agg #[Go.Value.int Go.IntKind.u8 0, Go.Value.int Go.IntKind.u8 0, Go.Value.int Go.IntKind.u8 0, Go.Value.int Go.IntKind.u8 0, Go.Value.bool Bool.false, Go.Value.int Go.IntKind.u8 0, Go.Value.int Go.IntKind.u16 0, Go.Value.int Go.IntKind.u16 0, Go.Value.int Go.IntKind.u16 0, Go.Value.slice Option.none 0 0, Go.Value.int Go.IntKind.u16 0]) := by kernel_rfl
theorem fa48_0 (i off : Nat) : opFieldAddr Try.prog 48 (.pointer (some ⟨i, off, none⟩)) 0 = some (.pointer (some ⟨i, off + 0, none⟩)) := by kernel_rfl
theorem fa48_1 (i off : Nat) : opFieldAddr Try.prog 48 (.pointer (some ⟨i, off, none⟩)) 1 = some (.pointer (some ⟨i, off + 1, none⟩)) := by kernel_rfl
theorem fa48_2 (i off : Nat) : opFieldAddr Try.prog 48 (.pointer (some ⟨i, off, none⟩)) 2 = some (.pointer (some ⟨i, off + 2, none⟩)) := by kernel_rfl
theorem fa48_3 (i off : Nat) : opFieldAddr Try.prog 48 (.pointer (some ⟨i, off, none⟩)) 3 = some (.pointer (some ⟨i, off + 3, none⟩)) := by kernel_rfl
theorem fa48_4 (i off : Nat) : opFieldAddr Try.prog 48 (.pointer (some ⟨i, off, none⟩)) 4 = some (.pointer (some ⟨i, off + 4, none⟩)) := by kernel_rfl
theorem fa48_5 (i off : Nat) : opFieldAddr Try.prog 48 (.pointer (some ⟨i, off, none⟩)) 5 = some (.pointer (some ⟨i, off + 5, none⟩)) := by kernel_rfl
theorem al49 (m : Mem) : opAlloc Try.prog 49 m = some (.pointer (some ⟨m.next, 0, none⟩), m.new (.cells [Go.Value.int Go.IntKind.u8 0, Go.Value.int Go.IntKind.u8 0, Go.Value.int Go.IntKind.u8 0, Go.Value.int Go.IntKind.u8 0, Go.Value.bool Bool.false, Go.Value.int Go.IntKind.u8 0, Go.Value.int Go.IntKind.u16 0, Go.Value.int Go.IntKind.u16 0, Go.Value.int Go.IntKind.u16 0, Go.Value.slice Option.none 0 0, Go.Value.int Go.IntKind.u16 0] 49 true)) := by kernel_rfl
theorem bz49 : opBuild Try.prog 49 [] = some (Go.Value.agg #[Go.Value.int Go.IntKind.u8 0, Go.Value.int Go.IntKind.u8 0, Go.Value.int Go.IntKind.u8 0, Go.Value.int Go.IntKind.u8 0, Go.Value.bool Bool.false, Go.Value.int Go.IntKind.u8 0, Go.Value.int Go.IntKind.u16 0, Go.Value.int Go.IntKind.u16 0, Go.Value.int Go.IntKind.u16 0, Go.Value.slice Option.none 0 0, Go.Value.int Go.IntKind.u16 0]) := by kernel_rfl
theorem fa49_0 (i off : Nat) : opFieldAddr Try.prog 49 (.pointer (some ⟨i, off, none⟩)) 0 = some (.pointer (some ⟨i, off + 0, none⟩)) := by kernel_rfl
theorem fa49_1 (i off : Nat) : opFieldAddr Try.prog 49 (.pointer (some ⟨i, off, none⟩)) 1 = some (.pointer (some ⟨i, off + 1, none⟩)) := by kernel_rfl
theorem fa49_2 (i off : Nat) : opFieldAddr Try.prog 49 (.pointer (some ⟨i, off, none⟩)) 2 = some (.pointer (some ⟨i, off + 2, none⟩)) := by kernel_rfl
theorem fa49_3 (i off : Nat) : opFieldAddr Try.prog 49 (.pointer (some ⟨i, off, none⟩)) 3 = some (.pointer (some ⟨i, off + 3, none⟩)) := by kernel_rfl
theorem fa49_4 (i off : Nat) : opFieldAddr Try.prog 49 (.pointer (some ⟨i, off, none⟩)) 4 = some (.pointer (some ⟨i, off + 4, none⟩)) := by kernel_rfl
theorem fa49_5 (i off : Nat) : opFieldAddr Try.prog 49 (.pointer (some ⟨i, off, none⟩)) 5 = some (.pointer (some ⟨i, off + 5, none⟩)) := by kernel_rfl
theorem al50 (m : Mem) : opAlloc Try.prog 50 m = some (.pointer (some ⟨m.next, 0, none⟩), m.new (.cells [Go.Value.nilFunc] 50 true)) := by kernel_rfl
theorem al52 (m : Mem) : opAlloc Try.prog 52 m = some (.pointer (some ⟨m.next, 0, none⟩), m.new (.cells [Go.Value.nilFunc] 52 true)) := by kernel_rfl
theorem al53 (m : Mem) : opAlloc Try.prog 53 m = some (.pointer (some ⟨m.next, 0, none⟩), m.new (.cells [Go.Value.nilFunc] 53 true)) := by kernel_rfl
theorem al54 (m : Mem) : opAlloc Try.prog 54 m = some (.pointer (some ⟨m.next, 0, none⟩), m.new (.cells [Go.Value.nilFunc] 54 true)) := by kernel_rfl
theorem al55 (m : Mem) : opAlloc Try.prog 55 m = some (.pointer (some ⟨m.next, 0, none⟩), m.new (.cells [Go.Value.int Go.IntKind.u8 0, Go.Value.int Go.IntKind.u16 0, Go.Value.int Go.IntKind.u16 0, Go.Value.int Go.IntKind.u16 0, Go.Value.slice Option.none 0 0, Go.Value.int Go.IntKind.u16 0, Go.Value.int Go.IntKind.u8 0, Go.Value.int Go.IntKind.u16 0, Go.Value.int Go.IntKind.u16 0, Go.Value.int Go.IntKind.u16 0, Go.Value.slice Option.none 0 0, Go.Value.int Go.IntKind.u16 0, Go.Value.int Go.IntKind.u8 0, Go.Value.int Go.IntKind.u16 0, Go.Value.int Go.IntKind.u16 0, Go.Value.int Go.IntKind.u16 0, Go.Value.slice Option.none 0 0, Go.Value.int Go.IntKind.u16 0, Go.Value.int Go.IntKind.u8 0, Go.Value.int Go.IntKind.u16 0, Go.Value.int Go.IntKind.u16 0, Go.Value.int Go.IntKind.u16 0, Go.Value.slice Option.none 0 0, Go.Value.int Go.IntKind.u16 0, Go.Value.int Go.IntKind.u8 0, Go.Value.int Go.IntKind.u16 0, Go.Value.int Go.IntKind.u16 0, Go.Value.int Go.IntKind.u16 0, Go.Value.slice Option.none 0 0, Go.Value.int Go.IntKind.u16 0, Go.Value.int Go.IntKind.u8 0, Go.Value.int Go.IntKind.u16 0, Go.Value.int Go.IntKind.u16 0, Go.Value.int Go.IntKind.u16 0, Go.Value.slice Option.none 0 0, Go.Value.int Go.IntKind.u16 0] 55 true)) := by kernel_rfl
theorem al56 (m : Mem) : opAlloc Try.prog 56 m = some (.pointer (some ⟨m.next, 0, none⟩), m.new (.cells [(Go.Value.slice Option.none 0 0)] 56 true)) := by kernel_rfl
theorem al57 (m : Mem) : opAlloc Try.prog 57 m = some (.pointer (some ⟨m.next, 0, none⟩), m.new (.cells [(Go.Value.pointer Option.none)] 57 true)) := by kernel_rfl
theorem al58 (m : Mem) : opAlloc Try.prog 58 m = some (.pointer (some ⟨m.next, 0, none⟩), m.new (.cells [Go.Value.pointer Option.none, Go.Value.pointer Option.none, Go.Value.pointer Option.none, Go.Value.pointer Option.none, Go.Value.pointer Option.none, Go.Value.pointer Option.none] 58 true)) := by kernel_rfl
theorem al59 (m : Mem) : opAlloc Try.prog 59 m = some (.pointer (some ⟨m.next, 0, none⟩), m.new (.cells [Go.Value.pointer Option.none, Go.Value.pointer Option.none, Go.Value.pointer Option.none, Go.Value.pointer Option.none, Go.Value.pointer Option.none, Go.Value.pointer Option.none] 59 true)) := by kernel_rfl
theorem al60 (m : Mem) : opAlloc Try.prog 60 m = some (.pointer (some ⟨m.next, 0, none⟩), m.new (.cells [Go.Value.int Go.IntKind.i64 0, Go.Value.int Go.IntKind.i64 0, Go.Value.bool Bool.false, Go.Value.int Go.IntKind.i64 0, Go.Value.int Go.IntKind.i64 0, Go.Value.int Go.IntKind.u8 0, Go.Value.int Go.IntKind.u16 0, Go.Value.int Go.IntKind.u16 0, Go.Value.int Go.IntKind.i64 0, Go.Value.slice Option.none 0 0, Go.Value.slice Option.none 0 0] 60 true)) := by kernel_rfl
theorem bz60 : opBuild Try.prog 60 [] = some (Go.Value.agg #[Go.Value.int Go.IntKind.i64 0, Go.Value.int Go.IntKind.i64 0, Go.Value.bool Bool.false, Go.Value.int Go.IntKind.i64 0, Go.Value.int Go.IntKind.i64 0, Go.Value.int Go.IntKind.u8 0, Go.Value.int Go.IntKind.u16 0, Go.Value.int Go.IntKind.u16 0, Go.Value.int Go.IntKind.i64 0, Go.Value.slice Option.none 0 0, Go.Value.slice Option.none 0 0]) := by kernel_rfl
theorem fa60_0 (i off : Nat) : opFieldAddr Try.prog 60 (.pointer (some ⟨i, off, none⟩)) 0 = some (.pointer (some ⟨i, off + 0, none⟩)) := by kernel_rfl
theorem fa60_1 (i off : Nat) : opFieldAddr Try.prog 60 (.pointer (some ⟨i, off, none⟩)) 1 = some (.pointer (some ⟨i, off + 2, none⟩)) := by kernel_rfl
theorem fa60_2 (i off : Nat) : opFieldAddr Try.prog 60 (.pointer (some ⟨i, off, none⟩)) 2 = some (.pointer (some ⟨i, off + 3, none⟩)) := by kernel_rfl
theorem fa60_3 (i off : Nat) : opFieldAddr Try.prog 60 (.pointer (some ⟨i, off, none⟩)) 3 = some (.pointer (some ⟨i, off + 5, none⟩)) := by kernel_rfl
theorem al61 (m : Mem) : opAlloc Try.prog 61 m = some (.pointer (some ⟨m.next, 0, none⟩), m.new (.cells [Go.Value.int Go.IntKind.i64 0, Go.Value.int Go.IntKind.i64 0, Go.Value.bool Bool.false, Go.Value.int Go.IntKind.i64 0, Go.Value.int Go.IntKind.i64 0, Go.Value.int Go.IntKind.u8 0, Go.Value.int Go.IntKind.u16 0, Go.Value.int Go.IntKind.u16 0, Go.Value.int Go.IntKind.i64 0, Go.Value.slice Option.none 0 0, Go.Value.slice Option.none 0 0] 61 true)) := by kernel_rfl
theorem bz61 : opBuild Try.prog 61 [] = some (Go.Value.agg #[Go.Value.int Go.IntKind.i64 0, Go.Value.int Go.IntKind.i64 0, Go.Value.bool Bool.false, Go.Value.int Go.IntKind.i64 0, Go.Value.int Go.IntKind.i64 0, Go.Value.int Go.IntKind.u8 0, Go.Value.int Go.IntKind.u16 0, Go.Value.int Go.IntKind.u16 0, Go.Value.int Go.IntKind.i64 0, Go.Value.slice Option.none 0 0, Go.Value.slice Option.none 0 0]) := by kernel_rfl
theorem fa61_0 (i off : Nat) : opFieldAddr Try.prog 61 (.pointer (some ⟨i, off, none⟩)) 0 = some (.pointer (some ⟨i, off + 0, none⟩)) := by kernel_rfl
theorem fa61_1 (i off : Nat) : opFieldAddr Try.prog 61 (.pointer (some ⟨i, off, none⟩)) 1 = some (.pointer (some ⟨i, off + 2, none⟩)) := by kernel_rfl
theorem fa61_2 (i off : Nat) : opFieldAddr Try.prog 61 (.pointer (some ⟨i, off, none⟩)) 2 = some (.pointer (some ⟨i, off + 3, none⟩)) := by kernel_rfl
theorem fa61_3 (i off : Nat) : opFieldAddr Try.prog 61 (.pointer (some ⟨i, off, none⟩)) 3 = some (.pointer (some ⟨i, off + 5, none⟩)) := by kernel_rfl
theorem al62 (m : Mem) : opAlloc Try.prog 62 m = some (.pointer (some ⟨m.next, 0, none⟩), m.new (.cells [(Go.Value.slice Option.none 0 0)] 62 true)) := by kernel_rfl
theorem al63 (m : Mem) : opAlloc Try.prog 63 m = some (.pointer (some ⟨m.next, 0, none⟩), m.new (.cells [Go.Value.int Go.IntKind.u8 0, Go.Value.int Go.IntKind.u8 0, Go.Value.bool Bool.false, Go.Value.bool Bool.false] 63 true)) := by kernel_rfl
theorem bz63 : opBuild Try.prog 63 [] = some (Go.Value.agg #[Go.Value.int Go.IntKind.u8 0, Go.Value.int Go.IntKind.u8 0, Go.Value.bool Bool.false, Go.Value.bool Bool.false]) := by kernel_rfl
theorem fa63_0 (i off : Nat) : opFieldAddr Try.prog 63 (.pointer (some ⟨i, off, none⟩)) 0 = some (.pointer (some ⟨i, off + 0, none⟩)) := by kernel_rfl
theorem fa63_1 (i off : Nat) : opFieldAddr Try.prog 63 (.pointer (some ⟨i, off, none⟩)) 1 = some (.pointer (some ⟨i, off + 1, none⟩)) := by kernel_rfl
theorem fa63_2 (i off : Nat) : opFieldAddr Try.prog 63 (.pointer (some ⟨i, off, none⟩)) 2 = some (.pointer (some ⟨i, off + 2, none⟩)) := by kernel_rfl
theorem fa63_3 (i off : Nat) : opFieldAddr Try.prog 63 (.pointer (some ⟨i, off, none⟩)) 3 = some (.pointer (some ⟨i, off + 3, none⟩)) := by kernel_rfl
theorem al64 (m : Mem) : opAlloc Try.prog 64 m = some (.pointer (some ⟨m.next, 0, none⟩), m.new (.cells [Go.Value.int Go.IntKind.u8 0, Go.Value.int Go.IntKind.u8 0, Go.Value.bool Bool.false, Go.Value.bool Bool.false] 64 true)) := by kernel_rfl
theorem bz64 : opBuild Try.prog 64 [] = some (Go.Value.agg #[Go.Value.int Go.IntKind.u8 0, Go.Value.int Go.IntKind.u8 0, Go.Value.bool Bool.false, Go.Value.bool Bool.false]) := by kernel_rfl
theorem fa64_0 (i off : Nat) : opFieldAddr Try.prog 64 (.pointer (some ⟨i, off, none⟩)) 0 = some (.pointer (some ⟨i, off + 0, none⟩)) := by kernel_rfl
theorem fa64_1 (i off : Nat) : opFieldAddr Try.prog 64 (.pointer (some ⟨i, off, none⟩)) 1 = some (.pointer (some ⟨i, off + 1, none⟩)) := by kernel_rfl
theorem fa64_2 (i off : Nat) : opFieldAddr Try.prog 64 (.pointer (some ⟨i, off, none⟩)) 2 = some (.pointer (some ⟨i, off + 2, none⟩)) := by kernel_rfl
theorem fa64_3 (i off : Nat) : opFieldAddr Try.prog 64 (.pointer (some ⟨i, off, none⟩)) 3 = some (.pointer (some ⟨i, off + 3, none⟩)) := by kernel_rfl
theorem al65 (m : Mem) : opAlloc Try.prog 65 m = some (.pointer (some ⟨m.next, 0, none⟩), m.new (.cells [Go.Value.nilFunc] 65 true)) := by kernel_rfl
theorem al66 (m : Mem) : opAlloc Try.prog 66 m = some (.pointer (some ⟨m.next, 0, none⟩), m.new (.cells [Go.Value.nilFunc] 66 true)) := by kernel_rfl
theorem al67 (m : Mem) : opAlloc Try.prog 67 m = some (.pointer (some ⟨m.next, 0, none⟩), m.new (.cells [Go.Value.int Go.IntKind.i64 0, Go.Value.int Go.IntKind.i64 0, Go.Value.int Go.IntKind.i64 0, Go.Value.int Go.IntKind.i64 0, Go.Value.int Go.IntKind.i64 0, Go.Value.int Go.IntKind.i64 0, Go.Value.int Go.IntKind.i64 0, Go.Value.bool Bool.false, Go.Value.int Go.IntKind.u8 0, Go.Value.int Go.IntKind.u16 0, Go.Value.int Go.IntKind.u16 0, Go.Value.int Go.IntKind.i64 0, Go.Value.slice Option.none 0 0, Go.Value.slice Option.none 0 0] 67 true)) := by kernel_rfl
theorem bz67 : opBuild Try.prog 67 [] = some (Go.Value.agg #[Go.Value.int Go.IntKind.i64 0, Go.Value.int Go.IntKind.i64 0, Go.Value.int Go.IntKind.i64 0, Go.Value.int Go.IntKind.i64 0, Go.Value.int Go.IntKind.i64 0, Go.Value.int Go.IntKind.i64 0, Go.Value.int Go.IntKind.i64 0, Go.Value.bool Bool.false, Go.Value.int Go.IntKind.u8 0, Go.Value.int Go.IntKind.u16 0, Go.Value.int Go.IntKind.u16 0, Go.Value.int Go.IntKind.i64 0, Go.Value.slice Option.none 0 0, Go.Value.slice Option.none 0 0]) := by kernel_rfl
theorem fa67_0 (i off : Nat) : opFieldAddr Try.prog 67 (.pointer (some ⟨i, off, none⟩)) 0 = some (.pointer (some ⟨i, off + 0, none⟩)) := by kernel_rfl
theorem fa67_1 (i off : Nat) : opFieldAddr Try.prog 67 (.pointer (some ⟨i, off, none⟩)) 1 = some (.pointer (some ⟨i, off + 1, none⟩)) := by kernel_rfl
theorem fa67_2 (i off : Nat) : opFieldAddr Try.prog 67 (.pointer (some ⟨i, off, none⟩)) 2 = some (.pointer (some ⟨i, off + 2, none⟩)) := by kernel_rfl
theorem fa67_3 (i off : Nat) : opFieldAddr Try.prog 67 (.pointer (some ⟨i, off, none⟩)) 3 = some (.pointer (some ⟨i, off + 3, none⟩)) := by kernel_rfl
theorem fa67_4 (i off : Nat) : opFieldAddr Try.prog 67 (.pointer (some ⟨i, off, none⟩)) 4 = some (.pointer (some ⟨i, off + 5, none⟩)) := by kernel_rfl
theorem fa67_5 (i off : Nat) : opFieldAddr Try.prog 67 (.pointer (some ⟨i, off, none⟩)) 5 = some (.pointer (some ⟨i, off + 7, none⟩)) := by kernel_rfl
theorem fa67_6 (i off : Nat) : opFieldAddr Try.prog 67 (.pointer (some ⟨i, off, none⟩)) 6 = some (.pointer (some ⟨i, off + 8, none⟩)) := by kernel_rfl
theorem al68 (m : Mem) : opAlloc Try.prog 68 m = some (.pointer (some ⟨m.next, 0, none⟩), m.new (.cells [Go.Value.int Go.IntKind.i64 0, Go.Value.int Go.IntKind.i64 0, Go.Value.int Go.IntKind.i64 0, Go.Value.int Go.IntKind.i64 0, Go.Value.int Go.IntKind.i64 0, Go.Value.int Go.IntKind.i64 0, Go.Value.int Go.IntKind.i64 0, Go.Value.bool Bool.false, Go.Value.int Go.IntKind.u8 0, Go.Value.int Go.IntKind.u16 0, Go.Value.int Go.IntKind.u16 0, Go.Value.int Go.IntKind.i64 0, Go.Value.slice Option.none 0 0, Go.Value.slice Option.none 0 0] 68 true)) := by kernel_rfl
theorem bz68 : opBuild Try.prog 68 [] = some (Go.Value.agg #[Go.Value.int Go.IntKind.i64 0, Go.Value.int Go.IntKind.i64 0, Go.Value.int Go.IntKind.i64 0, Go.Value.int Go.IntKind.i64 0, Go.Value.int Go.IntKind.i64 0, Go.Value.int Go.IntKind.i64 0, Go.Value.int Go.IntKind.i64 0, Go.Value.bool Bool.false, Go.Value.int Go.IntKind.u8 0, Go.Value.int Go.IntKind.u16 0, Go.Value.int Go.IntKind.u16 0, Go.Value.int Go.IntKind.i64 0, Go.Value.slice Option.none 0 0, Go.Value.slice Option.none 0 0]) := by kernel_rfl
theorem fa68_0 (i off : Nat) : opFieldAddr Try.prog 68 (.pointer (some ⟨i, off, none⟩)) 0 = some (.pointer (some ⟨i, off + 0, none⟩)) := by kernel_rfl
theorem fa68_1 (i off : Nat) : opFieldAddr Try.prog 68 (.pointer (some ⟨i, off, none⟩)) 1 = some (.pointer (some ⟨i, off + 1, none⟩)) := by kernel_rfl
theorem fa68_2 (i off : Nat) : opFieldAddr Try.prog 68 (.pointer (some ⟨i, off, none⟩)) 2 = some (.pointer (some ⟨i, off + 2, none⟩)) := by kernel_rfl
theorem fa68_3 (i off : Nat) : opFieldAddr Try.prog 68 (.pointer (some ⟨i, off, none⟩)) 3 = some (.pointer (some ⟨i, off + 3, none⟩)) := by kernel_rfl
theorem fa68_4 (i off : Nat) : opFieldAddr Try.prog 68 (.pointer (some ⟨i, off, none⟩)) 4 = some (.pointer (some ⟨i, off + 5, none⟩)) := by kernel_rfl
theorem fa68_5 (i off : Nat) : opFieldAddr Try.prog 68 (.pointer (some ⟨i, off, none⟩)) 5 = some (.pointer (some ⟨i, off + 7, none⟩)) := by kernel_rfl
theorem fa68_6 (i off : Nat) : opFieldAddr Try.prog 68 (.pointer (some ⟨i, off, none⟩)) 6 = some (.pointer (some ⟨i, off + 8, none⟩)) := by kernel_rfl
theorem al70 (m : Mem) : opAlloc Try.prog 70 m = some (.pointer (some ⟨m.next, 0, none⟩), m.new (.cells [Go.Value.nilFunc] 70 true)) := by kernel_rfl
theorem al71 (m : Mem) : opAlloc Try.prog 71 m = some (.pointer (some ⟨m.next, 0, none⟩), m.new (.cells [Go.Value.nilFunc] 71 true)) := by kernel_rfl
theorem al72 (m : Mem) : opAlloc Try.prog 72 m = some (.pointer (some ⟨m.next, 0, none⟩), m.new (.cells [Go.Value.nilFunc] 72 true)) := by kernel_rfl
theorem al73 (m : Mem) : opAlloc Try.prog 73 m = some (.pointer (some ⟨m.next, 0, none⟩), m.new (.cells [(Go.Value.int Go.IntKind.u8 0)] 73 true)) := by kernel_rfl
theorem al74 (m : Mem) : opAlloc Try.prog 74 m = some (.pointer (some ⟨m.next, 0, none⟩), m.new (.cells [Go.Value.nilFunc] 74 true)) := by kernel_rfl
theorem al75 (m : Mem) : opAlloc Try.prog 75 m = some (.pointer (some ⟨m.next, 0, none⟩), m.new (.cells [Go.Value.int Go.IntKind.i64 0, Go.Value.slice Option.none 0 0, Go.Value.int Go.IntKind.u8 0, Go.Value.int Go.IntKind.i64 0, Go.Value.int Go.IntKind.i64 0, Go.Value.int Go.IntKind.u8 0, Go.Value.int Go.IntKind.u16 0, Go.Value.int Go.IntKind.u16 0, Go.Value.int Go.IntKind.i64 0, Go.Value.slice Option.none 0 0, Go.Value.slice Option.none 0 0, Go.Value.int Go.IntKind.i64 0, Go.Value.int Go.IntKind.i64 0, Go.Value.int Go.IntKind.u8 0, Go.Value.int Go.IntKind.u16 0, Go.Value.int Go.IntKind.u16 0, Go.Value.int Go.IntKind.i64 0, Go.Value.slice Option.none 0 0, Go.Value.slice Option.none 0 0, Go.Value.bool Bool.false, Go.Value.slice Option.none 0 0, Go.Value.int Go.IntKind.u8 0, Go.Value.int Go.IntKind.u16 0, Go.Value.int Go.IntKind.u16 0, Go.Value.int Go.IntKind.i64 0, Go.Value.slice Option.none 0 0, Go.Value.slice Option.none 0 0] 75 true)) := by kernel_rfl
theorem bz75 : opBuild Try.prog 75 [] = some (Go.Value.agg #[Go.Value.int Go.IntKind.i64 0, Go.Value.slice Option.none 0 0, Go.Value.int Go.IntKind.u8 0, Go.Value.int Go.IntKind.i64 0, Go.Value.int Go.IntKind.i64 0, Go.Value.int Go.IntKind.u8 0, Go.Value.int Go.IntKind.u16 0, Go.Value.int Go.IntKind.u16 0, Go.Value.int Go.IntKind.i64 0, Go.Value.slice Option.none 0 0, Go.Value.slice Option.none 0 0, Go.Value.int Go.IntKind.i64 0, Go.Value.int Go.IntKind.i64 0, Go.Value.int Go.IntKind.u8 0, Go.Value.int Go.IntKind.u16 0, Go.Value.int Go.IntKind.u16 0, Go.Value.int Go.IntKind.i64 0, Go.Value.slice Option.none 0 0, Go.Value.slice Option.none 0 0, Go.Value.bool Bool.false, Go.Value.slice Option.none 0 0, Go.Value.int Go.IntKind.u8 0, Go.Value.int Go.IntKind.u16 0, Go.Value.int Go.IntKind.u16 0, Go.Value.int Go.IntKind.i64 0, Go.Value.slice Option.none 0 0, Go.Value.slice Option.none 0 0]) := by kernel_rfl
theorem fa75_0 (i off : Nat) : opFieldAddr Try.prog 75 (.pointer (some ⟨i, off, none⟩)) 0 = some (.pointer (some ⟨i, off + 0, none⟩)) := by kernel_rfl
theorem fa75_1 (i off : Nat) : opFieldAddr Try.prog 75 (.pointer (some ⟨i, off, none⟩)) 1 = some (.pointer (some ⟨i, off + 2, none⟩)) := by kernel_rfl
theorem fa75_2 (i off : Nat) : opFieldAddr Try.prog 75 (.pointer (some ⟨i, off, none⟩)) 2 = some (.pointer (some ⟨i, off + 3, none⟩)) := by kernel_rfl
theorem fa75_3 (i off : Nat) : opFieldAddr Try.prog 75 (.pointer (some ⟨i, off, none⟩)) 3 = some (.pointer (some ⟨i, off + 5, none⟩)) := by kernel_rfl
theorem fa75_4 (i off : Nat) : opFieldAddr Try.prog 75 (.pointer (some ⟨i, off, none⟩)) 4 = some (.pointer (some ⟨i, off + 11, none⟩)) := by kernel_rfl
theorem fa75_5 (i off : Nat) : opFieldAddr Try.prog 75 (.pointer (some ⟨i, off, none⟩)) 5 = some (.pointer (some ⟨i, off + 13, none⟩)) := by kernel_rfl
theorem fa75_6 (i off : Nat) : opFieldAddr Try.prog 75 (.pointer (some ⟨i, off, none⟩)) 6 = some (.pointer (some ⟨i, off + 19, none⟩)) := by kernel_rfl
theorem fa75_7 (i off : Nat) : opFieldAddr Try.prog 75 (.pointer (some ⟨i, off, none⟩)) 7 = some (.pointer (some ⟨i, off + 20, none⟩)) := by kernel_rfl
theorem fa75_8 (i off : Nat) : opFieldAddr Try.prog 75 (.pointer (some ⟨i, off, none⟩)) 8 = some (.pointer (some ⟨i, off + 21, none⟩)) := by kernel_rfl
theorem al76 (m : Mem) : opAlloc Try.prog 76 m = some (.pointer (some ⟨m.next, 0, none⟩), m.new (.cells [Go.Value.int Go.IntKind.i64 0, Go.Value.slice Option.none 0 0, Go.Value.int Go.IntKind.u8 0, Go.Value.int Go.IntKind.i64 0, Go.Value.int Go.IntKind.i64 0, Go.Value.int Go.IntKind.u8 0, Go.Value.int Go.IntKind.u16 0, Go.Value.int Go.IntKind.u16 0, Go.Value.int Go.IntKind.i64 0, Go.Value.slice Option.none 0 0, Go.Value.slice Option.none 0 0, Go.Value.int Go.IntKind.i64 0, Go.Value.int Go.IntKind.i64 0, Go.Value.int Go.IntKind.u8 0, Go.Value.int Go.IntKind.u16 0, Go.Value.int Go.IntKind.u16 0, Go.Value.int Go.IntKind.i64 0, Go.Value.slice Option.none 0 0, Go.Value.slice Option.none 0 0, Go.Value.bool Bool.false, Go.Value.slice Option.none 0 0, Go.Value.int Go.IntKind.u8 0, Go.Value.int Go.IntKind.u16 0, Go.Value.int Go.IntKind.u16 0, Go.Value.int Go.IntKind.i64 0, Go.Value.slice Option.none 0 0, Go.Value.slice Option.none 0 0] 76 true)) := by kernel_rfl
theorem bz76 : opBuild Try.prog 76 [] = some (Go.Value.agg #[Go.Value.int Go.IntKind.i64 0, Go.Value.slice Option.none 0 0, Go.Value.int Go.IntKind.u8 0, Go.Value.int Go.IntKind.i64 0, Go.Value.int Go.IntKind.i64 0, Go.Value.int Go.IntKind.u8 0, Go.Value.int Go.IntKind.u16 0, Go.Value.int Go.IntKind.u16 0, Go.Value.int Go.IntKind.i64 0, Go.Value.slice Option.none 0 0, Go.Value.slice Option.none 0 0, Go.Value.int Go.IntKind.i64 0, Go.Value.int Go.IntKind.i64 0, Go.Value.int Go.IntKind.u8 0, Go.Value.int Go.IntKind.u16 0, Go.Value.int Go.IntKind.u16 0, Go.Value.int Go.IntKind.i64 0, Go.Value.slice Option.none 0 0, Go.Value.slice Option.none 0 0, Go.Value.bool Bool.false, Go.Value.slice Option.none 0 0, Go.Value.int Go.IntKind.u8 0, Go.Value.int Go.IntKind.u16 0, Go.Value.int Go.IntKind.u16 0, Go.Value.int Go.IntKind.i64 0, Go.Value.slice Option.none 0 0, Go.Value.slice Option.none 0 0]) := by kernel_rfl
theorem fa76_0 (i off : Nat) : opFieldAddr Try.prog 76 (.pointer (some ⟨i, off, none⟩)) 0 = some (.pointer (some ⟨i, off + 0, none⟩)) := by kernel_rfl
theorem fa76_1 (i off : Nat) : opFieldAddr Try.prog 76 (.pointer (some ⟨i, off, none⟩)) 1 = some (.pointer (some ⟨i, off + 2, none⟩)) := by kernel_rfl
theorem fa76_2 (i off : Nat) : opFieldAddr Try.prog 76 (.pointer (some ⟨i, off, none⟩)) 2 = some (.pointer (some ⟨i, off + 3, none⟩)) := by kernel_rfl
theorem fa76_3 (i off : Nat) : opFieldAddr Try.prog 76 (.pointer (some ⟨i, off, none⟩)) 3 = some (.pointer (some ⟨i, off + 5, none⟩)) := by kernel_rfl
theorem fa76_4 (i off : Nat) : opFieldAddr Try.prog 76 (.pointer (some ⟨i, off, none⟩)) 4 = some (.pointer (some ⟨i, off + 11, none⟩)) := by kernel_rfl
theorem fa76_5 (i off : Nat) : opFieldAddr Try.prog 76 (.pointer (some ⟨i, off, none⟩)) 5 = some (.pointer (some ⟨i, off + 13, none⟩)) := by kernel_rfl
theorem fa76_6 (i off : Nat) : opFieldAddr Try.prog 76 (.pointer (some ⟨i, off, none⟩)) 6 = some (.pointer (some ⟨i, off + 19, none⟩)) := by kernel_rfl
theorem fa76_7 (i off : Nat) : opFieldAddr Try.prog 76 (.pointer (some ⟨i, off, none⟩)) 7 = some (.pointer (some ⟨i, off + 20, none⟩)) := by kernel_rfl
theorem fa76_8 (i off : Nat) : opFieldAddr Try.prog 76 (.pointer (some ⟨i, off, none⟩)) 8 = some (.pointer (some ⟨i, off + 21, none⟩)) := by kernel_rfl
theorem al77 (m : Mem) : opAlloc Try.prog 77 m = some (.pointer (some ⟨m.next, 0, none⟩), m.new (.cells [Go.Value.nilFunc] 77 true)) := by kernel_rfl
theorem al78 (m : Mem) : opAlloc Try.prog 78 m = some (.pointer (some ⟨m.next, 0, none⟩), m.new (.cells [Go.Value.nilFunc] 78 true)) := by kernel_rfl
theorem al79 (m : Mem) : opAlloc Try.prog 79 m = some (.pointer (some ⟨m.next, 0, none⟩), m.new (.cells [Go.Value.nilFunc] 79 true)) := by kernel_rfl
theorem al80 (m : Mem) : opAlloc Try.prog 80 m = some (.pointer (some ⟨m.next, 0, none⟩), m.new (.cells [Go.Value.nilFunc] 80 true)) := by kernel_rfl
theorem al81 (m : Mem) : opAlloc Try.prog 81 m = some (.pointer (some ⟨m.next, 0, none⟩), m.new (.cells [Go.Value.nilFunc] 81 true)) := by kernel_rfl
theorem al82 (m : Mem) : opAlloc Try.prog 82 m = some (.pointer (some ⟨m.next, 0, none⟩), m.new (.cells [Go.Value.nilFunc] 82 true)) := by kernel_rfl
theorem al83 (m : Mem) : opAlloc Try.prog 83 m = some (.pointer (some ⟨m.next, 0, none⟩), m.new (.cells [Go.Value.nilFunc] 83 true)) := by kernel_rfl
theorem al84 (m : Mem) : opAlloc Try.prog 84 m = some (.pointer (some ⟨m.next, 0, none⟩), m.new (.cells [Go.Value.nilFunc] 84 true)) := by kernel_rfl
theorem al85 (m : Mem) : opAlloc Try.prog 85 m = some (.pointer (some ⟨m.next, 0, none⟩), m.new (.cells [Go.Value.pointer Option.none, Go.Value.pointer Option.none, Go.Value.pointer Option.none, Go.Value.string { data := #[] }] 85 true)) := by kernel_rfl
theorem bz85 : opBuild Try.prog 85 [] = some (Go.Value.agg #[Go.Value.pointer Option.none, Go.Value.pointer Option.none, Go.Value.pointer Option.none, Go.Value.string { data := #[] }]) := by kernel_rfl
theorem fa85_0 (i off : Nat) : opFieldAddr Try.prog 85 (.pointer (some ⟨i, off, none⟩)) 0 = some (.pointer (some ⟨i, off + 0, none⟩)) := by kernel_rfl
theorem fa85_1 (i off : Nat) : opFieldAddr Try.prog 85 (.pointer (some ⟨i, off, none⟩)) 1 = some (.pointer (some ⟨i, off + 1, none⟩)) := by kernel_rfl
theorem fa85_2 (i off : Nat) : opFieldAddr Try.prog 85 (.pointer (some ⟨i, off, none⟩)) 2 = some (.pointer (some ⟨i, off + 2, none⟩)) := by kernel_rfl
theorem fa85_3 (i off : Nat) : opFieldAddr Try.prog 85 (.pointer (some ⟨i, off, none⟩)) 3 = some (.pointer (some ⟨i, off + 3, none⟩)) := by kernel_rfl
theorem al86 (m : Mem) : opAlloc Try.prog 86 m = some (.pointer (some ⟨m.next, 0, none⟩), m.new (.cells [Go.Value.pointer Option.none, Go.Value.pointer Option.none, Go.Value.pointer Option.none, Go.Value.string { data := #[] }] 86 true)) := by kernel_rfl
theorem bz86 : opBuild Try.prog 86 [] = some (Go.Value.agg #[Go.Value.pointer Option.none, Go.Value.pointer Option.none, Go.Value.pointer Option.none, Go.Value.string { data := #[] }]) := by kernel_rfl
theorem fa86_0 (i off : Nat) : opFieldAddr Try.prog 86 (.pointer (some ⟨i, off, none⟩)) 0 = some (.pointer (some ⟨i, off + 0, none⟩)) := by kernel_rfl
theorem fa86_1 (i off : Nat) : opFieldAddr Try.prog 86 (.pointer (some ⟨i, off, none⟩)) 1 = some (.pointer (some ⟨i, off + 1, none⟩)) := by kernel_rfl
theorem fa86_2 (i off : Nat) : opFieldAddr Try.prog 86 (.pointer (some ⟨i, off, none⟩)) 2 = some (.pointer (some ⟨i, off + 2, none⟩)) := by kernel_rfl
theorem fa86_3 (i off : Nat) : opFieldAddr Try.prog 86 (.pointer (some ⟨i, off, none⟩)) 3 = some (.pointer (some ⟨i, off + 3, none⟩)) := by kernel_rfl
theorem bz88 : opBuild Try.prog 88 [] = some (Go.Value.agg #[]) := by kernel_rfl
theorem bz89 : opBuild Try.prog 89 [] = some (Go.Value.agg #[]) := by kernel_rfl
theorem al90 (m : Mem) : opAlloc Try.prog 90 m = some (.pointer (some ⟨m.next, 0, none⟩), m.new (.cells [Go.Value.nilFunc] 90 true)) := by kernel_rfl
theorem al91 (m : Mem) : opAlloc Try.prog 91 m = some (.pointer (some ⟨m.next, 0, none⟩), m.new (.cells [(Go.Value.int Go.IntKind.u32 0)] 91 true)) := by kernel_rfl
theorem al92 (m : Mem) : opAlloc Try.prog 92 m = some (.pointer (some ⟨m.next, 0, none⟩), m.new (.cells [(Go.Value.int Go.IntKind.u8 0)] 92 true)) := by kernel_rfl
theorem al93 (m : Mem) : opAlloc Try.prog 93 m = some (.pointer (some ⟨m.next, 0, none⟩), m.new (.cells [(Go.Value.int Go.IntKind.u8 0)] 93 true)) := by kernel_rfl
theorem al94 (m : Mem) : opAlloc Try.prog 94 m = some (.pointer (some ⟨m.next, 0, none⟩), m.new (.cells [Go.Value.nilFunc] 94 true)) := by kernel_rfl
theorem al95 (m : Mem) : opAlloc Try.prog 95 m = some (.pointer (some ⟨m.next, 0, none⟩), m.new (.cells [(Go.Value.pointer Option.none)] 95 true)) := by kernel_rfl
theorem al96 (m : Mem) : opAlloc Try.prog 96 m = some (.pointer (some ⟨m.next, 0, none⟩), m.new (.cells [(Go.Value.int Go.IntKind.i32 0)] 96 true)) := by kernel_rfl
theorem al97 (m : Mem) : opAlloc Try.prog 97 m = some (.pointer (some ⟨m.next, 0, none⟩), m.new (.cells [(Go.Value.int Go.IntKind.i32 0)] 97 true)) := by kernel_rfl
theorem al98 (m : Mem) : opAlloc Try.prog 98 m = some (.pointer (some ⟨m.next, 0, none⟩), m.new (.cells [Go.Value.int Go.IntKind.u64 0, Go.Value.int Go.IntKind.u64 0, Go.Value.int Go.IntKind.u32 0, Go.Value.int Go.IntKind.u8 0, Go.Value.int Go.IntKind.u8 0, Go.Value.int Go.IntKind.u8 0, Go.Value.int Go.IntKind.u8 0, Go.Value.nilFunc, Go.Value.pointer Option.none, Go.Value.int Go.IntKind.i32 0, Go.Value.int Go.IntKind.i32 0] 98 true)) := by kernel_rfl
theorem bz98 : opBuild Try.prog 98 [] = some (Go.Value.agg #[Go.Value.int Go.IntKind.u64 0, Go.Value.int Go.IntKind.u64 0, Go.Value.int Go.IntKind.u32 0, Go.Value.int Go.IntKind.u8 0, Go.Value.int Go.IntKind.u8 0, Go.Value.int Go.IntKind.u8 0, Go.Value.int Go.IntKind.u8 0, Go.Value.nilFunc, Go.Value.pointer Option.none, Go.Value.int Go.IntKind.i32 0, Go.Value.int Go.IntKind.i32 0]) := by kernel_rfl
theorem fa98_0 (i off : Nat) : opFieldAddr Try.prog 98 (.pointer (some ⟨i, off, none⟩)) 0 = some (.pointer (some ⟨i, off + 0, none⟩)) := by kernel_rfl
theorem fa98_1 (i off : Nat) : opFieldAddr Try.prog 98 (.pointer (some ⟨i, off, none⟩)) 1 = some (.pointer (some ⟨i, off + 1, none⟩)) := by kernel_rfl
theorem fa98_2 (i off : Nat) : opFieldAddr Try.prog 98 (.pointer (some ⟨i, off, none⟩)) 2 = some (.pointer (some ⟨i, off + 2, none⟩)) := by kernel_rfl
theorem fa98_3 (i off : Nat) : opFieldAddr Try.prog 98 (.pointer (some ⟨i, off, none⟩)) 3 = some (.pointer (some ⟨i, off + 3, none⟩)) := by kernel_rfl
theorem fa98_4 (i off : Nat) : opFieldAddr Try.prog 98 (.pointer (some ⟨i, off, none⟩)) 4 = some (.pointer (some ⟨i, off + 4, none⟩)) := by kernel_rfl
theorem fa98_5 (i off : Nat) : opFieldAddr Try.prog 98 (.pointer (some ⟨i, off, none⟩)) 5 = some (.pointer (some ⟨i, off + 5, none⟩)) := by kernel_rfl
theorem fa98_6 (i off : Nat) : opFieldAddr Try.prog 98 (.pointer (some ⟨i, off, none⟩)) 6 = some (.pointer (some ⟨i, off + 6, none⟩)) := by kernel_rfl
theorem fa98_7 (i off : Nat) : opFieldAddr Try.prog 98 (.pointer (some ⟨i, off, none⟩)) 7 = some (.pointer (some ⟨i, off + 7, none⟩)) := by kernel_rfl
theorem fa98_8 (i off : Nat) : opFieldAddr Try.prog 98 (.pointer (some ⟨i, off, none⟩)) 8 = some (.pointer (some ⟨i, off + 8, none⟩)) := by kernel_rfl
theorem fa98_9 (i off : Nat) : opFieldAddr Try.prog 98 (.pointer (some ⟨i, off, none⟩)) 9 = some (.pointer (some ⟨i, off + 9, none⟩)) := by kernel_rfl
theorem fa98_10 (i off : Nat) : opFieldAddr Try.prog 98 (.pointer (some ⟨i, off, none⟩)) 10 = some (.pointer (some ⟨i, off + 10, none⟩)) := by kernel_rfl
theorem al99 (m : Mem) : opAlloc Try.prog 99 m = some (.pointer (some ⟨m.next, 0, none⟩), m.new (.cells [Go.Value.int Go.IntKind.u64 0, Go.Value.int Go.IntKind.u64 0, Go.Value.int Go.IntKind.u32 0, Go.Value.int Go.IntKind.u8 0, Go.Value.int Go.IntKind.u8 0, Go.Value.int Go.IntKind.u8 0, Go.Value.int Go.IntKind.u8 0, Go.Value.nilFunc, Go.Value.pointer Option.none, Go.Value.int Go.IntKind.i32 0, Go.Value.int Go.IntKind.i32 0] 99 true)) := by kernel_rfl
theorem bz99 : opBuild Try.prog 99 [] = some (Go.Value.agg #[Go.Value.int Go.IntKind.u64 0, Go.Value.int Go.IntKind.u64 0, Go.Value.int Go.IntKind.u32 0, Go.Value.int Go.IntKind.u8 0, Go.Value.int Go.IntKind.u8 0, Go.Value.int Go.IntKind.u8 0, Go.Value.int Go.IntKind.u8 0, Go.Value.nilFunc, Go.Value.pointer Option.none, Go.Value.int Go.IntKind.i32 0, Go.Value.int Go.IntKind.i32 0]) := by kernel_rfl
theorem fa99_0 (i off : Nat) : opFieldAddr Try.prog 99 (.pointer (some ⟨i, off, none⟩)) 0 = some (.pointer (some ⟨i, off + 0, none⟩)) := by kernel_rfl
theorem fa99_1 (i off : Nat) : opFieldAddr Try.prog 99 (.pointer (some ⟨i, off, none⟩)) 1 = some (.pointer (some ⟨i, off + 1, none⟩)) := by kernel_rfl
theorem fa99_2 (i off : Nat) : opFieldAddr Try.prog 99 (.pointer (some ⟨i, off, none⟩)) 2 = some (.pointer (some ⟨i, off + 2, none⟩)) := by kernel_rfl
theorem fa99_3 (i off : Nat) : opFieldAddr Try.prog 99 (.pointer (some ⟨i, off, none⟩)) 3 = some (.pointer (some ⟨i, off + 3, none⟩)) := by kernel_rfl
theorem fa99_4 (i off : Nat) : opFieldAddr Try.prog 99 (.pointer (some ⟨i, off, none⟩)) 4 = some (.pointer (some ⟨i, off + 4, none⟩)) := by kernel_rfl
theorem fa99_5 (i off : Nat) : opFieldAddr Try.prog 99 (.pointer (some ⟨i, off, none⟩)) 5 = some (.pointer (some ⟨i, off + 5, none⟩)) := by kernel_rfl
theorem fa99_6 (i off : Nat) : opFieldAddr Try.prog 99 (.pointer (some ⟨i, off, none⟩)) 6 = some (.pointer (some ⟨i, off + 6, none⟩)) := by kernel_rfl
theorem fa99_7 (i off : Nat) : opFieldAddr Try.prog 99 (.pointer (some ⟨i, off, none⟩)) 7 = some (.pointer (some ⟨i, off + 7, none⟩)) := by kernel_rfl
theorem fa99_8 (i off : Nat) : opFieldAddr Try.prog 99 (.pointer (some ⟨i, off, none⟩)) 8 = some (.pointer (some ⟨i, off + 8, none⟩)) := by kernel_rfl
theorem fa99_9 (i off : Nat) : opFieldAddr Try.prog 99 (.pointer (some ⟨i, off, none⟩)) 9 = some (.pointer (some ⟨i, off + 9, none⟩)) := by kernel_rfl
theorem fa99_10 (i off : Nat) : opFieldAddr Try.prog 99 (.pointer (some ⟨i, off, none⟩)) 10 = some (.pointer (some ⟨i, off + 10, none⟩)) := by kernel_rfl
theorem al100 (m : Mem) : opAlloc Try.prog 100 m = some (.pointer (some ⟨m.next, 0, none⟩), m.new (.cells [Go.Value.nilFunc] 100 true)) := by kernel_rfl
theorem al101 (m : Mem) : opAlloc Try.prog 101 m = some (.pointer (some ⟨m.next, 0, none⟩), m.new (.cells [Go.Value.nilFunc] 101 true)) := by kernel_rfl
theorem al102 (m : Mem) : opAlloc Try.prog 102 m = some (.pointer (some ⟨m.next, 0, none⟩), m.new (.cells [(Go.Value.pointer Option.none)] 102 true)) := by kernel_rfl
theorem al103 (m : Mem) : opAlloc Try.prog 103 m = some (.pointer (some ⟨m.next, 0, none⟩), m.new (.cells [(Go.Value.int Go.IntKind.i64 0)] 103 true)) := by kernel_rfl
theorem fr0 : Try.f0.results.toList = [] := rfl
theorem fr1 : Try.f1.results.toList = [] := rfl
theorem fr2 : Try.f2.results.toList = [] := rfl
theorem fr3 : Try.f3.results.toList = [Go.ResultVar.tmp 6] := rfl
theorem fr4 : Try.f4.results.toList = [Go.ResultVar.tmp 6] := rfl
theorem fr5 : Try.f5.results.toList = [Go.ResultVar.tmp 0] := rfl
theorem fr6 : Try.f6.results.toList = [Go.ResultVar.tmp 2] := rfl
theorem fr7 : Try.f7.results.toList = [Go.ResultVar.tmp 2] := rfl
theorem fr8 : Try.f8.results.toList = [] := rfl
theorem fr9 : Try.f9.results.toList = [Go.ResultVar.cell 2 45] := rfl
theorem fr10 : Try.f10.results.toList = [Go.ResultVar.tmp 12] := rfl
theorem fr11 : Try.f11.results.toList = [Go.ResultVar.tmp 6] := rfl
theorem fr12 : Try.f12.results.toList = [Go.ResultVar.cell 2 45, Go.ResultVar.tmp 3] := rfl
theorem fr13 : Try.f13.results.toList = [Go.ResultVar.tmp 4] := rfl
theorem fr14 : Try.f14.results.toList = [Go.ResultVar.cell 2 37] := rfl
theorem fr15 : Try.f15.results.toList = [Go.ResultVar.tmp 4] := rfl
theorem fr16 : Try.f16.results.toList = [Go.ResultVar.cell 2 37] := rfl
theorem fr17 : Try.f17.results.toList = [Go.ResultVar.cell 4 37, Go.ResultVar.cell 5 45, Go.ResultVar.tmp 6, Go.ResultVar.tmp 7] := rfl
theorem fr18 : Try.f18.results.toList = [Go.ResultVar.tmp 6] := rfl
theorem fr19 : Try.f19.results.toList = [Go.ResultVar.tmp 2] := rfl
theorem fr20 : Try.f20.results.toList = [Go.ResultVar.cell 2 43] := rfl
theorem fr21 : Try.f21.results.toList = [Go.ResultVar.tmp 4] := rfl
theorem fr22 : Try.f22.results.toList = [Go.ResultVar.tmp 4] := rfl
theorem fr23 : Try.f23.results.toList = [Go.ResultVar.tmp 4] := rfl
theorem fr24 : Try.f24.results.toList = [Go.ResultVar.tmp 4] := rfl
theorem fr25 : Try.f25.results.toList = [Go.ResultVar.tmp 4] := rfl
theorem fr26 : Try.f26.results.toList = [Go.ResultVar.tmp 4] := rfl
theorem fr27 : Try.f27.results.toList = [Go.ResultVar.tmp 4] := rfl
theorem fr28 : Try.f28.results.toList = [] := rfl
theorem fr29 : Try.f29.results.toList = [] := rfl
theorem fr30 : Try.f30.results.toList = [] := rfl
theorem fr31 : Try.f31.results.toList = [] := rfl
theorem fr32 : Try.f32.results.toList = [] := rfl
theorem fr33 : Try.f33.results.toList = [] := rfl
theorem fr34 : Try.f34.results.toList = [] := rfl
theorem fr35 : Try.f35.results.toList = [] := rfl
theorem fr36 : Try.f36.results.toList = [] := rfl
theorem fr37 : Try.f37.results.toList = [] := rfl
theorem fr38 : Try.f38.results.toList = [] := rfl
theorem fr39 : Try.f39.results.toList = [] := rfl
theorem fr40 : Try.f40.results.toList = [] := rfl
theorem fr41 : Try.f41.results.toList = [] := rfl
theorem fr42 : Try.f42.results.toList = [] := rfl
theorem fr43 : Try.f43.results.toList = [] := rfl
theorem fr44 : Try.f44.results.toList = [] := rfl
theorem fr45 : Try.f45.results.toList = [] := rfl
theorem fr46 : Try.f46.results.toList = [] := rfl
end Go.Proofs.Ytgecmpgpinihhaa
