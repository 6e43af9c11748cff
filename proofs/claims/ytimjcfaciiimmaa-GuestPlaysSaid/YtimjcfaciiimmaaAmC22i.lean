/- A text of the abstract machine. -/

/- A guest with its tables: calls. -/
import Derived.Test.YtimjcfaciiimmaaAmC22s
import Derived.Test.YtimjcfaciiimmaaAmBun
set_option linter.unusedSimpArgs false
set_option linter.unusedVariables false
set_option maxRecDepth 100000
set_option maxHeartbeats 4000000
namespace Go.Proofs.Ytimjcfaciiimmaa
open Go Go.AM Go.AM.Crc Go.AM.Wire
theorem fxC22i : type_of% (And.intro (And.intro (And.intro (And.intro (And.intro (And.intro (And.intro @Try.underlying3 @Try.underlying4) (And.intro @Try.underlying5 @Try.underlying9)) (And.intro (And.intro @Try.underlying22 @Try.underlying23) (And.intro @Try.underlying25 (And.intro @Try.underlying26 @Try.underlying30)))) (And.intro (And.intro (And.intro @Try.underlying32 @Try.underlying34) (And.intro @Try.underlying35 (And.intro @Try.underlying39 @Try.underlying40))) (And.intro (And.intro @Try.underlying45 @Try.underlying56) (And.intro @Try.underlying62 (And.intro @Try.underlying66 @Try.underlying72))))) (And.intro (And.intro (And.intro (And.intro @Try.underlying75 @Try.underlying77) (And.intro @Try.underlying83 @Try.underlying85)) (And.intro (And.intro @Try.underlying92 @Try.underlying93) (And.intro @Try.underlying94 (And.intro @Try.underlying98 @Try.underlying101)))) (And.intro (And.intro (And.intro @ts3 @ts4) (And.intro @ts5 (And.intro @ts9 @ts22))) (And.intro (And.intro @ts23 @ts25) (And.intro @ts26 (And.intro @ts30 @ts32)))))) (And.intro (And.intro (And.intro (And.intro (And.intro @ts34 @ts35) (And.intro @ts39 @ts40)) (And.intro (And.intro @ts45 @ts56) (And.intro @ts62 (And.intro @ts66 @ts72)))) (And.intro (And.intro (And.intro @ts75 @ts77) (And.intro @ts83 (And.intro @ts85 @ts92))) (And.intro (And.intro @ts93 @ts94) (And.intro @ts98 (And.intro @ts101 @tz3))))) (And.intro (And.intro (And.intro (And.intro @tz4 @tz5) (And.intro @tz9 @tz22)) (And.intro (And.intro @tz23 @tz25) (And.intro @tz26 (And.intro @tz30 @tz32)))) (And.intro (And.intro (And.intro @tz34 @tz35) (And.intro @tz39 (And.intro @tz40 @tz45))) (And.intro (And.intro @tz56 @tz62) (And.intro @tz66 (And.intro @tz72 @tz75))))))) (And.intro (And.intro (And.intro (And.intro (And.intro (And.intro @tz77 @tz83) (And.intro @tz85 @tz92)) (And.intro (And.intro @tz93 @tz94) (And.intro @tz98 (And.intro @tz101 @tb3)))) (And.intro (And.intro (And.intro @tb4 @tb5) (And.intro @tb9 (And.intro @tb22 @tb23))) (And.intro (And.intro @tb25 @tb26) (And.intro @tb30 (And.intro @tb32 @tb34))))) (And.intro (And.intro (And.intro (And.intro @tb35 @tb39) (And.intro @tb40 @tb45)) (And.intro (And.intro @tb56 @tb62) (And.intro @tb66 (And.intro @tb72 @tb75)))) (And.intro (And.intro (And.intro @tb77 @tb83) (And.intro @tb85 (And.intro @tb92 @tb93))) (And.intro (And.intro @tb94 @tb98) (And.intro @tb101 (And.intro @fr7 @fr8)))))) (And.intro (And.intro (And.intro (And.intro (And.intro @fr9 @fr10) (And.intro @fr11 @fr12)) (And.intro (And.intro @fr13 @fr14) (And.intro @fr23 (And.intro @fr24 @fr25)))) (And.intro (And.intro (And.intro @fr26 @bz39) (And.intro @bz32 (And.intro @bz92 @al39))) (And.intro (And.intro @al32 @al92) (And.intro @al62 (And.intro @bz85 @fa32_0))))) (And.intro (And.intro (And.intro (And.intro @fa32_5 @fa39_0) (And.intro @fa39_1 @fa39_2)) (And.intro (And.intro @fa62_0 @fa62_1) (And.intro @fa62_2 (And.intro @fa85_0 @fa85_1)))) (And.intro (And.intro (And.intro @fa85_2 @fa85_3) (And.intro @fa85_4 (And.intro @fa85_5 @fa85_6))) (And.intro (And.intro @fa92_1 @fa92_4) (And.intro @fa92_5 (And.intro @fa98_0 @fa98_2)))))))) := (And.intro (And.intro (And.intro (And.intro (And.intro (And.intro (And.intro @Try.underlying3 @Try.underlying4) (And.intro @Try.underlying5 @Try.underlying9)) (And.intro (And.intro @Try.underlying22 @Try.underlying23) (And.intro @Try.underlying25 (And.intro @Try.underlying26 @Try.underlying30)))) (And.intro (And.intro (And.intro @Try.underlying32 @Try.underlying34) (And.intro @Try.underlying35 (And.intro @Try.underlying39 @Try.underlying40))) (And.intro (And.intro @Try.underlying45 @Try.underlying56) (And.intro @Try.underlying62 (And.intro @Try.underlying66 @Try.underlying72))))) (And.intro (And.intro (And.intro (And.intro @Try.underlying75 @Try.underlying77) (And.intro @Try.underlying83 @Try.underlying85)) (And.intro (And.intro @Try.underlying92 @Try.underlying93) (And.intro @Try.underlying94 (And.intro @Try.underlying98 @Try.underlying101)))) (And.intro (And.intro (And.intro @ts3 @ts4) (And.intro @ts5 (And.intro @ts9 @ts22))) (And.intro (And.intro @ts23 @ts25) (And.intro @ts26 (And.intro @ts30 @ts32)))))) (And.intro (And.intro (And.intro (And.intro (And.intro @ts34 @ts35) (And.intro @ts39 @ts40)) (And.intro (And.intro @ts45 @ts56) (And.intro @ts62 (And.intro @ts66 @ts72)))) (And.intro (And.intro (And.intro @ts75 @ts77) (And.intro @ts83 (And.intro @ts85 @ts92))) (And.intro (And.intro @ts93 @ts94) (And.intro @ts98 (And.intro @ts101 @tz3))))) (And.intro (And.intro (And.intro (And.intro @tz4 @tz5) (And.intro @tz9 @tz22)) (And.intro (And.intro @tz23 @tz25) (And.intro @tz26 (And.intro @tz30 @tz32)))) (And.intro (And.intro (And.intro @tz34 @tz35) (And.intro @tz39 (And.intro @tz40 @tz45))) (And.intro (And.intro @tz56 @tz62) (And.intro @tz66 (And.intro @tz72 @tz75))))))) (And.intro (And.intro (And.intro (And.intro (And.intro (And.intro @tz77 @tz83) (And.intro @tz85 @tz92)) (And.intro (And.intro @tz93 @tz94) (And.intro @tz98 (And.intro @tz101 @tb3)))) (And.intro (And.intro (And.intro @tb4 @tb5) (And.intro @tb9 (And.intro @tb22 @tb23))) (And.intro (And.intro @tb25 @tb26) (And.intro @tb30 (And.intro @tb32 @tb34))))) (And.intro (And.intro (And.intro (And.intro @tb35 @tb39) (And.intro @tb40 @tb45)) (And.intro (And.intro @tb56 @tb62) (And.intro @tb66 (And.intro @tb72 @tb75)))) (And.intro (And.intro (And.intro @tb77 @tb83) (And.intro @tb85 (And.intro @tb92 @tb93))) (And.intro (And.intro @tb94 @tb98) (And.intro @tb101 (And.intro @fr7 @fr8)))))) (And.intro (And.intro (And.intro (And.intro (And.intro @fr9 @fr10) (And.intro @fr11 @fr12)) (And.intro (And.intro @fr13 @fr14) (And.intro @fr23 (And.intro @fr24 @fr25)))) (And.intro (And.intro (And.intro @fr26 @bz39) (And.intro @bz32 (And.intro @bz92 @al39))) (And.intro (And.intro @al32 @al92) (And.intro @al62 (And.intro @bz85 @fa32_0))))) (And.intro (And.intro (And.intro (And.intro @fa32_5 @fa39_0) (And.intro @fa39_1 @fa39_2)) (And.intro (And.intro @fa62_0 @fa62_1) (And.intro @fa62_2 (And.intro @fa85_0 @fa85_1)))) (And.intro (And.intro (And.intro @fa85_2 @fa85_3) (And.intro @fa85_4 (And.intro @fa85_5 @fa85_6))) (And.intro (And.intro @fa92_1 @fa92_4) (And.intro @fa92_5 (And.intro @fa98_0 @fa98_2))))))))
def lets (n pr : Int) (a : Option Addr) (k z : Nat) : List Value := gsv.flatMap fun to => letC 9 to 2 n pr a k z
theorem ask_is {m : Mem} {g ob rb b k z : Nat} {pv sv ov tp : Value} {n pr left : Int} {a : Option Addr} (gg : m.get g = some (.cells (gC pv sv ob rb ov) 85 true)) (lg : g < m.next) (fs : FRow m sv 1 3 (ints gsv)) (gb : m.get b = some (.cells [.int .u16 2, .int .u16 n, .int .i64 pr, .slice a k z, tp, .int .i64 left] 98 true)) (hbl : b < m.next) {K : Value → Mem → Prop}
    (hK : ∀ m' w r, Ext m m' → OwnI r 66 26 m' w 3 (lets n pr a k z) → m.next ≤ r → K w m') : Ret Try.prog 25 [.pointer (some ⟨g, 0, none⟩), .pointer (some ⟨b, 0, none⟩)] m K := by
  refine ret_wp [] Try.func25 rfl (by decide) (by kernel_rfl) ?_
  have ls : opLen Try.prog (some 25) sv = some (.int .i64 (3 : Nat)) := fs.len (P := Try.prog) Try.underlying25
  obtain ⟨sa, sq, hsv⟩ := fs.is
  simp only [Nat.reduceAdd, reduceIte, Nat.reduceEqDiff, reduceCtorEq, Int.reduceLT, Int.reduceEq, opConvert, opIndexAddr, opLoad, Nat.reduceLT, undef, Nat.reduceLeDiff, Array.toList, bin_geq26, bin_mapn, bin_pnn, bin_pne, veq_map, bld66, bld98, bld56, bld62, one_u16, one_letter, no_ints, no_bytes, wk4, wk5, wk0, fxC22i, gg, ls]
  refine loop_wp [] (by kernel_rfl) (fun q env μ => ∃ (j r' : Nat) (pv' : Value), q + j = 3 ∧ GrowR 66 26 m μ pv' r' j ((gsv.take j).flatMap fun to => letC 9 to 2 n pr a k z) ∧ env 0 = some (.pointer (some ⟨g, 0, none⟩)) ∧ env 1 = some (.pointer (some ⟨b, 0, none⟩)) ∧ env 5 = some pv' ∧ env 11 = some sv ∧ env 12 = some (.int .i64 (3 : Nat)) ∧ env 13 = some (.int .i64 j)) ?_ 3 ⟨0, m.next, .slice none 0 0, rfl, GrowR.nil m, rfl, rfl, rfl, rfl, rfl, rfl⟩
  rintro q env μ ⟨j, r', pv', hq, R, e0, e1, e5, e11, e12, e13⟩
  simp only [Nat.reduceAdd, reduceIte, Nat.reduceEqDiff, reduceCtorEq, opLen, Int.reduceLT, Int.reduceEq, opConvert, opIndexAddr, opLoad, Nat.reduceLT, undef, Nat.reduceLeDiff, Array.toList, bin_geq26, bin_mapn, bin_pnn, bin_pne, veq_map, bld66, bld98, bld56, bld62, one_u16, one_letter, no_ints, no_bytes, wk4, wk5, wk0, fxC22i, e12, e13]
  refine cond_by (fun hlt => ?_) (fun hge => ?_)
  · have hj : j < gsv.length := by show j < 3; omega
    have xμ := R.1
    obtain ⟨p, h1, h2⟩ := RdI.at (l := gsv) (FRow.rd (fs.pz xμ.pz)) hj
    have lid : opLoad Try.prog 3 (.pointer (some ⟨g, 0, none⟩)) μ = some (.int .i64 9) := load_cell ((xμ.2 g lg).trans gg) (by simp only [aggOf, Try.underlying3]) rfl
    have ltr : opLoad Try.prog 22 (.pointer (some ⟨g, 1, none⟩)) μ = some (.int .u16 2) := load_cell ((xμ.2 g lg).trans gg) (by simp only [aggOf, Try.underlying22]) rfl
    have lc : opLoad Try.prog 62 (.pointer (some ⟨b, 0, none⟩)) μ = some (.agg #[.int .u16 2, .int .u16 n, .int .i64 pr, .slice a k z]) := by
      simp only [opLoad, (xμ.2 b hbl).trans gb, aggOf, Try.underlying62, ts62]
      rfl
    simp only [Nat.reduceAdd, reduceIte, Nat.reduceEqDiff, reduceCtorEq, opLen, Int.reduceLT, Int.reduceEq, opConvert, Nat.reduceLT, undef, Nat.reduceLeDiff, Array.toList, bin_geq26, bin_mapn, bin_pnn, bin_pne, veq_map, bld66, bld98, bld56, bld62, one_u16, one_letter, no_ints, no_bytes, wk4, wk5, wk0, fxC22i, e0, e1, e5, e11, e12, e13, h1, h2, lid, lc, bld66, one_letter]
    refine R.push (P := Try.prog) Try.underlying34 ts66 (by decide) tz66 tb66 (by decide) rfl rfl (by omega) rfl rfl fun a' q' m' r2 R2 => ?_
    simp only [Nat.reduceAdd, reduceIte, Nat.reduceEqDiff, reduceCtorEq, opLen, Int.reduceLT, Int.reduceEq, opConvert, opIndexAddr, opLoad, Nat.reduceLT, undef, Nat.reduceLeDiff, Array.toList, bin_geq26, bin_mapn, bin_pnn, bin_pne, veq_map, bld66, bld98, bld56, bld62, one_u16, one_letter, no_ints, no_bytes, wk4, wk5, wk0, fxC22i, e0, e1, e5, e11, e12, e13]
    refine ⟨q - 1, by omega, j + 1, r2, _, by omega, ?_, rfl, ?_⟩
    · have ej : (gsv.take (j + 1)).flatMap (fun to => letC 9 to 2 n pr a k z) = (gsv.take j).flatMap (fun to => letC 9 to 2 n pr a k z) ++ letC 9 gsv[j] 2 n pr a k z := by
        rw [List.take_succ_eq_append_getElem hj, List.flatMap_append]; simp
      rw [ej]; exact R2
    · rw [wrap_i64 (by omega) (by omega)]; rfl
  · obtain rfl : j = 3 := by omega
    simp only [Nat.reduceAdd, reduceIte, Nat.reduceEqDiff, reduceCtorEq, opLen, Int.reduceLT, Int.reduceEq, opConvert, opIndexAddr, opLoad, Nat.reduceLT, undef, Nat.reduceLeDiff, Array.toList, bin_geq26, bin_mapn, bin_pnn, bin_pne, veq_map, bld66, bld98, bld56, bld62, one_u16, one_letter, no_ints, no_bytes, wk4, wk5, wk0, fxC22i, e5, e12, e13]
    exact hK μ pv' r' R.1 R.2.1 R.2.2
theorem gcall_is {m : Mem} {ow : Nat → Nat} {g ob rb r k : Nat} {pv sv ov : Value} {S : Sg} {n pr : Int} {av : Value} {s : List Int} (H : Gu m ow g ob rb r pv sv ov S) (hr : mget S.res n = none) (ho : mget S.opn n = none) (n6 : 0 ≤ n ∧ n < 6) (hp : pr = (k : Int) + 1) (hk : k < 3) (fa : FRow m av 1 s.length (byteCells s)) (hs : s.length ≤ 4000) (hor : S.order.length < 256) {K : Value → Mem → Prop}
    (hK : ∀ m' ow' r' ov' w rr pb tb aa az, Gu m' ow' g ob rb r' pv sv ov' { S with opn := mput S.opn n ⟨pb, tb, S.time, ⟨k, 0, [], [], []⟩, pr, s⟩, order := S.order ++ [n] } → Pz m m' → (∀ j, j < m.next → ow' j = ow j) → (∀ j, j < m.next → ow j ≠ 1 → m'.get j = m.get j) → OwnI rr 66 26 m' w 3 (lets n pr aa s.length az) → m.next ≤ rr → ow' rr = ow rr → FRow m' (.slice aa s.length az) 1 s.length (byteCells s) → K (.tuple #[w, .int .i64 0]) m') : Ret Try.prog 10 [.pointer (some ⟨g, 0, none⟩), .int .u16 n, .int .i64 pr, av] m K := by
  refine Ret.pz ?_
  refine ret_wp [(9, [3]), (15, [0, 5])] Try.func10 rfl (by decide) (by kernel_rfl) ?_
  have gg := H.gg
  have l1 := look_res H.mr hr
  obtain ⟨m1, hm1⟩ : ∃ m1, m1 = (m.new (.cells [.int .i64 0, .int .i64 0, .slice none 0 0] 39 true)).set m.next (.cells [.int .i64 0, .int .i64 0, .slice none 0 0] 39 true) := ⟨_, rfl⟩
  have x1 : Ext m m1 := by rw [hm1]; exact (Ext.new _ _).set (Nat.le_refl _)
  have st1 := st_ans m 0 0 (.slice none 0 0) rfl
  rw [← hm1] at st1
  clear hm1
  have H1 := H.ext x1
  have gg1 := H1.gg
  have l2 := H1.mo.absent (P := Try.prog) keyU_ok Try.underlying83 tz93 rfl ho false
  have lfa : opLoad Try.prog 32 (.pointer (some ⟨g, 2, none⟩)) m1 = some (faceV pv) := by
    have := load_agg (P := Try.prog) (t := 32) (sz := 6) (off := 2) gg1 (by simp only [aggOf, Try.underlying32]) ts32 (by simp)
    exact this
  have lmr : opLoad Try.prog 72 (.pointer (some ⟨g, 10, none⟩)) m = some (.map (some rb)) := load_cell gg (by simp only [aggOf, Try.underlying72]) rfl
  have lmo : ∀ M, M.get g = m.get g → opLoad Try.prog 83 (.pointer (some ⟨g, 9, none⟩)) M = some (.map (some ob)) := fun M h => load_cell (h.trans gg) (by simp only [aggOf, Try.underlying83]) rfl
  have lmo0 := lmo m rfl
  have lmo1 := lmo m1 (x1.2 g H.lg)
  simp only [wk6, Nat.reduceBEq, wk1, wk3, forall_eq, evOp, evParts, okVal, ev1, evs, evOpt, envOf, List.lookup_nil, List.size_toArray, List.length_cons, List.length_nil, List.range, List.range.loop, Nat.zero_add, Nat.reduceAdd, Bool.not_false, Bool.not_true, Bool.true_or, if_true, if_false, reduceIte, Nat.reduceEqDiff, reduceCtorEq, List.getElem?_toArray, List.getElem?_cons_zero, List.getElem?_cons_succ, guardOf, constOk, constCell, evBuiltin, opLen, List.head?_cons, foldV, min2V, max2V, Int.reduceLT, Int.reduceEq, Kend, resOf, Bool.false_eq_true, Bool.true_eq_false, IntKind.signed, IntKind.max, opConvert, opIndexAddr, aggOf, Option.some.injEq, Value.bool.injEq, exists_eq_left', true_and, forall_const, decide_eq_true_eq, decide_eq_false_iff_not, Int.natCast_nonneg, and_self, Int.toNat_natCast, Nat.mul_one, List.append_nil, beq_self_eq_true, Nat.lt_irrefl, Nat.zero_lt_succ, Nat.reduceLT, Option.bind_some, undef, opBox, Value.cells, setCells, Nat.reduceLeDiff, Array.toList, bin_geq26, bin_mapn, bin_pnn, bin_pne, veq_map, bld66, bld98, bld56, bld62, one_u16, one_letter, no_ints, no_bytes, wk5, wk0, fxC22i, lmo0, lmr, l1, st1, lmo1, l2, lfa]
  refine find_ret H1.fp hp hk fun m2 x2 => ?_
  have st2 : opStore Try.prog 92 (.pointer (some ⟨m2.next, 0, none⟩)) (procV S.time k) (m2.new (.cells [.string ⟨#[]⟩, .int .i64 0, .int .u8 0, .int .i64 0, .slice none 0 0, .slice none 0 0, .int .u8 0, .int .i64 0, .slice none 0 0, .slice none 0 0, .int .u8 0, .int .i64 0] 92 true)) = some ((m2.new (.cells [.string ⟨#[]⟩, .int .i64 0, .int .u8 0, .int .i64 0, .slice none 0 0, .slice none 0 0, .int .u8 0, .int .i64 0, .slice none 0 0, .slice none 0 0, .int .u8 0, .int .i64 0] 92 true)).set m2.next (.cells (procC S.time k) 92 true)) := by
    simp only [opStore, new_get, ts92, procV, procC, Value.cells]
    rfl
  obtain ⟨m3, hm3⟩ : ∃ m3, m3 = (m2.new (.cells [.string ⟨#[]⟩, .int .i64 0, .int .u8 0, .int .i64 0, .slice none 0 0, .slice none 0 0, .int .u8 0, .int .i64 0, .slice none 0 0, .slice none 0 0, .int .u8 0, .int .i64 0] 92 true)).set m2.next (.cells (procC S.time k) 92 true) := ⟨_, rfl⟩
  have x3 : Ext m2 m3 := by rw [hm3]; exact (Ext.new _ _).set (Nat.le_refl _)
  have g3 : m3.get m2.next = some (.cells (procC S.time k) 92 true) := by rw [hm3]; exact set_get _ _ _
  have n3 : m2.next < m3.next := by rw [hm3]; exact Nat.lt_succ_self _
  rw [← hm3] at st2
  clear hm3
  have x13 := x2.trans x3
  have H3 := H1.ext x13
  simp only [wk6, Nat.reduceBEq, wk1, wk3, forall_eq, evOp, evParts, okVal, ev1, evs, evOpt, envOf, List.lookup_nil, List.size_toArray, List.length_cons, List.length_nil, List.range, List.range.loop, Nat.zero_add, Nat.reduceAdd, Bool.not_false, Bool.not_true, Bool.true_or, if_true, if_false, reduceIte, Nat.reduceEqDiff, reduceCtorEq, List.getElem?_toArray, List.getElem?_cons_zero, List.getElem?_cons_succ, guardOf, constOk, constCell, evBuiltin, opLen, List.head?_cons, foldV, min2V, max2V, Int.reduceLT, Int.reduceEq, Kend, resOf, Bool.false_eq_true, Bool.true_eq_false, IntKind.signed, IntKind.max, opConvert, opIndexAddr, aggOf, Option.some.injEq, Value.bool.injEq, exists_eq_left', true_and, forall_const, decide_eq_true_eq, decide_eq_false_iff_not, Int.natCast_nonneg, and_self, Int.toNat_natCast, Nat.mul_one, List.append_nil, beq_self_eq_true, Nat.lt_irrefl, Nat.zero_lt_succ, Nat.reduceLT, Option.bind_some, undef, opBox, Value.cells, setCells, Nat.reduceLeDiff, Array.toList, bin_geq26, bin_mapn, bin_pnn, bin_pne, veq_map, bld66, bld98, bld56, bld62, one_u16, one_letter, no_ints, no_bytes, wk5, wk0, fxC22i, st2]
  refine Loose.by (fun y => y = g) ?_
  have gg3 := H3.gg
  have ltr : ∀ M, M.get g = m3.get g → opLoad Try.prog 22 (.pointer (some ⟨g, 1, none⟩)) M = some (.int .u16 2) := fun M h => load_cell (h.trans gg3) (by simp only [aggOf, Try.underlying22]) rfl
  have ltr3 := ltr m3 rfl
  have sha : Shows (m3.new (.cells [] 5 true)) av (byteCells s) := (fa.pz ((x1.trans x13).pz.trans (Pz.new _ _))).shows
  obtain ⟨m4, r4, q1, q2, q3, q4, x4⟩ := copy_row (P := Try.prog) wtc (added_bytes wtc sha) (by omega)
  have lg3 := H3.lg
  have nx4 := x4.1
  have hg3 : (m3.new (.cells [] 5 true)).get g = m3.get g := new_get_ne _ (by omega)
  have hg4 : m4.get g = m3.get g := x4.2 g lg3
  have st4 : opStore Try.prog 62 (.pointer (some ⟨m4.next, 0, none⟩)) (callV 2 n pr (.slice (some ⟨r4, 0, none⟩) s.length 1)) (m4.new (.cells [.int .u16 0, .int .u16 0, .int .i64 0, .slice none 0 0] 62 true)) = some ((m4.new (.cells [.int .u16 0, .int .u16 0, .int .i64 0, .slice none 0 0] 62 true)).set m4.next (.cells [.int .u16 2, .int .u16 n, .int .i64 pr, .slice (some ⟨r4, 0, none⟩) s.length 1] 62 true)) := by
    simp only [opStore, new_get, ts62, Value.cells]
    rfl
  obtain ⟨m5, hm5⟩ : ∃ m5, m5 = (m4.new (.cells [.int .u16 0, .int .u16 0, .int .i64 0, .slice none 0 0] 62 true)).set m4.next (.cells [.int .u16 2, .int .u16 n, .int .i64 pr, .slice (some ⟨r4, 0, none⟩) s.length 1] 62 true) := ⟨_, rfl⟩
  have hg4' : (m4.new (.cells [.int .u16 0, .int .u16 0, .int .i64 0, .slice none 0 0] 62 true)).get g = m4.get g := new_get_ne _ (by omega)
  have x5 : Ext m4 m5 := by rw [hm5]; exact (Ext.new _ _).set (Nat.le_refl _)
  have g5 : m5.get m4.next = some (.cells [.int .u16 2, .int .u16 n, .int .i64 pr, .slice (some ⟨r4, 0, none⟩) s.length 1] 62 true) := by rw [hm5]; exact set_get _ _ _
  have n5 : m4.next < m5.next := by rw [hm5]; exact Nat.lt_succ_self _
  rw [← hm5] at st4
  clear hm5
  have hg5 : m5.get g = m4.get g := x5.2 g (by omega)
  have l62 : ∀ M, Ext m5 M → opLoad Try.prog 62 (.pointer (some ⟨m4.next, 0, none⟩)) M = some (callV 2 n pr (.slice (some ⟨r4, 0, none⟩) s.length 1)) := fun M y => by
    simp only [opLoad, (y.2 m4.next n5).trans g5, aggOf, Try.underlying62, ts62]
    rfl
  have l625 := l62 m5 (Ext.refl _)
  have ng3 : ¬ g = m3.next := by omega
  have ng4 : ¬ g = m4.next := by omega
  simp only [wk6, Nat.reduceBEq, wk1, wk3, forall_eq, evOp, evParts, okVal, ev1, evs, evOpt, envOf, List.lookup_nil, List.size_toArray, List.length_cons, List.length_nil, List.range, List.range.loop, Nat.zero_add, Nat.reduceAdd, Bool.not_false, Bool.not_true, Bool.true_or, if_true, if_false, reduceIte, Nat.reduceEqDiff, reduceCtorEq, List.getElem?_toArray, List.getElem?_cons_zero, List.getElem?_cons_succ, guardOf, constOk, constCell, evBuiltin, opLen, List.head?_cons, foldV, min2V, max2V, Int.reduceLT, Int.reduceEq, Kend, resOf, Bool.false_eq_true, Bool.true_eq_false, IntKind.signed, IntKind.max, opConvert, opIndexAddr, aggOf, Option.some.injEq, Value.bool.injEq, exists_eq_left', true_and, forall_const, decide_eq_true_eq, decide_eq_false_iff_not, Int.natCast_nonneg, and_self, Int.toNat_natCast, Nat.mul_one, List.append_nil, beq_self_eq_true, Nat.lt_irrefl, Nat.zero_lt_succ, Nat.reduceLT, Option.bind_some, undef, opBox, Value.cells, setCells, Nat.reduceLeDiff, Array.toList, bin_geq26, bin_mapn, bin_pnn, bin_pne, veq_map, bld66, bld98, bld56, bld62, one_u16, one_letter, no_ints, no_bytes, wk5, wk0, fxC22i, ltr3, no_bytes, q1, hg3, hg4, hg4', st4, hg5, l625, ng3, ng4]
  refine callck_ret (k := s.length) (by simp only [opLen, Try.underlying23]) (by omega) hs fun m6 x6 => ?_
  have x36 := (x4.trans x5).trans x6
  have H6 := H3.ext x36
  have gg6 := H6.gg
  have lov : opLoad Try.prog 45 (.pointer (some ⟨g, 11, none⟩)) m6 = some ov := load_cell gg6 (by simp only [aggOf, Try.underlying45]) rfl
  have lo := H6.oo.len (P := Try.prog) Try.underlying45
  have hd : decide (256 ≤ (S.order.length : Int)) = false := decide_eq_false (by omega)
  simp only [wk6, Nat.reduceBEq, wk1, wk3, forall_eq, Nat.reduceAdd, reduceIte, Nat.reduceEqDiff, reduceCtorEq, Int.reduceLT, Int.reduceEq, opConvert, opIndexAddr, Nat.reduceLT, undef, Nat.reduceLeDiff, Array.toList, bin_geq26, bin_mapn, bin_pnn, bin_pne, veq_map, bld66, bld98, bld56, bld62, one_u16, one_letter, no_ints, no_bytes, wk4, wk5, wk0, fxC22i, lov, lo, hd]
  refine Loose.by (fun y => y = m4.next ∨ y = m2.next) ?_
  have g26 := (x36.2 m2.next n3).trans g3
  have l626 := l62 m6 x6
  have nx6 := x6.1
  have lco : opLoad Try.prog 77 (.pointer (some ⟨m2.next, 10, none⟩)) m6 = some (.int .u8 k) := load_cell g26 (by simp only [aggOf, Try.underlying77, Try.underlying5]) rfl
  simp only [wk6, Nat.reduceBEq, wk1, wk3, forall_eq, Nat.reduceAdd, reduceIte, Nat.reduceEqDiff, reduceCtorEq, opLen, Int.reduceLT, Int.reduceEq, opConvert, opIndexAddr, Nat.reduceLT, undef, Nat.reduceLeDiff, Array.toList, bin_geq26, bin_mapn, bin_pnn, bin_pne, veq_map, bld66, bld98, bld56, bld62, one_u16, one_letter, no_ints, no_bytes, wk4, wk5, wk0, fxC22i, l626, lco, vqC, true_or, or_true]
  have q36 : m3.next ≤ r4 ∧ r4 < m4.next := ⟨q3, q4⟩
  have hx6 := x6.1
  have hx5 := x5.1
  have hx13 := x13.1
  have hx1 := x1.1
  have r46 : m6.get r4 = some (.cells (byteCells s) 5 true) := ((x5.trans x6).2 r4 q4).trans q2
  have o6 : OwnI r4 5 1 m6 (.slice (some ⟨r4, 0, none⟩) s.length 1) s.length (byteCells s) := Brow.own (TB := 5) ⟨by omega, r46⟩
  obtain ⟨mF, zF, fF, nF, kF⟩ := o6.frz
  have x06 := (x1.trans x13).trans x36
  have hx06 := x06.1
  obtain ⟨ow0, how0⟩ : ∃ w, w = tagr ow m m6 0 := ⟨_, rfl⟩
  have a0 : ∀ j, j < m.next → ow0 j = ow j := fun j hj => by rw [how0]; exact tagr_old ow 0 hj
  have H6 := H.keep (ow' := ow0) x06.pz a0 fun j hj _ _ => x06.2 j hj
  have t4 : ow0 r4 = 0 := by rw [how0]; exact tagr_new ow 0 (by omega) (by omega)
  have HF := H6.keep (ow' := ow0) zF.pz (fun _ _ => rfl) fun j hj h1 _ => kF j (fun e => by rw [e, t4] at h1; omega)
  refine Ret.thaw zF ?_
  refine cnew_ret fun m7 T7 x7 => ?_
  have nx7 := x7.1
  have g2F : mF.get m2.next = some (.cells (procC S.time k) 92 true) := (kF m2.next (by omega)).trans g26
  have g27 := (x7.2 m2.next (by omega)).trans g2F
  have lti : opLoad Try.prog 3 (.pointer (some ⟨m2.next, 11, none⟩)) m7 = some (.int .i64 S.time) := load_cell g27 (by simp only [aggOf, Try.underlying3]) rfl
  have h47 : m7.get m4.next = m6.get m4.next := (x7.2 _ (by omega)).trans (kF _ (by omega))
  have h27 : m7.get m2.next = m6.get m2.next := (x7.2 _ (by omega)).trans (kF _ (by omega))
  have ne4 : ¬ m4.next = m7.next := by omega
  have ne2 : ¬ m2.next = m7.next := by omega
  simp only [wk6, Nat.reduceBEq, wk1, wk3, forall_eq, Nat.reduceAdd, reduceIte, Nat.reduceEqDiff, reduceCtorEq, opLen, Int.reduceLT, Int.reduceEq, opConvert, opIndexAddr, Nat.reduceLT, undef, Nat.reduceLeDiff, Array.toList, bin_geq26, bin_mapn, bin_pnn, bin_pne, veq_map, bld66, bld98, bld56, bld62, one_u16, one_letter, no_ints, no_bytes, wk4, wk5, wk0, fxC22i, h47, h27, lti, bld98, ne4, ne2, true_or, or_true]
  obtain ⟨tb, htb⟩ : ∃ tb, tb = mF.next := ⟨_, rfl⟩
  rw [← htb] at T7 ⊢
  obtain ⟨tmv, tnv, tav, trn, tra, tcs, T7⟩ := T7
  have x8 := Ext.new m7 (.cells [.int .u16 2, .int .u16 n, .int .i64 pr, .slice (some ⟨r4, 0, none⟩) s.length 1, .pointer (some ⟨tb, 0, none⟩), .int .i64 S.time] 98 true)
  have g8 := new_get m7 (.cells [.int .u16 2, .int .u16 n, .int .i64 pr, .slice (some ⟨r4, 0, none⟩) s.length 1, .pointer (some ⟨tb, 0, none⟩), .int .i64 S.time] 98 true)
  have n8 : (m7.new (.cells [.int .u16 2, .int .u16 n, .int .i64 pr, .slice (some ⟨r4, 0, none⟩) s.length 1, .pointer (some ⟨tb, 0, none⟩), .int .i64 S.time] 98 true)).next = m7.next + 1 := rfl
  generalize m7.new (.cells [.int .u16 2, .int .u16 n, .int .i64 pr, .slice (some ⟨r4, 0, none⟩) s.length 1, .pointer (some ⟨tb, 0, none⟩), .int .i64 S.time] 98 true) = m8 at x8 g8 n8 ⊢
  obtain ⟨pb, hpb⟩ : ∃ pb, pb = m7.next := ⟨_, rfl⟩
  rw [← hpb] at g8 n8 ⊢
  have hpb8 : pb < m8.next := by omega
  obtain ⟨ow7, how7⟩ : ∃ w, w = tagr ow0 mF m7 (2 + n.toNat) := ⟨_, rfl⟩
  obtain ⟨ow8, how8⟩ : ∃ w, w = tagr ow7 m7 m8 (8 + n.toNat) := ⟨_, rfl⟩
  have a7 : ∀ j, j < mF.next → ow7 j = ow0 j := fun j hj => by rw [how7]; exact tagr_old ow0 _ hj
  have a8 : ∀ j, j < m7.next → ow8 j = ow7 j := fun j hj => by rw [how8]; exact tagr_old ow7 _ hj
  have s7 : ∀ j, tb ≤ j → j < m7.next → ow8 j = 2 + n.toNat := fun j h1 h2 => by rw [a8 j h2, how7]; exact tagr_new ow0 _ (by omega) h2
  have s8 : ow8 pb = 8 + n.toNat := by rw [how8]; exact tagr_new ow7 _ (by omega) hpb8
  have ag8 : ∀ j, j < m.next → ow8 j = ow j := fun j hj => (a8 j (by omega)).trans ((a7 j (by omega)).trans (a0 j hj))
  have H8 : Gu m8 ow8 g ob rb r pv sv ov S := HF.keep (x7.trans x8).pz (fun j hj => (a8 j (by omega)).trans (a7 j hj)) fun j hj _ _ => (x7.trans x8).2 j hj
  have T8 : Tb m8 ow8 (2 + n.toNat) tb ⟨k, 0, [], [], []⟩ := by
    have T8 := T7.ext x8
    refine ⟨_, _, _, _, _, _, ⟨T8.gi, T8.fm, T8.on, T8.oa, T8.rows, T8.len, ⟨Nat.zero_le _, T8.li.2⟩, Nat.zero_le _, Nat.zero_le _, T8.ni, T8.ai⟩, s7 tb (Nat.le_refl _) T7.li.2, fun hv => s7 _ T7.ln (oi_lt T7.on hv), fun hv => s7 _ T7.la (oi_lt T7.oa hv)⟩
  have P8 : Pe m8 ow8 n ⟨pb, tb, S.time, ⟨k, 0, [], [], []⟩, pr, s⟩ := ⟨n6, ⟨_, g8, fF.pz (x7.trans x8).pz⟩, hpb8, s8, T8⟩
  have z08 : Pz m m8 := x06.pz.trans (zF.pz.trans (x7.trans x8).pz)
  have f08 : ∀ j, j < m.next → m8.get j = m.get j := fun j hj => by rw [(x7.trans x8).2 j (by omega), kF j (by omega), x06.2 j hj]
  have n08 : m.next ≤ m8.next := by omega
  have out8 : ∀ j, m8.next ≤ j → ow8 j = ow j := fun j hj => by rw [how8, tagr_out ow7 _ (by omega), how7, tagr_out ow0 _ (by omega), how0, tagr_out ow _ (by omega)]
  have f8 := fF.pz (x7.trans x8).pz
  clear x8 h47 h27 ne4 ne2 lti g27 x7 nx7 l626 lco g26 nx6 gg6 lov hg3 hg4 hg4' hg5 l62 l625 g5 n5 ltr ltr3 gg3 g3 n3 lmo lmo0 lmo1 lmr lfa l1 l2 gg gg1 st1 st2 st4 q1 q2 q3 q4 sha T7 s7 a7 a8 how7 how8 g2F kF fF zF H6 HF o6 r46 T8
  obtain ⟨es0, hob, _⟩ := id H8.mo
  obtain ⟨es1, hrb, _⟩ := id H8.mr
  have gg8 := H8.gg
  have lmo8 : opLoad Try.prog 83 (.pointer (some ⟨g, 9, none⟩)) m8 = some (.map (some ob)) := load_cell gg8 (by simp only [aggOf, Try.underlying83]) rfl
  obtain ⟨es, w1, w2⟩ := H8.mo.update (P := Try.prog) (v := .pointer (some ⟨pb, 0, none⟩)) keyU_ok Try.underlying83 n (a := ⟨pb, tb, S.time, ⟨k, 0, [], [], []⟩, pr, s⟩) rfl
  obtain ⟨m9, hm9⟩ : ∃ m9, m9 = m8.set ob (.map es) := ⟨_, rfl⟩
  have k9 : ∀ j, j ≠ ob → m9.get j = m8.get j := fun j hj => by rw [hm9]; exact set_get_ne _ hj
  have n9 : m9.next = m8.next := by rw [hm9]; rfl
  have z9 : Pz m8 m9 := by rw [hm9]; exact Pz.mset hob _
  rw [← hm9] at w1 w2
  clear hm9
  have hgo : g ≠ ob := mapne gg8 hob
  have hgr : g ≠ rb := mapne gg8 hrb
  have gg9 := (k9 g hgo).trans gg8
  have lov9 : opLoad Try.prog 45 (.pointer (some ⟨g, 11, none⟩)) m9 = some ov := load_cell gg9 (by simp only [aggOf, Try.underlying45]) rfl
  have o9 : OwnI r 22 1 m9 ov S.order.length (nums S.order) := H8.oo.keep (by omega) fun _ => k9 r H8.ro
  have sn : ShowsR 1 (m9.new (.cells [.int .u16 n] 22 true)) (.slice (some ⟨m9.next, 0, none⟩) 1 1) 1 [.int .u16 n] := ⟨_, _, rfl, by simp [shown, new_get], rfl⟩
  obtain ⟨oa, oq, m10, r10, p10, o10, n10a, n10b, f10⟩ := (o9.ext (Ext.new m9 (.cells [.int .u16 n] 22 true))).push (P := Try.prog) (t := 45) (tx := 45) Try.underlying45 ⟨_, Try.underlying45⟩ ts22 (by decide) tz22 tb22 (by decide) rfl rfl sn (by omega)
  simp only [new_next] at n10a n10b f10
  have f10' : ∀ j, j < m9.next → (j = r → ov = .slice none 0 0) → m10.get j = m9.get j := fun j h1 h2 => by rw [f10 j (by omega) h2, new_get_ne _ (by omega)]
  have z10 : Pz m9 m10 := (Pz.new _ _).trans (st_append p10).pz
  have lg8 := H8.lg
  have lo8 := H8.lo
  have lr8 := H8.lr
  have gg10 : m10.get g = some (.cells (gC pv sv ob rb ov) 85 true) := by rw [f10' g (by omega) (fun h => (H8.rg h.symm).elim), gg9]
  obtain ⟨m11, hm11⟩ : ∃ m11, m11 = m10.set g (.cells (gC pv sv ob rb (.slice oa (S.order.length + 1) oq)) 85 true) := ⟨_, rfl⟩
  have st11 : opStore Try.prog 45 (.pointer (some ⟨g, 11, none⟩)) (.slice oa (S.order.length + 1) oq) m10 = some m11 := by
    rw [hm11]
    exact store_one (P := Try.prog) gg10 ts45 rfl (by simp)
  have k11 : ∀ j, j ≠ g → m11.get j = m10.get j := fun j hj => by rw [hm11]; exact set_get_ne _ hj
  have gg11 : m11.get g = some (.cells (gC pv sv ob rb (.slice oa (S.order.length + 1) oq)) 85 true) := by rw [hm11]; exact set_get _ _ _
  have n11 : m11.next = m10.next := by rw [hm11]; rfl
  have z11 : Pz m10 m11 := by rw [hm11]; exact Pz.set gg10 _
  clear hm11
  have z811 := (z9.trans z10).trans z11
  have fr : ∀ j, j < m8.next → ow8 j ≠ 1 → m11.get j = m8.get j := fun j hj h1 => by
    rw [k11 j (fun e => h1 (e ▸ H8.tg)), f10' j (by omega) (fun e => Classical.byContradiction fun q => h1 (e ▸ H8.tv q)), k9 j (fun e => h1 (e ▸ H8.to))]
  obtain ⟨ow11, how11⟩ : ∃ w, w = tagr ow8 m8 m11 1 := ⟨_, rfl⟩
  have a11 : ∀ j, j < m8.next → ow11 j = ow8 j := fun j hj => by rw [how11]; exact tagr_old ow8 _ hj
  have G11 : Gu m11 ow11 g ob rb r10 pv sv (.slice oa (S.order.length + 1) oq) { S with opn := mput S.opn n ⟨pb, tb, S.time, ⟨k, 0, [], [], []⟩, pr, s⟩, order := S.order ++ [n] } := by
    refine ⟨gg11, H8.fp.pz z811, H8.fs.pz z811, w2.keep ?_, (H8.mr.keep ?_).mono (AnsR.pz z811), ?_, by omega, by omega, by omega, H8.ne, by omega, by omega, by omega, (a11 g lg8).trans H8.tg, (a11 ob lo8).trans H8.to, (a11 rb lr8).trans H8.tr, fun _ => by rw [how11]; exact tagr_new ow8 _ (by omega) (by omega), fun q hq => ?_, mput_nodup H8.nd⟩
    · rw [k11 ob (fun h => hgo h.symm), f10' ob (by omega) (fun h => (H8.ro h.symm).elim)]
    · rw [k11 rb (fun h => hgr h.symm), f10' rb (by omega) (fun h => (H8.rr h.symm).elim), k9 rb (fun h => H8.ne h.symm)]
    · show OwnI r10 22 1 m11 _ (S.order ++ [n]).length (nums (S.order ++ [n]))
      rw [List.length_append]
      have : nums (S.order ++ [n]) = nums S.order ++ [.int .u16 n] := List.map_append
      rw [this]
      exact o10.keep (by omega) fun _ => k11 r10 (by omega)
    · rcases mput_in H8.nd q hq with h | h
      · rw [h]
        exact P8.keep z811 a11 fun j hj e => fr j hj (by omega)
      · exact (H8.pe q h.1).keep z811 a11 fun j hj e => fr j hj (by omega)
  simp only [wk6, Nat.reduceBEq, wk1, wk3, forall_eq, evOp, evParts, okVal, ev1, evs, evOpt, envOf, List.lookup_nil, List.size_toArray, List.length_cons, List.length_nil, List.range, List.range.loop, Nat.zero_add, Nat.reduceAdd, Bool.not_false, Bool.not_true, Bool.true_or, if_true, if_false, reduceIte, Nat.reduceEqDiff, reduceCtorEq, List.getElem?_toArray, List.getElem?_cons_zero, List.getElem?_cons_succ, guardOf, constOk, constCell, evBuiltin, opLen, List.head?_cons, foldV, min2V, max2V, Int.reduceLT, Int.reduceEq, Kend, resOf, Bool.false_eq_true, Bool.true_eq_false, IntKind.signed, IntKind.max, opConvert, opIndexAddr, aggOf, Option.some.injEq, Value.bool.injEq, exists_eq_left', true_and, forall_const, decide_eq_true_eq, decide_eq_false_iff_not, Int.natCast_nonneg, and_self, Int.toNat_natCast, Nat.mul_one, List.append_nil, beq_self_eq_true, Nat.lt_irrefl, Nat.zero_lt_succ, Nat.reduceLT, Option.bind_some, undef, opBox, Value.cells, setCells, Nat.reduceLeDiff, Array.toList, bin_geq26, bin_mapn, bin_pnn, bin_pne, veq_map, bld66, bld98, bld56, bld62, one_u16, one_letter, no_ints, no_bytes, wk5, wk0, fxC22i, lmo8, w1, lov9, one_u16, p10, st11, true_or, or_true]
  refine ask_is (b := pb) gg11 (by omega) (H8.fs.pz z811) ((fr pb hpb8 (by omega)).trans g8) (by omega) fun m12 w r12 x12 o12 h12 => ?_
  obtain ⟨wa, wq, rfl⟩ := o12.is
  simp only [wk6, Nat.reduceBEq, wk1, wk3, forall_eq, Nat.reduceAdd, reduceIte, Nat.reduceEqDiff, reduceCtorEq, opLen, Int.reduceLT, Int.reduceEq, opConvert, opIndexAddr, opLoad, Nat.reduceLT, undef, Nat.reduceLeDiff, Array.toList, bin_geq26, bin_mapn, bin_pnn, bin_pne, veq_map, bld66, bld98, bld56, bld62, one_u16, one_letter, no_ints, no_bytes, wk4, wk5, wk0, fxC22i]
  exact fun zz => hK m12 ow11 r10 _ _ r12 pb tb _ _ (G11.ext x12) zz (fun j hj => (a11 j (by omega)).trans (ag8 j hj)) (fun j hj h1 => by rw [x12.2 j (by omega), fr j (by omega) (by rw [ag8 j hj]; exact h1), f08 j hj]) o12 (by omega) (by rw [how11, tagr_out ow8 _ (by omega)]; exact out8 r12 (by omega)) (f8.pz (z811.trans x12.pz))
end Go.Proofs.Ytimjcfaciiimmaa
