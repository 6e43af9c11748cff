/- A text of the abstract machine. -/

/- A guest: time goes by. -/
import Derived.Test.YtimjcfaciiimmaaAmC22d
import Derived.Test.YtimjcfaciiimmaaAmBun
set_option linter.unusedSimpArgs false
set_option linter.unusedVariables false
set_option maxRecDepth 100000
set_option maxHeartbeats 4000000
namespace Go.Proofs.Ytimjcfaciiimmaa
open Go Go.AM Go.AM.Crc Go.AM.Wire
theorem fxC22e : type_of% (And.intro (And.intro (And.intro (And.intro (And.intro (And.intro (And.intro @Try.underlying3 @Try.underlying4) (And.intro @Try.underlying5 @Try.underlying9)) (And.intro (And.intro @Try.underlying22 @Try.underlying23) (And.intro @Try.underlying25 (And.intro @Try.underlying26 @Try.underlying30)))) (And.intro (And.intro (And.intro @Try.underlying32 @Try.underlying34) (And.intro @Try.underlying35 @Try.underlying39)) (And.intro (And.intro @Try.underlying40 @Try.underlying45) (And.intro @Try.underlying56 (And.intro @Try.underlying62 @Try.underlying66))))) (And.intro (And.intro (And.intro (And.intro @Try.underlying72 @Try.underlying75) (And.intro @Try.underlying77 @Try.underlying83)) (And.intro (And.intro @Try.underlying85 @Try.underlying92) (And.intro @Try.underlying93 (And.intro @Try.underlying94 @Try.underlying98)))) (And.intro (And.intro (And.intro @ts3 @ts4) (And.intro @ts5 (And.intro @ts9 @ts22))) (And.intro (And.intro @ts23 @ts25) (And.intro @ts26 (And.intro @ts30 @ts32)))))) (And.intro (And.intro (And.intro (And.intro (And.intro @ts34 @ts35) (And.intro @ts39 @ts40)) (And.intro (And.intro @ts45 @ts56) (And.intro @ts62 (And.intro @ts66 @ts72)))) (And.intro (And.intro (And.intro @ts75 @ts77) (And.intro @ts83 @ts85)) (And.intro (And.intro @ts92 @ts93) (And.intro @ts94 (And.intro @ts98 @tz3))))) (And.intro (And.intro (And.intro (And.intro @tz4 @tz5) (And.intro @tz9 @tz22)) (And.intro (And.intro @tz23 @tz25) (And.intro @tz26 (And.intro @tz30 @tz32)))) (And.intro (And.intro (And.intro @tz34 @tz35) (And.intro @tz39 (And.intro @tz40 @tz45))) (And.intro (And.intro @tz56 @tz62) (And.intro @tz66 (And.intro @tz72 @tz75))))))) (And.intro (And.intro (And.intro (And.intro (And.intro (And.intro @tz77 @tz83) (And.intro @tz85 @tz92)) (And.intro (And.intro @tz93 @tz94) (And.intro @tz98 (And.intro @tb3 @tb4)))) (And.intro (And.intro (And.intro @tb5 @tb9) (And.intro @tb22 @tb23)) (And.intro (And.intro @tb25 @tb26) (And.intro @tb30 (And.intro @tb32 @tb34))))) (And.intro (And.intro (And.intro (And.intro @tb35 @tb39) (And.intro @tb40 @tb45)) (And.intro (And.intro @tb56 @tb62) (And.intro @tb66 (And.intro @tb72 @tb75)))) (And.intro (And.intro (And.intro @tb77 @tb83) (And.intro @tb85 (And.intro @tb92 @tb93))) (And.intro (And.intro @tb94 @tb98) (And.intro @fr7 (And.intro @fr8 @fr9)))))) (And.intro (And.intro (And.intro (And.intro (And.intro @fr10 @fr11) (And.intro @fr12 @fr13)) (And.intro (And.intro @fr14 @fr23) (And.intro @fr24 (And.intro @fr25 @fr26)))) (And.intro (And.intro (And.intro @bz39 @bz32) (And.intro @bz92 @al39)) (And.intro (And.intro @al32 @al92) (And.intro @al62 (And.intro @bz85 @fa32_0))))) (And.intro (And.intro (And.intro (And.intro @fa32_5 @fa39_0) (And.intro @fa39_1 @fa39_2)) (And.intro (And.intro @fa62_0 @fa62_1) (And.intro @fa62_2 (And.intro @fa85_0 @fa85_1)))) (And.intro (And.intro (And.intro @fa85_2 @fa85_3) (And.intro @fa85_4 (And.intro @fa85_5 @fa85_6))) (And.intro (And.intro @fa92_1 @fa92_4) (And.intro @fa92_5 (And.intro @fa98_0 @fa98_2)))))))) := (And.intro (And.intro (And.intro (And.intro (And.intro (And.intro (And.intro @Try.underlying3 @Try.underlying4) (And.intro @Try.underlying5 @Try.underlying9)) (And.intro (And.intro @Try.underlying22 @Try.underlying23) (And.intro @Try.underlying25 (And.intro @Try.underlying26 @Try.underlying30)))) (And.intro (And.intro (And.intro @Try.underlying32 @Try.underlying34) (And.intro @Try.underlying35 @Try.underlying39)) (And.intro (And.intro @Try.underlying40 @Try.underlying45) (And.intro @Try.underlying56 (And.intro @Try.underlying62 @Try.underlying66))))) (And.intro (And.intro (And.intro (And.intro @Try.underlying72 @Try.underlying75) (And.intro @Try.underlying77 @Try.underlying83)) (And.intro (And.intro @Try.underlying85 @Try.underlying92) (And.intro @Try.underlying93 (And.intro @Try.underlying94 @Try.underlying98)))) (And.intro (And.intro (And.intro @ts3 @ts4) (And.intro @ts5 (And.intro @ts9 @ts22))) (And.intro (And.intro @ts23 @ts25) (And.intro @ts26 (And.intro @ts30 @ts32)))))) (And.intro (And.intro (And.intro (And.intro (And.intro @ts34 @ts35) (And.intro @ts39 @ts40)) (And.intro (And.intro @ts45 @ts56) (And.intro @ts62 (And.intro @ts66 @ts72)))) (And.intro (And.intro (And.intro @ts75 @ts77) (And.intro @ts83 @ts85)) (And.intro (And.intro @ts92 @ts93) (And.intro @ts94 (And.intro @ts98 @tz3))))) (And.intro (And.intro (And.intro (And.intro @tz4 @tz5) (And.intro @tz9 @tz22)) (And.intro (And.intro @tz23 @tz25) (And.intro @tz26 (And.intro @tz30 @tz32)))) (And.intro (And.intro (And.intro @tz34 @tz35) (And.intro @tz39 (And.intro @tz40 @tz45))) (And.intro (And.intro @tz56 @tz62) (And.intro @tz66 (And.intro @tz72 @tz75))))))) (And.intro (And.intro (And.intro (And.intro (And.intro (And.intro @tz77 @tz83) (And.intro @tz85 @tz92)) (And.intro (And.intro @tz93 @tz94) (And.intro @tz98 (And.intro @tb3 @tb4)))) (And.intro (And.intro (And.intro @tb5 @tb9) (And.intro @tb22 @tb23)) (And.intro (And.intro @tb25 @tb26) (And.intro @tb30 (And.intro @tb32 @tb34))))) (And.intro (And.intro (And.intro (And.intro @tb35 @tb39) (And.intro @tb40 @tb45)) (And.intro (And.intro @tb56 @tb62) (And.intro @tb66 (And.intro @tb72 @tb75)))) (And.intro (And.intro (And.intro @tb77 @tb83) (And.intro @tb85 (And.intro @tb92 @tb93))) (And.intro (And.intro @tb94 @tb98) (And.intro @fr7 (And.intro @fr8 @fr9)))))) (And.intro (And.intro (And.intro (And.intro (And.intro @fr10 @fr11) (And.intro @fr12 @fr13)) (And.intro (And.intro @fr14 @fr23) (And.intro @fr24 (And.intro @fr25 @fr26)))) (And.intro (And.intro (And.intro @bz39 @bz32) (And.intro @bz92 @al39)) (And.intro (And.intro @al32 @al92) (And.intro @al62 (And.intro @bz85 @fa32_0))))) (And.intro (And.intro (And.intro (And.intro @fa32_5 @fa39_0) (And.intro @fa39_1 @fa39_2)) (And.intro (And.intro @fa62_0 @fa62_1) (And.intro @fa62_2 (And.intro @fa85_0 @fa85_1)))) (And.intro (And.intro (And.intro @fa85_2 @fa85_3) (And.intro @fa85_4 (And.intro @fa85_5 @fa85_6))) (And.intro (And.intro @fa92_1 @fa92_4) (And.intro @fa92_5 (And.intro @fa98_0 @fa98_2))))))))
theorem order_at {m : Mem} {r : Nat} {ov : Value} {n : Int} (o : OwnI r 22 1 m ov 1 (nums [n])) : ∃ p, opIndexAddr Try.prog 45 ov (.int .i64 ((0 : Nat) : Int)) = some (.pointer (some p)) ∧ opLoad Try.prog 22 (.pointer (some p)) m = some (.int .u16 n) := by
  obtain ⟨i, oo, all, e', own, g1, g2, g3, g4, g5, g6⟩ := o.rd.at (P := Try.prog) Try.underlying45 ts22 (j := 0) (by decide)
  refine ⟨_, g1, load_cell g3 (by simp only [aggOf, Try.underlying22]) ?_⟩
  have := g6 0 (by decide)
  rw [Nat.add_zero] at this
  rw [this]
  rfl
theorem tick_none {m : Mem} {g : Nat} {id tr t n : Int} {l : List Int} {res : List (Int × Ans)} (H : GAt m g ⟨id, tr, t, l, [], res, [n]⟩) {K : Value → Mem → Prop} (hK : K (.slice none 0 0) m) : Ret Try.prog 13 [.pointer (some ⟨g, 0, none⟩)] m K := by
  obtain ⟨ob, rb, r, pv, sv, ov, H⟩ := H
  refine ret_wp [] Try.func13 rfl (by decide) (by kernel_rfl) ?_
  have gg := H.gg
  have lo := H.oo.len (P := Try.prog) Try.underlying45
  obtain ⟨p, ix, ld⟩ := order_at H.oo
  have lov : opLoad Try.prog 45 (.pointer (some ⟨g, 11, none⟩)) m = some ov := load_cell gg (by simp only [aggOf, Try.underlying45]) rfl
  have lmo : opLoad Try.prog 83 (.pointer (some ⟨g, 9, none⟩)) m = some (.map (some ob)) := load_cell gg (by simp only [aggOf, Try.underlying83]) rfl
  have l2 := look_open H.mo (n := n) rfl
  have e1 : (([n] : List Int).length : Int) = ((1 : Nat) : Int) := rfl
  rw [show (([n] : List Int).length) = 1 from rfl] at lo
  simp only [Nat.reduceAdd, reduceIte, Nat.reduceEqDiff, reduceCtorEq, Int.reduceLT, Int.reduceEq, opConvert, opIndexAddr, Nat.reduceLT, undef, Nat.reduceLeDiff, Array.toList, bin_geq26, bin_mapn, bin_pnn, bin_pne, veq_map, bld66, bld98, bld56, bld62, one_u16, one_letter, no_ints, no_bytes, bldE, wk4, wk5, wk0, fxC22e, lov, lo]
  refine loop_wp [] (by kernel_rfl) (fun q env μ => ∃ j : Nat, q + j = 1 ∧ μ = m ∧ env 0 = some (.pointer (some ⟨g, 0, none⟩)) ∧ env 3 = some (.slice none 0 0) ∧ env 12 = some ov ∧ env 13 = some (.int .i64 ((1 : Nat) : Int)) ∧ env 14 = some (.int .i64 j)) ?_ 1 ⟨0, rfl, rfl, rfl, rfl, rfl, rfl, rfl⟩
  rintro q env μ ⟨j, hq, rfl, e0, e3, e12, e13, e14⟩
  simp only [Nat.reduceAdd, reduceIte, Nat.reduceEqDiff, reduceCtorEq, opLen, Int.reduceLT, Int.reduceEq, opConvert, opIndexAddr, opLoad, Nat.reduceLT, undef, Nat.reduceLeDiff, Array.toList, bin_geq26, bin_mapn, bin_pnn, bin_pne, veq_map, bld66, bld98, bld56, bld62, one_u16, one_letter, no_ints, no_bytes, bldE, wk4, wk5, wk0, fxC22e, e13, e14]
  refine cond_by (fun hlt => ?_) (fun hge => ?_)
  · obtain rfl : j = 0 := by omega
    simp only [Nat.reduceAdd, reduceIte, Nat.reduceEqDiff, reduceCtorEq, opLen, Int.reduceLT, Int.reduceEq, opConvert, Nat.reduceLT, undef, Nat.reduceLeDiff, Array.toList, bin_geq26, bin_mapn, bin_pnn, bin_pne, veq_map, bld66, bld98, bld56, bld62, one_u16, one_letter, no_ints, no_bytes, bldE, wk4, wk5, wk0, fxC22e, e0, e3, e12, e13, e14, ix, ld, lmo, l2]
    exact ⟨0, by omega, 1, rfl, rfl⟩
  · simp only [Nat.reduceAdd, reduceIte, Nat.reduceEqDiff, reduceCtorEq, opLen, Int.reduceLT, Int.reduceEq, opConvert, opIndexAddr, opLoad, Nat.reduceLT, undef, Nat.reduceLeDiff, Array.toList, bin_geq26, bin_mapn, bin_pnn, bin_pne, veq_map, bld66, bld98, bld56, bld62, one_u16, one_letter, no_ints, no_bytes, bldE, wk4, wk5, wk0, fxC22e, e3, e13, e14]
    exact hK
theorem tick_one {m : Mem} {g b : Nat} {id tr t n left : Int} {l : List Int} {res : List (Int × Ans)} (H : GAt m g ⟨id, tr, t, l, [(n, (b, left))], res, [n]⟩) (hl : -2 ^ 62 < left ∧ left < 2 ^ 62) (hsv : l.length < 2 ^ 30) {K : Value → Mem → Prop}
    (hA : left - 1 ≤ 0 → ∀ m', GAt m' g ⟨id, tr, t, l, [], mput res n ⟨18, 0, []⟩, [n]⟩ → Pz m m' → K (.slice none 0 0) m')
    (hB : 0 < left - 1 → (left - 1).tmod 8 = 0 → ∀ m' a q, GAt m' g ⟨id, tr, t, l, [(n, (b, left - 1))], res, [n]⟩ → Pz m m' → K (.slice a l.length q) m')
    (hC : 0 < left - 1 → ¬ (left - 1).tmod 8 = 0 → ∀ m', GAt m' g ⟨id, tr, t, l, [(n, (b, left - 1))], res, [n]⟩ → Pz m m' → K (.slice none 0 0) m') : Ret Try.prog 13 [.pointer (some ⟨g, 0, none⟩)] m K := by
  obtain ⟨ob, rb, r, pv, sv, ov, H⟩ := H
  refine ret_wp [] Try.func13 rfl (by decide) (by kernel_rfl) ?_
  have gg := H.gg
  have lo := H.oo.len (P := Try.prog) Try.underlying45
  obtain ⟨p, ix, ld⟩ := order_at H.oo
  have lov : opLoad Try.prog 45 (.pointer (some ⟨g, 11, none⟩)) m = some ov := load_cell gg (by simp only [aggOf, Try.underlying45]) rfl
  have lmo : opLoad Try.prog 83 (.pointer (some ⟨g, 9, none⟩)) m = some (.map (some ob)) := load_cell gg (by simp only [aggOf, Try.underlying83]) rfl
  have l2 := look_open_some H.mo (n := n) (p := (b, left)) (by simp [mget])
  have pb := H.pe (n, (b, left)) (List.mem_cons_self ..)
  obtain ⟨hb0, u, n', pr, aa, ak, az, tp, gb⟩ := pb
  have hb : b < m.next := hb0
  clear hb0
  have w1 : IntKind.i64.wrap (left - 1) = left - 1 := wrap_i64 (by omega) (by omega)
  obtain ⟨es0, hob, _⟩ := _root_.id H.mo
  obtain ⟨es1, hrb, _⟩ := _root_.id H.mr
  obtain ⟨m1, hm1⟩ : ∃ m1, m1 = m.set b (.cells [.int .u16 u, .int .u16 n', .int .i64 pr, .slice aa ak az, .pointer tp, .int .i64 (left - 1)] 98 true) := ⟨_, rfl⟩
  have st1 : opStore Try.prog 3 (.pointer (some ⟨b, 5, none⟩)) (.int .i64 (left - 1)) m = some m1 := by
    rw [hm1]
    exact store_one (P := Try.prog) gb ts3 rfl (by simp)
  have lb : opLoad Try.prog 3 (.pointer (some ⟨b, 5, none⟩)) m = some (.int .i64 left) := load_cell gb (by simp only [aggOf, Try.underlying3]) rfl
  have g1 : m1.get b = some (.cells [.int .u16 u, .int .u16 n', .int .i64 pr, .slice aa ak az, .pointer tp, .int .i64 (left - 1)] 98 true) := by rw [hm1]; exact set_get _ _ _
  have k1 : ∀ j, j ≠ b → m1.get j = m.get j := fun j hj => by rw [hm1]; exact set_get_ne _ hj
  have n1 : m1.next = m.next := by rw [hm1]; rfl
  have z1 : Pz m m1 := by rw [hm1]; exact Pz.set gb _
  clear hm1
  have lb1 : opLoad Try.prog 3 (.pointer (some ⟨b, 5, none⟩)) m1 = some (.int .i64 (left - 1)) := load_cell g1 (by simp only [aggOf, Try.underlying3]) rfl
  have lg := H.lg
  have lo' := H.lo
  have lr' := H.lr
  have G1 : GIs m1 g ⟨id, tr, t, l, [(n, (b, left - 1))], res, [n]⟩ ob rb r pv sv ov := by
    obtain ⟨L, hL1, hL2⟩ := H.mo
    refine ⟨(k1 g (celne gg gb (by decide))).trans gg, H.fp.pz z1, H.fs.pz z1, ⟨L, (k1 ob (fun h => mapne gb hob h.symm)).trans hL1, ?_⟩, (H.mr.keep (k1 rb (fun h => mapne gb hrb h.symm))).mono (AnsR.pz z1), H.oo.keep (by omega) (fun hlt => k1 r (fun h => ?_)), fun q hq => ?_, by omega, by omega, by omega, H.ne, H.rg, H.ro, H.rr⟩
    · cases L with
      | nil => exact hL2.elim
      | cons x L =>
        obtain ⟨q1, q2, q3⟩ := hL2
        exact ⟨q1, q2, q3⟩
    · obtain ⟨_, ⟨h', _⟩ | ⟨_, _, h'⟩⟩ := H.oo
      · exact absurd (show (1 : Nat) = 0 from h') (by decide)
      · exact celne h' gb (by decide) h
    · rw [List.mem_singleton] at hq
      subst hq
      exact ⟨by show b < m1.next; omega, _, _, _, _, _, _, _, g1⟩
  rw [show (([n] : List Int).length) = 1 from rfl] at lo
  simp only [Nat.reduceAdd, reduceIte, Nat.reduceEqDiff, reduceCtorEq, Int.reduceLT, Int.reduceEq, opConvert, opIndexAddr, Nat.reduceLT, undef, Nat.reduceLeDiff, Array.toList, bin_geq26, bin_mapn, bin_pnn, bin_pne, veq_map, bld66, bld98, bld56, bld62, one_u16, one_letter, no_ints, no_bytes, bldE, wk4, wk5, wk0, fxC22e, lov, lo]
  refine loop_wp [] (by kernel_rfl) (fun q env μ => ∃ j : Nat, q + j = 1 ∧ env 0 = some (.pointer (some ⟨g, 0, none⟩)) ∧ env 12 = some ov ∧ env 13 = some (.int .i64 ((1 : Nat) : Int)) ∧ env 14 = some (.int .i64 j) ∧ ((j = 0 ∧ μ = m ∧ env 3 = some (.slice none 0 0)) ∨ (j = 1 ∧ ∃ a n q, env 3 = some (.slice a n q) ∧ K (.slice a n q) μ))) ?_ 1 ⟨0, rfl, rfl, rfl, rfl, rfl, .inl ⟨rfl, rfl, rfl⟩⟩
  rintro q env μ ⟨j, hq, e0, e12, e13, e14, hj⟩
  rcases hj with ⟨rfl, rfl, e3⟩ | ⟨rfl, a, k, z, e3, hK⟩
  · have d0 : decide (((0 : Nat) : Int) < ((1 : Nat) : Int)) = true := by decide
    have d00 : decide ((0 : Nat) < 1) = true := by decide
    have w0 : IntKind.i64.wrap (((0 : Nat) : Int) + 1) = ((1 : Nat) : Int) := by decide
    by_cases hle : left - 1 ≤ 0
    · have dl : decide (left - 1 ≤ 0) = true := decide_eq_true hle
      simp only [evOp, evParts, okVal, ev1, evs, evOpt, envOf, List.lookup_nil, List.size_toArray, List.length_cons, List.length_nil, List.range, List.range.loop, Nat.zero_add, Nat.reduceAdd, Bool.not_false, Bool.not_true, Bool.true_or, if_true, if_false, reduceIte, Nat.reduceEqDiff, reduceCtorEq, List.getElem?_toArray, List.getElem?_cons_zero, List.getElem?_cons_succ, guardOf, constOk, constCell, evBuiltin, opLen, List.head?_cons, foldV, min2V, max2V, Int.reduceLT, Int.reduceEq, Kend, resOf, Bool.false_eq_true, Bool.true_eq_false, IntKind.signed, IntKind.max, opConvert, aggOf, Option.some.injEq, Value.bool.injEq, exists_eq_left', true_and, forall_const, decide_eq_true_eq, decide_eq_false_iff_not, Int.natCast_nonneg, and_self, Int.toNat_natCast, Nat.mul_one, List.append_nil, beq_self_eq_true, Nat.lt_irrefl, Nat.zero_lt_succ, Nat.reduceLT, Option.bind_some, undef, opBox, Value.cells, setCells, Nat.reduceLeDiff, Array.toList, bin_geq26, bin_mapn, bin_pnn, bin_pne, veq_map, bld66, bld98, bld56, bld62, one_u16, one_letter, no_ints, no_bytes, bldE, wk5, wk0, fxC22e, e0, e3, e12, e13, e14, d0, ix, ld, lmo, l2, lb, w1, st1, lb1, dl]
      refine gend_ret (a := ⟨18, 0, []⟩) ⟨ob, rb, r, pv, sv, ov, G1⟩ FRow.nil fun m2 G2 z2 => ?_
      have e2 : mdel [(n, (b, left - 1))] n = [] := by simp [mdel]
      have e2' : mdel (⟨id, tr, t, l, [(n, (b, left - 1))], res, [n]⟩ : Gs).opn n = [] := e2
      rw [e2'] at G2
      simp only [Nat.reduceAdd, reduceIte, Nat.reduceEqDiff, reduceCtorEq, opLen, Int.reduceLT, Int.reduceEq, opConvert, opIndexAddr, opLoad, Nat.reduceLT, undef, Nat.reduceLeDiff, Array.toList, bin_geq26, bin_mapn, bin_pnn, bin_pne, veq_map, bld66, bld98, bld56, bld62, one_u16, one_letter, no_ints, no_bytes, bldE, wk4, wk5, wk0, fxC22e, e0, e3, e12, e13, e14, w0]
      exact ⟨0, by omega, 1, rfl, by first | rfl | omega, .inr ⟨rfl, none, 0, 0, rfl, hA hle m2 G2 (z1.trans z2)⟩⟩
    · have dl : decide (left - 1 ≤ 0) = false := decide_eq_false hle
      by_cases h8 : (left - 1).tmod 8 = 0
      · have d8 : decide ((left - 1).tmod 8 = 0) = true := decide_eq_true h8
        simp only [evOp, evParts, okVal, ev1, evs, evOpt, envOf, List.lookup_nil, List.size_toArray, List.length_cons, List.length_nil, List.range, List.range.loop, Nat.zero_add, Nat.reduceAdd, Bool.not_false, Bool.not_true, Bool.true_or, if_true, if_false, reduceIte, Nat.reduceEqDiff, reduceCtorEq, List.getElem?_toArray, List.getElem?_cons_zero, List.getElem?_cons_succ, guardOf, constOk, constCell, evBuiltin, opLen, List.head?_cons, foldV, min2V, max2V, Int.reduceLT, Int.reduceEq, Kend, resOf, Bool.false_eq_true, Bool.true_eq_false, IntKind.signed, IntKind.max, opConvert, aggOf, Option.some.injEq, Value.bool.injEq, exists_eq_left', true_and, forall_const, decide_eq_true_eq, decide_eq_false_iff_not, Int.natCast_nonneg, and_self, Int.toNat_natCast, Nat.mul_one, List.append_nil, beq_self_eq_true, Nat.lt_irrefl, Nat.zero_lt_succ, Nat.reduceLT, Option.bind_some, undef, opBox, Value.cells, setCells, Nat.reduceLeDiff, Array.toList, bin_geq26, bin_mapn, bin_pnn, bin_pne, veq_map, bld66, bld98, bld56, bld62, one_u16, one_letter, no_ints, no_bytes, bldE, wk5, wk0, fxC22e, e0, e3, e12, e13, e14, d0, ix, ld, lmo, l2, lb, w1, st1, lb1, dl, d8]
        refine ask_ret G1 ⟨by omega, _, _, _, _, _, _, _, g1⟩ hsv fun m2 w r2 cs x2 o2 hr2 => ?_
        obtain ⟨a', q', m3, r3, p1, p2, p3, p4, p5⟩ := (OwnI.nil (r := m2.next) (m := m2) (e := 66) (sz := 26)).push (P := Try.prog) (t := 34) (tx := 34) Try.underlying34 ⟨_, Try.underlying34⟩ ts66 (by decide) tz66 tb66 (by decide) rfl rfl o2.rd.showsR (by have : l.length < 2 ^ 30 := hsv; show (0 + l.length) * 264 ≤ _; omega)
        have p1' : opAppend Try.prog [34, 34] [.slice none 0 0, w] m2 = some (.slice a' (0 + l.length) q', m3) := p1
        rw [Nat.zero_add] at p1'
        simp only [Nat.reduceAdd, reduceIte, Nat.reduceEqDiff, reduceCtorEq, opLen, Int.reduceLT, Int.reduceEq, opConvert, opIndexAddr, opLoad, Nat.reduceLT, undef, Nat.reduceLeDiff, Array.toList, bin_geq26, bin_mapn, bin_pnn, bin_pne, veq_map, bld66, bld98, bld56, bld62, one_u16, one_letter, no_ints, no_bytes, bldE, wk4, wk5, wk0, fxC22e, e0, e3, e12, e13, e14, p1', w0]
        exact ⟨0, by omega, 1, rfl, by first | rfl | omega, .inr ⟨rfl, _, _, _, rfl, hB (by omega) h8 m3 a' q' ⟨ob, rb, r, pv, sv, ov, (G1.ext x2).ext ⟨p4, fun j hj => p5 j hj (fun _ => rfl)⟩⟩ (z1.trans (x2.pz.trans (Ext.pz ⟨p4, fun j hj => p5 j hj (fun _ => rfl)⟩)))⟩⟩
      · have d8 : decide ((left - 1).tmod 8 = 0) = false := decide_eq_false h8
        simp only [evOp, evParts, okVal, ev1, evs, evOpt, envOf, List.lookup_nil, List.size_toArray, List.length_cons, List.length_nil, List.range, List.range.loop, Nat.zero_add, Nat.reduceAdd, Bool.not_false, Bool.not_true, Bool.true_or, if_true, if_false, reduceIte, Nat.reduceEqDiff, reduceCtorEq, List.getElem?_toArray, List.getElem?_cons_zero, List.getElem?_cons_succ, guardOf, constOk, constCell, evBuiltin, opLen, List.head?_cons, foldV, min2V, max2V, Int.reduceLT, Int.reduceEq, Kend, resOf, Bool.false_eq_true, Bool.true_eq_false, IntKind.signed, IntKind.max, opConvert, aggOf, Option.some.injEq, Value.bool.injEq, exists_eq_left', true_and, forall_const, decide_eq_true_eq, decide_eq_false_iff_not, Int.natCast_nonneg, and_self, Int.toNat_natCast, Nat.mul_one, List.append_nil, beq_self_eq_true, Nat.lt_irrefl, Nat.zero_lt_succ, Nat.reduceLT, Option.bind_some, undef, opBox, Value.cells, setCells, Nat.reduceLeDiff, Array.toList, bin_geq26, bin_mapn, bin_pnn, bin_pne, veq_map, bld66, bld98, bld56, bld62, one_u16, one_letter, no_ints, no_bytes, bldE, wk5, wk0, fxC22e, e0, e3, e12, e13, e14, d0, ix, ld, lmo, l2, lb, w1, st1, lb1, dl, d8]
        exact ⟨0, by omega, 1, rfl, by first | rfl | omega, .inr ⟨rfl, none, 0, 0, rfl, hC (by omega) h8 m1 ⟨ob, rb, r, pv, sv, ov, G1⟩ z1⟩⟩
  · have d1 : decide (((1 : Nat) : Int) < ((1 : Nat) : Int)) = false := by decide
    simp only [Nat.reduceAdd, reduceIte, Nat.reduceEqDiff, reduceCtorEq, opLen, Int.reduceLT, Int.reduceEq, opConvert, opIndexAddr, opLoad, Nat.reduceLT, undef, Nat.reduceLeDiff, Array.toList, bin_geq26, bin_mapn, bin_pnn, bin_pne, veq_map, bld66, bld98, bld56, bld62, one_u16, one_letter, no_ints, no_bytes, bldE, wk4, wk5, wk0, fxC22e, d1, e3, e13, e14]
    exact hK
end Go.Proofs.Ytimjcfaciiimmaa
