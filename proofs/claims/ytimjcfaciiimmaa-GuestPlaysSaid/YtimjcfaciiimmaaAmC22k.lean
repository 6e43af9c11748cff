/- A text of the abstract machine. -/

/- An answer that is waited for. -/
import Derived.Test.YtimjcfaciiimmaaAmC22t
import Derived.Test.YtimjcfaciiimmaaAmC22e
import Derived.Test.YtimjcfaciiimmaaAmBun
set_option linter.unusedSimpArgs false
set_option linter.unusedVariables false
set_option maxRecDepth 100000
set_option maxHeartbeats 4000000
namespace Go.Proofs.Ytimjcfaciiimmaa
open Go Go.AM Go.AM.Crc Go.AM.Wire
theorem fxC22k : type_of% (And.intro (And.intro (And.intro (And.intro (And.intro (And.intro (And.intro @Try.underlying3 (And.intro @Try.underlying4 @Try.underlying5)) (And.intro @Try.underlying9 (And.intro @Try.underlying22 @Try.underlying23))) (And.intro (And.intro @Try.underlying25 (And.intro @Try.underlying26 @Try.underlying30)) (And.intro @Try.underlying32 (And.intro @Try.underlying34 @Try.underlying35)))) (And.intro (And.intro (And.intro @Try.underlying39 (And.intro @Try.underlying40 @Try.underlying45)) (And.intro @Try.underlying56 (And.intro @Try.underlying62 @Try.underlying66))) (And.intro (And.intro @Try.underlying72 (And.intro @Try.underlying75 @Try.underlying77)) (And.intro (And.intro @Try.underlying83 @Try.underlying85) (And.intro @Try.underlying92 @Try.underlying93))))) (And.intro (And.intro (And.intro (And.intro @Try.underlying94 (And.intro @Try.underlying98 @Try.underlying52)) (And.intro @Try.underlying54 (And.intro @Try.underlying59 @Try.underlying60))) (And.intro (And.intro @Try.underlying64 (And.intro @Try.underlying113 @ts3)) (And.intro (And.intro @ts4 @ts5) (And.intro @ts9 @ts22)))) (And.intro (And.intro (And.intro @ts23 (And.intro @ts25 @ts26)) (And.intro @ts30 (And.intro @ts32 @ts34))) (And.intro (And.intro @ts35 (And.intro @ts39 @ts40)) (And.intro (And.intro @ts45 @ts56) (And.intro @ts62 @ts66)))))) (And.intro (And.intro (And.intro (And.intro (And.intro @ts72 (And.intro @ts75 @ts77)) (And.intro @ts83 (And.intro @ts85 @ts92))) (And.intro (And.intro @ts93 (And.intro @ts94 @ts98)) (And.intro (And.intro @ts52 @ts54) (And.intro @ts59 @ts60)))) (And.intro (And.intro (And.intro @ts64 (And.intro @ts113 @tz3)) (And.intro @tz4 (And.intro @tz5 @tz9))) (And.intro (And.intro @tz22 (And.intro @tz23 @tz25)) (And.intro (And.intro @tz26 @tz30) (And.intro @tz32 @tz34))))) (And.intro (And.intro (And.intro (And.intro @tz35 (And.intro @tz39 @tz40)) (And.intro @tz45 (And.intro @tz56 @tz62))) (And.intro (And.intro @tz66 (And.intro @tz72 @tz75)) (And.intro (And.intro @tz77 @tz83) (And.intro @tz85 @tz92)))) (And.intro (And.intro (And.intro @tz93 (And.intro @tz94 @tz98)) (And.intro @tz52 (And.intro @tz54 @tz59))) (And.intro (And.intro @tz60 (And.intro @tz64 @tz113)) (And.intro (And.intro @tb3 @tb4) (And.intro @tb5 @tb9))))))) (And.intro (And.intro (And.intro (And.intro (And.intro (And.intro @tb22 (And.intro @tb23 @tb25)) (And.intro @tb26 (And.intro @tb30 @tb32))) (And.intro (And.intro @tb34 (And.intro @tb35 @tb39)) (And.intro @tb40 (And.intro @tb45 @tb56)))) (And.intro (And.intro (And.intro @tb62 (And.intro @tb66 @tb72)) (And.intro @tb75 (And.intro @tb77 @tb83))) (And.intro (And.intro @tb85 (And.intro @tb92 @tb93)) (And.intro (And.intro @tb94 @tb98) (And.intro @tb52 @tb54))))) (And.intro (And.intro (And.intro (And.intro @tb59 (And.intro @tb60 @tb64)) (And.intro @tb113 (And.intro @fr7 @fr8))) (And.intro (And.intro @fr9 (And.intro @fr10 @fr11)) (And.intro (And.intro @fr12 @fr13) (And.intro @fr14 @fr23)))) (And.intro (And.intro (And.intro @fr24 (And.intro @fr25 @fr26)) (And.intro @fr15 (And.intro @fr27 @fr37))) (And.intro (And.intro @fr38 (And.intro @fr39 @fr40)) (And.intro (And.intro @fr30 @fr31) (And.intro @fr42 @bz39)))))) (And.intro (And.intro (And.intro (And.intro (And.intro @bz32 (And.intro @bz92 @al39)) (And.intro @al32 (And.intro @al92 @al62))) (And.intro (And.intro @bz85 (And.intro @fa32_0 @fa32_5)) (And.intro (And.intro @fa39_0 @fa39_1) (And.intro @fa39_2 @fa62_0)))) (And.intro (And.intro (And.intro @fa62_1 (And.intro @fa62_2 @fa85_0)) (And.intro @fa85_1 (And.intro @fa85_2 @fa85_3))) (And.intro (And.intro @fa85_4 (And.intro @fa85_5 @fa85_6)) (And.intro (And.intro @fa92_1 @fa92_4) (And.intro @fa92_5 @fa98_0))))) (And.intro (And.intro (And.intro (And.intro @fa98_2 (And.intro @bz66 @al66)) (And.intro @bz62 (And.intro @fa66_0 @fa66_1))) (And.intro (And.intro @fa66_2 (And.intro @fa66_3 @fa66_4)) (And.intro (And.intro @fa66_5 @fa66_6) (And.intro @fa66_7 @fa66_8)))) (And.intro (And.intro (And.intro @fa66_9 (And.intro @fa66_10 @fa66_11)) (And.intro @fa64_0 (And.intro @fa64_1 @fa64_2))) (And.intro (And.intro @fa59_0 (And.intro @fa59_1 @fa56_0)) (And.intro (And.intro @fa56_1 @fa52_0) (And.intro @fa52_1 @fa98_1)))))))) := (And.intro (And.intro (And.intro (And.intro (And.intro (And.intro (And.intro @Try.underlying3 (And.intro @Try.underlying4 @Try.underlying5)) (And.intro @Try.underlying9 (And.intro @Try.underlying22 @Try.underlying23))) (And.intro (And.intro @Try.underlying25 (And.intro @Try.underlying26 @Try.underlying30)) (And.intro @Try.underlying32 (And.intro @Try.underlying34 @Try.underlying35)))) (And.intro (And.intro (And.intro @Try.underlying39 (And.intro @Try.underlying40 @Try.underlying45)) (And.intro @Try.underlying56 (And.intro @Try.underlying62 @Try.underlying66))) (And.intro (And.intro @Try.underlying72 (And.intro @Try.underlying75 @Try.underlying77)) (And.intro (And.intro @Try.underlying83 @Try.underlying85) (And.intro @Try.underlying92 @Try.underlying93))))) (And.intro (And.intro (And.intro (And.intro @Try.underlying94 (And.intro @Try.underlying98 @Try.underlying52)) (And.intro @Try.underlying54 (And.intro @Try.underlying59 @Try.underlying60))) (And.intro (And.intro @Try.underlying64 (And.intro @Try.underlying113 @ts3)) (And.intro (And.intro @ts4 @ts5) (And.intro @ts9 @ts22)))) (And.intro (And.intro (And.intro @ts23 (And.intro @ts25 @ts26)) (And.intro @ts30 (And.intro @ts32 @ts34))) (And.intro (And.intro @ts35 (And.intro @ts39 @ts40)) (And.intro (And.intro @ts45 @ts56) (And.intro @ts62 @ts66)))))) (And.intro (And.intro (And.intro (And.intro (And.intro @ts72 (And.intro @ts75 @ts77)) (And.intro @ts83 (And.intro @ts85 @ts92))) (And.intro (And.intro @ts93 (And.intro @ts94 @ts98)) (And.intro (And.intro @ts52 @ts54) (And.intro @ts59 @ts60)))) (And.intro (And.intro (And.intro @ts64 (And.intro @ts113 @tz3)) (And.intro @tz4 (And.intro @tz5 @tz9))) (And.intro (And.intro @tz22 (And.intro @tz23 @tz25)) (And.intro (And.intro @tz26 @tz30) (And.intro @tz32 @tz34))))) (And.intro (And.intro (And.intro (And.intro @tz35 (And.intro @tz39 @tz40)) (And.intro @tz45 (And.intro @tz56 @tz62))) (And.intro (And.intro @tz66 (And.intro @tz72 @tz75)) (And.intro (And.intro @tz77 @tz83) (And.intro @tz85 @tz92)))) (And.intro (And.intro (And.intro @tz93 (And.intro @tz94 @tz98)) (And.intro @tz52 (And.intro @tz54 @tz59))) (And.intro (And.intro @tz60 (And.intro @tz64 @tz113)) (And.intro (And.intro @tb3 @tb4) (And.intro @tb5 @tb9))))))) (And.intro (And.intro (And.intro (And.intro (And.intro (And.intro @tb22 (And.intro @tb23 @tb25)) (And.intro @tb26 (And.intro @tb30 @tb32))) (And.intro (And.intro @tb34 (And.intro @tb35 @tb39)) (And.intro @tb40 (And.intro @tb45 @tb56)))) (And.intro (And.intro (And.intro @tb62 (And.intro @tb66 @tb72)) (And.intro @tb75 (And.intro @tb77 @tb83))) (And.intro (And.intro @tb85 (And.intro @tb92 @tb93)) (And.intro (And.intro @tb94 @tb98) (And.intro @tb52 @tb54))))) (And.intro (And.intro (And.intro (And.intro @tb59 (And.intro @tb60 @tb64)) (And.intro @tb113 (And.intro @fr7 @fr8))) (And.intro (And.intro @fr9 (And.intro @fr10 @fr11)) (And.intro (And.intro @fr12 @fr13) (And.intro @fr14 @fr23)))) (And.intro (And.intro (And.intro @fr24 (And.intro @fr25 @fr26)) (And.intro @fr15 (And.intro @fr27 @fr37))) (And.intro (And.intro @fr38 (And.intro @fr39 @fr40)) (And.intro (And.intro @fr30 @fr31) (And.intro @fr42 @bz39)))))) (And.intro (And.intro (And.intro (And.intro (And.intro @bz32 (And.intro @bz92 @al39)) (And.intro @al32 (And.intro @al92 @al62))) (And.intro (And.intro @bz85 (And.intro @fa32_0 @fa32_5)) (And.intro (And.intro @fa39_0 @fa39_1) (And.intro @fa39_2 @fa62_0)))) (And.intro (And.intro (And.intro @fa62_1 (And.intro @fa62_2 @fa85_0)) (And.intro @fa85_1 (And.intro @fa85_2 @fa85_3))) (And.intro (And.intro @fa85_4 (And.intro @fa85_5 @fa85_6)) (And.intro (And.intro @fa92_1 @fa92_4) (And.intro @fa92_5 @fa98_0))))) (And.intro (And.intro (And.intro (And.intro @fa98_2 (And.intro @bz66 @al66)) (And.intro @bz62 (And.intro @fa66_0 @fa66_1))) (And.intro (And.intro @fa66_2 (And.intro @fa66_3 @fa66_4)) (And.intro (And.intro @fa66_5 @fa66_6) (And.intro @fa66_7 @fa66_8)))) (And.intro (And.intro (And.intro @fa66_9 (And.intro @fa66_10 @fa66_11)) (And.intro @fa64_0 (And.intro @fa64_1 @fa64_2))) (And.intro (And.intro @fa59_0 (And.intro @fa59_1 @fa56_0)) (And.intro (And.intro @fa56_1 @fa52_0) (And.intro @fa52_1 @fa98_1))))))))
theorem alikeB_self (a : Ans) : alikeB a a = true := by simp [alikeB]
theorem resC_one {h f vn : Int} {a : Ans} (hh : h = 0 ∨ h = 1 ∨ h = 2) : resC ⟨h, vn, [f], [f], [a]⟩ = (a, true) := by
  have e : alikeN [a] [f] a = [f] := by simp [alikeN, alikeB_self]
  have hm : manyIn [f] [f] = 1 := by simp [manyIn]
  have ha : allIn [f] [f] = true := by simp [allIn]
  have hc : condC ⟨h, vn, [f], [f], [a]⟩ a = true := by
    simp only [condC, e, hm, ha]
    rcases hh with rfl | rfl | rfl <;> rfl
  rw [resC]
  simp only [List.cons_ne_nil, if_false, List.find?_cons, hc]
theorem own_frz {r e sz n : Nat} {m m' : Mem} {v : Value} {cs : List Value} (h : OwnI r e sz m v n cs) (x : Ext m m') : ∃ m'', Frz m' m'' ∧ FRow m'' v sz n cs ∧ m''.next = m'.next ∧ ∀ j, (r < m.next → j ≠ r) → m''.get j = m'.get j := by
  obtain ⟨h0, ⟨h1, h2⟩ | ⟨h1, h2, h3⟩⟩ := h
  · refine ⟨m', Frz.refl m', ?_, rfl, fun _ _ => rfl⟩
    rw [h2]
    exact ⟨h0, .inl ⟨h1, .inl rfl⟩⟩
  · obtain ⟨m2, z, f, hn, k⟩ := (OwnI.ext ⟨h0, .inr ⟨h1, h2, h3⟩⟩ x : OwnI r e sz m' v n cs).frz
    exact ⟨m2, z, f, hn, fun j hj => k j (hj h1)⟩
theorem take_first {m : Mem} {g b tb kk : Nat} {G : Gs} {f t tr n e q left h u n' pr : Int} {aa : Option Addr} {ak az : Nat} {ma : Option Addr} {mz : Nat} {bv : Value} {s : List Int} (H : GAt m g G) (hg : m.get b = some (.cells [.int .u16 u, .int .u16 n', .int .i64 pr, .slice aa ak az, .pointer (some ⟨tb, 0, none⟩), .int .i64 left] 98 true)) (hbl : b < m.next) (T : TcAt m kk tb ⟨h, 0, [], [], []⟩) (hh : h = 0 ∨ h = 1 ∨ h = 2) (hf : 0 ≤ f ∧ f < 16) (ht : 0 ≤ t ∧ t < 16) (fl : FRow m (.slice ma 1 mz) 1 1 (ints [f])) (fb : FRow m bv 1 s.length (byteCells s)) (he : 0 ≤ e ∧ e < 65536) (hq : 0 ≤ q ∧ q < 65536) (hb : s.length ≤ 4000) (ho : G.opn = [(n, (b, left))]) (hr : G.res = []) (hid : G.id = t) (htr : G.troupe = tr) {K : Value → Mem → Prop} (hK : ∀ m', GAt m' g { G with opn := [], res := [(n, ⟨e, q, s⟩)] } → Pz m m' → K (.tuple #[]) m') : Ret Try.prog 15 [.pointer (some ⟨g, 0, none⟩), ansLV f t 0 (.slice ma 1 mz) tr n e q bv] m K := by
  obtain ⟨ob, rb, r, pv, sv, ov, H⟩ := H
  obtain ⟨ba, bz, rfl⟩ := fb.is
  have hv : viewCk 0 [f] = 0 := by
    have e1 : riseAt [f] 0 = true := by
      unfold riseAt
      simp
      omega
    simp [viewCk, memCk, e1]
  refine ret_wp [] Try.func15 rfl (by decide) (by kernel_rfl) ?_
  obtain ⟨m1, hm1⟩ : ∃ m1, m1 = m.new (.cells (ansL f t 0 (.slice ma 1 mz) tr n e q (.slice ba s.length bz)) 66 true) := ⟨_, rfl⟩
  have x1 : Ext m m1 := by rw [hm1]; exact Ext.new _ _
  have g1 : m1.get m.next = some (.cells (ansL f t 0 (.slice ma 1 mz) tr n e q (.slice ba s.length bz)) 66 true) := by rw [hm1, new_get]
  have n1 : m1.next = m.next + 1 := by rw [hm1]; rfl
  have hm1' : m1 = m.new (.cells [.int .u8 7, .int .i64 f, .int .i64 t, .int .i64 0, .int .i64 0, .int .i64 0, .int .i64 0, .int .i64 0, .bool false, .int .u8 0, .int .u16 0, .int .u16 0, .int .i64 0, .slice none 0 0, .slice none 0 0, .int .i64 0, .slice ma 1 mz, .int .u16 0, .int .u16 0, .int .i64 0, .slice none 0 0, .int .u16 tr, .int .u16 n, .int .i64 e, .int .i64 q, .slice ba s.length bz] 66 true) := hm1
  have H1 := H.ext x1
  have gg1 := H1.gg
  have fK1 : opLoad Try.prog 54 (.pointer (some ⟨m.next, 0, none⟩)) m1 = some (.int .u8 7) := lfld g1 (by simp only [aggOf, Try.underlying54]) rfl
  have fT1 : opLoad Try.prog 3 (.pointer (some ⟨m.next, 2, none⟩)) m1 = some (.int .i64 t) := lfld g1 (by simp only [aggOf, Try.underlying3]) rfl
  have fR1 : opLoad Try.prog 22 (.pointer (some ⟨m.next, 21, none⟩)) m1 = some (.int .u16 tr) := lfld g1 (by simp only [aggOf, Try.underlying22]) rfl
  have fL1 := ld66 g1
  have gi1 : opLoad Try.prog 3 (.pointer (some ⟨g, 0, none⟩)) m1 = some (.int .i64 t) := by rw [← hid]; exact load_cell gg1 (by simp only [aggOf, Try.underlying3]) rfl
  have gt1 : opLoad Try.prog 22 (.pointer (some ⟨g, 1, none⟩)) m1 = some (.int .u16 tr) := by rw [← htr]; exact load_cell gg1 (by simp only [aggOf, Try.underlying22]) rfl
  simp only [wk6, Nat.reduceBEq, wk1, wk3, forall_eq, evOp, evParts, okVal, ev1, evs, evOpt, envOf, List.lookup_nil, List.size_toArray, List.length_cons, List.length_nil, List.range, List.range.loop, Nat.zero_add, Nat.reduceAdd, Bool.not_false, Bool.not_true, Bool.true_or, if_true, if_false, reduceIte, Nat.reduceEqDiff, reduceCtorEq, List.getElem?_toArray, List.getElem?_cons_zero, List.getElem?_cons_succ, guardOf, constOk, constCell, evBuiltin, opLen, List.head?_cons, foldV, min2V, max2V, Int.reduceLT, Int.reduceEq, Kend, resOf, Bool.false_eq_true, Bool.true_eq_false, IntKind.signed, IntKind.max, opConvert, opIndexAddr, aggOf, Option.some.injEq, Value.bool.injEq, exists_eq_left', true_and, forall_const, decide_eq_true_eq, decide_eq_false_iff_not, Int.natCast_nonneg, and_self, Int.toNat_natCast, Nat.mul_one, List.append_nil, beq_self_eq_true, Nat.lt_irrefl, Nat.zero_lt_succ, Nat.reduceLT, Option.bind_some, new_next, set_get_if, set_next, decide_true, decide_false, beq_tt, beq_tf, beq_ft, beq_ff, undef, Nat.left_eq_add, Nat.add_eq_left, List.drop_zero, List.drop_succ_cons, List.take_succ_cons, List.take_zero, List.drop_nil, opBox, Value.cells, setCells, List.length_append, Nat.reduceLeDiff, Nat.add_zero, Nat.add_assoc, Nat.add_right_cancel_iff, List.cons_append, List.nil_append, Array.toList, Option.isNone_none, Option.isNone_some, ne_eq, not_true_eq_false, not_false_eq_true, bin_geq26, bin_mapn, bin_pnn, bin_pne, veq_map, wk0, fxC22k, ← hm1', fK1, fT1, fR1, fL1, gi1, gt1]
  clear hm1 hm1'
  refine lcheck_ret (l := [f]) hf ht (by decide) (fl.pz x1.pz) hv he hq hb fun m2 x2 => ?_
  have x02 := x1.trans x2
  have H2 := H.ext x02
  have gg2 := H2.gg
  have g2 := (x2.2 m.next (by omega)).trans g1
  have gb2 := (x02.2 b hbl).trans hg
  have T2 := T.ext x02
  have fN2 : opLoad Try.prog 22 (.pointer (some ⟨m.next, 22, none⟩)) m2 = some (.int .u16 n) := lfld g2 (by simp only [aggOf, Try.underlying22]) rfl
  have lmo : opLoad Try.prog 83 (.pointer (some ⟨g, 9, none⟩)) m2 = some (.map (some ob)) := load_cell gg2 (by simp only [aggOf, Try.underlying83]) rfl
  have l2 := look_open_some H2.mo (n := n) (p := (b, left)) (by rw [ho]; simp [mget])
  have ltb : opLoad Try.prog 75 (.pointer (some ⟨b, 4, none⟩)) m2 = some (.pointer (some ⟨tb, 0, none⟩)) := load_cell gb2 (by simp only [aggOf, Try.underlying75]) rfl
  have fF2 : opLoad Try.prog 3 (.pointer (some ⟨m.next, 1, none⟩)) m2 = some (.int .i64 f) := lfld g2 (by simp only [aggOf, Try.underlying3]) rfl
  have v2 := ld52 g2
  have a2 := ld39 g2
  simp only [wk6, Nat.reduceBEq, wk1, wk3, forall_eq, evOp, evParts, okVal, ev1, evs, evOpt, envOf, List.lookup_nil, List.size_toArray, List.length_cons, List.length_nil, List.range, List.range.loop, Nat.zero_add, Nat.reduceAdd, Bool.not_false, Bool.not_true, Bool.true_or, if_true, if_false, reduceIte, Nat.reduceEqDiff, reduceCtorEq, List.getElem?_toArray, List.getElem?_cons_zero, List.getElem?_cons_succ, guardOf, constOk, constCell, evBuiltin, opLen, List.head?_cons, foldV, min2V, max2V, Int.reduceLT, Int.reduceEq, Kend, resOf, Bool.false_eq_true, Bool.true_eq_false, IntKind.signed, IntKind.max, opConvert, opIndexAddr, aggOf, Option.some.injEq, Value.bool.injEq, exists_eq_left', true_and, forall_const, decide_eq_true_eq, decide_eq_false_iff_not, Int.natCast_nonneg, and_self, Int.toNat_natCast, Nat.mul_one, List.append_nil, beq_self_eq_true, Nat.lt_irrefl, Nat.zero_lt_succ, Nat.reduceLT, Option.bind_some, new_next, set_get_if, set_next, decide_true, decide_false, beq_tt, beq_tf, beq_ft, beq_ff, undef, Nat.left_eq_add, Nat.add_eq_left, List.drop_zero, List.drop_succ_cons, List.take_succ_cons, List.take_zero, List.drop_nil, opBox, Value.cells, setCells, List.length_append, Nat.reduceLeDiff, Nat.add_zero, Nat.add_assoc, Nat.add_right_cancel_iff, List.cons_append, List.nil_append, Array.toList, Option.isNone_none, Option.isNone_some, ne_eq, not_true_eq_false, not_false_eq_true, bin_geq26, bin_mapn, bin_pnn, bin_pne, veq_map, wk0, fxC22k, fN2, lmo, l2, ltb, fF2, v2, a2]
  have hok : putOk ⟨h, 0, [], [], []⟩ f 0 [f] = true := by simp [putOk, hv]
  refine cput_ret (l := [f]) (a := ⟨e, q, s⟩) T2 (fl.pz x02.pz) (fb.pz x02.pz) (by show 1 < 2 ^ 40; decide) (by show 0 < 2 ^ 30; decide) (by show 0 < 2 ^ 40; decide) (by show s.length < 2 ^ 46; omega) (fun m3 _ hb => by rw [hok] at hb; cases hb) fun m3 T3 z3 _ fr mfr _ => ?_
  have z03 := x02.pz.trans z3
  have hlt2 := x02.1
  have H3 : GIs m3 g G ob rb r pv sv ov := by
    obtain ⟨es0, hob, _⟩ := _root_.id H2.mo
    obtain ⟨es1, hrb, _⟩ := _root_.id H2.mr
    obtain ⟨h1, h2, h3, h4, h5, h6, h7, h8, h9, h10, h11, h12, h13, h14⟩ := H2
    have := z3.1
    refine ⟨(fr g _ _ _ h8 h1 (by decide) (by decide) (by decide)).trans h1, h2.pz z3, h3.pz z3, h4.keep (mfr ob _ h9 hob), (h5.keep (mfr rb _ h10 hrb)).mono (AnsR.pz z3), h6.keepN this (fun hv hlt => ?_), fun p hp => ?_, by omega, by omega, by omega, h11, h12, h13, h14⟩
    · obtain ⟨_, ⟨_, h'⟩ | ⟨_, _, h'⟩⟩ := h6
      · exact (hv h').elim
      · exact fr r _ _ _ hlt h' (by decide) (by decide) (by decide)
    · obtain ⟨q1, u, n', pr, a, k, zz, tp, q2⟩ := h7 p hp
      exact ⟨by omega, u, n', pr, a, k, zz, tp, (fr _ _ _ _ q1 q2 (by decide) (by decide) (by decide)).trans q2⟩
  have g3 := (fr m.next _ _ _ (by have := x2.1; omega) g2 (by decide) (by decide) (by decide)).trans g2
  have gb3 := (fr b _ _ _ (by omega) gb2 (by decide) (by decide) (by decide)).trans gb2
  have ltb3 : opLoad Try.prog 75 (.pointer (some ⟨b, 4, none⟩)) m3 = some (.pointer (some ⟨tb, 0, none⟩)) := load_cell gb3 (by simp only [aggOf, Try.underlying75]) rfl
  simp only [wk6, Nat.reduceBEq, wk1, wk3, forall_eq, evOp, evParts, okVal, ev1, evs, evOpt, envOf, List.lookup_nil, List.size_toArray, List.length_cons, List.length_nil, List.range, List.range.loop, Nat.zero_add, Nat.reduceAdd, Bool.not_false, Bool.not_true, Bool.true_or, if_true, if_false, reduceIte, Nat.reduceEqDiff, reduceCtorEq, List.getElem?_toArray, List.getElem?_cons_zero, List.getElem?_cons_succ, guardOf, constOk, constCell, evBuiltin, opLen, List.head?_cons, foldV, min2V, max2V, Int.reduceLT, Int.reduceEq, Kend, resOf, Bool.false_eq_true, Bool.true_eq_false, IntKind.signed, IntKind.max, opConvert, opIndexAddr, aggOf, Option.some.injEq, Value.bool.injEq, exists_eq_left', true_and, forall_const, decide_eq_true_eq, decide_eq_false_iff_not, Int.natCast_nonneg, and_self, Int.toNat_natCast, Nat.mul_one, List.append_nil, beq_self_eq_true, Nat.lt_irrefl, Nat.zero_lt_succ, Nat.reduceLT, Option.bind_some, new_next, set_get_if, set_next, decide_true, decide_false, beq_tt, beq_tf, beq_ft, beq_ff, undef, Nat.left_eq_add, Nat.add_eq_left, List.drop_zero, List.drop_succ_cons, List.take_succ_cons, List.take_zero, List.drop_nil, opBox, Value.cells, setCells, List.length_append, Nat.reduceLeDiff, Nat.add_zero, Nat.add_assoc, Nat.add_right_cancel_iff, List.cons_append, List.nil_append, Array.toList, Option.isNone_none, Option.isNone_some, ne_eq, not_true_eq_false, not_false_eq_true, bin_geq26, bin_mapn, bin_pnn, bin_pne, veq_map, wk0, fxC22k, ltb3]
  have T3' : TcAt m3 kk tb ⟨h, 0, [f], [f], [⟨e, q, s⟩]⟩ := T3
  refine result_ret T3' (by show 1 < 2 ^ 40; decide) (by show 1 < 2 ^ 40; decide) (fun a ha => by
    simp only [List.mem_singleton] at ha
    subst ha
    show s.length < 2 ^ 46
    omega) fun m4 w r4 x4 o4 hr4 => ?_
  rw [resC_one hh] at o4 ⊢
  obtain ⟨wa, wz, rfl⟩ := o4.is
  have st5 := st_ans m4 e q (.slice wa s.length wz) rfl
  obtain ⟨m5, hm5⟩ : ∃ m5, m5 = (m4.new (.cells [.int .i64 0, .int .i64 0, .slice none 0 0] 39 true)).set m4.next (.cells [.int .i64 e, .int .i64 q, .slice wa s.length wz] 39 true) := ⟨_, rfl⟩
  have x5 : Ext m4 m5 := by rw [hm5]; exact (Ext.new _ _).set (Nat.le_refl _)
  have g5 : m5.get m4.next = some (.cells [.int .i64 e, .int .i64 q, .slice wa s.length wz] 39 true) := by rw [hm5]; exact set_get _ _ _
  rw [← hm5] at st5
  clear hm5
  have ld5 := ld37 g5
  have x35 := x4.trans x5
  have hz3 := z3.1
  have g35 := (x35.2 m.next (by have := x2.1; omega)).trans g3
  have fN5 : opLoad Try.prog 22 (.pointer (some ⟨m.next, 22, none⟩)) m5 = some (.int .u16 n) := lfld g35 (by simp only [aggOf, Try.underlying22]) rfl
  simp only [wk6, Nat.reduceBEq, wk1, wk3, forall_eq, evOp, evParts, okVal, ev1, evs, evOpt, envOf, List.lookup_nil, List.size_toArray, List.length_cons, List.length_nil, List.range, List.range.loop, Nat.zero_add, Nat.reduceAdd, Bool.not_false, Bool.not_true, Bool.true_or, if_true, if_false, reduceIte, Nat.reduceEqDiff, reduceCtorEq, List.getElem?_toArray, List.getElem?_cons_zero, List.getElem?_cons_succ, guardOf, constOk, constCell, evBuiltin, opLen, List.head?_cons, foldV, min2V, max2V, Int.reduceLT, Int.reduceEq, Kend, resOf, Bool.false_eq_true, Bool.true_eq_false, IntKind.signed, IntKind.max, opConvert, opIndexAddr, aggOf, Option.some.injEq, Value.bool.injEq, exists_eq_left', true_and, forall_const, decide_eq_true_eq, decide_eq_false_iff_not, Int.natCast_nonneg, and_self, Int.toNat_natCast, Nat.mul_one, List.append_nil, beq_self_eq_true, Nat.lt_irrefl, Nat.zero_lt_succ, Nat.reduceLT, Option.bind_some, new_next, set_get_if, set_next, decide_true, decide_false, beq_tt, beq_tf, beq_ft, beq_ff, undef, Nat.left_eq_add, Nat.add_eq_left, List.drop_zero, List.drop_succ_cons, List.take_succ_cons, List.take_zero, List.drop_nil, opBox, Value.cells, setCells, List.length_append, Nat.reduceLeDiff, Nat.add_zero, Nat.add_assoc, Nat.add_right_cancel_iff, List.cons_append, List.nil_append, Array.toList, Option.isNone_none, Option.isNone_some, ne_eq, not_true_eq_false, not_false_eq_true, bin_geq26, bin_mapn, bin_pnn, bin_pne, veq_map, wk0, fxC22k, st5, ld5, fN5]
  obtain ⟨m6, z6, f6, n6, k6⟩ := own_frz o4 x5
  refine Ret.thaw z6 ?_
  have x36 : Ext m3 m6 := ⟨by have := x35.1; omega, fun j hj => by rw [k6 j (fun _ => by omega), x35.2 j hj]⟩
  refine gend_ret (a := ⟨e, q, s⟩) ⟨ob, rb, r, pv, sv, ov, H3.ext x36⟩ f6 fun m7 G7 z7 => ?_
  have e1 : mdel G.opn n = [] := by rw [ho]; simp [mdel]
  have e2 : mput G.res n (⟨e, q, s⟩ : Ans) = [(n, ⟨e, q, s⟩)] := by rw [hr]; rfl
  rw [e1, e2] at G7
  simp only [wk6, Nat.reduceBEq, wk1, wk3, forall_eq, Nat.reduceAdd, reduceIte, Nat.reduceEqDiff, reduceCtorEq, opLen, Int.reduceLT, Int.reduceEq, opConvert, opIndexAddr, opLoad, Nat.reduceLT, undef, Nat.reduceLeDiff, Array.toList, bin_geq26, bin_mapn, bin_pnn, bin_pne, veq_map, wk4, wk5, wk0, fxC22k]
  exact hK m7 G7 (z03.trans (x36.pz.trans z7))
end Go.Proofs.Ytimjcfaciiimmaa
