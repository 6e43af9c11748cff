/- A text of the abstract machine. -/


/- A parcel that is new is put into the table. -/
import Derived.Test.YtiacdjobmfhgoaaAmC18y
import Derived.Test.YtiacdjobmfhgoaaAmBun
set_option linter.unusedSimpArgs false
set_option linter.unusedVariables false
set_option maxRecDepth 100000
set_option maxHeartbeats 4000000
namespace Go.Proofs.Ytiacdjobmfhgoaa
open Go Go.AM Go.AM.Crc Go.AM.Wire
theorem fxC18z : type_of% (And.intro (And.intro (And.intro (And.intro (And.intro (And.intro @Try.underlying34 (And.intro @Try.underlying35 @Try.underlying36)) (And.intro (And.intro @Try.underlying38 @Try.underlying39) (And.intro @Try.underlying57 @Try.underlying60))) (And.intro (And.intro (And.intro @Try.underlying61 @Try.underlying64) (And.intro @Try.underlying26 @Try.underlying32)) (And.intro (And.intro @Try.underlying3 @Try.underlying4) (And.intro @Try.underlying5 @Try.underlying9)))) (And.intro (And.intro (And.intro (And.intro @Try.underlying23 @Try.underlying24) (And.intro @Try.underlying0 @Try.underlying54)) (And.intro (And.intro @Try.underlying22 @Try.underlying66) (And.intro @Try.underlying68 @Try.underlying75))) (And.intro (And.intro (And.intro @Try.underlying85 @Try.underlying27) (And.intro @ts34 @ts35)) (And.intro (And.intro @ts36 @ts38) (And.intro @ts39 @ts57))))) (And.intro (And.intro (And.intro (And.intro @ts60 (And.intro @ts61 @ts64)) (And.intro (And.intro @ts26 @ts32) (And.intro @ts3 @ts4))) (And.intro (And.intro (And.intro @ts5 @ts9) (And.intro @ts23 @ts24)) (And.intro (And.intro @ts0 @ts54) (And.intro @ts22 @ts66)))) (And.intro (And.intro (And.intro (And.intro @ts68 @ts75) (And.intro @ts85 @ts27)) (And.intro (And.intro @tz34 @tz35) (And.intro @tz36 @tz38))) (And.intro (And.intro (And.intro @tz39 @tz57) (And.intro @tz60 @tz61)) (And.intro (And.intro @tz64 @tz26) (And.intro @tz32 @tz3)))))) (And.intro (And.intro (And.intro (And.intro (And.intro @tz4 (And.intro @tz5 @tz9)) (And.intro (And.intro @tz23 @tz24) (And.intro @tz0 @tz54))) (And.intro (And.intro (And.intro @tz22 @tz66) (And.intro @tz68 @tz75)) (And.intro (And.intro @tz85 @tz27) (And.intro @tb34 @tb35)))) (And.intro (And.intro (And.intro (And.intro @tb36 @tb38) (And.intro @tb39 @tb57)) (And.intro (And.intro @tb60 @tb61) (And.intro @tb64 @tb26))) (And.intro (And.intro (And.intro @tb32 @tb3) (And.intro @tb4 @tb5)) (And.intro (And.intro @tb9 @tb23) (And.intro @tb24 @tb0))))) (And.intro (And.intro (And.intro (And.intro (And.intro @tb54 @tb22) (And.intro @tb66 @tb68)) (And.intro (And.intro @tb75 @tb85) (And.intro @tb27 @fr10))) (And.intro (And.intro (And.intro @fr11 @fr12) (And.intro @fr19 @fr20)) (And.intro (And.intro @bz38 @al60) (And.intro @al38 @fa38_0)))) (And.intro (And.intro (And.intro (And.intro @fa38_1 @fa64_0) (And.intro @fa64_1 @fa64_2)) (And.intro (And.intro @fa32_0 @fa32_1) (And.intro @fa32_2 @fa32_3))) (And.intro (And.intro (And.intro @fa32_4 @bz85) (And.intro @al68 @al85)) (And.intro (And.intro @fa68_0 @fa85_0) (And.intro @fa85_1 @fa85_2))))))) := (And.intro (And.intro (And.intro (And.intro (And.intro (And.intro @Try.underlying34 (And.intro @Try.underlying35 @Try.underlying36)) (And.intro (And.intro @Try.underlying38 @Try.underlying39) (And.intro @Try.underlying57 @Try.underlying60))) (And.intro (And.intro (And.intro @Try.underlying61 @Try.underlying64) (And.intro @Try.underlying26 @Try.underlying32)) (And.intro (And.intro @Try.underlying3 @Try.underlying4) (And.intro @Try.underlying5 @Try.underlying9)))) (And.intro (And.intro (And.intro (And.intro @Try.underlying23 @Try.underlying24) (And.intro @Try.underlying0 @Try.underlying54)) (And.intro (And.intro @Try.underlying22 @Try.underlying66) (And.intro @Try.underlying68 @Try.underlying75))) (And.intro (And.intro (And.intro @Try.underlying85 @Try.underlying27) (And.intro @ts34 @ts35)) (And.intro (And.intro @ts36 @ts38) (And.intro @ts39 @ts57))))) (And.intro (And.intro (And.intro (And.intro @ts60 (And.intro @ts61 @ts64)) (And.intro (And.intro @ts26 @ts32) (And.intro @ts3 @ts4))) (And.intro (And.intro (And.intro @ts5 @ts9) (And.intro @ts23 @ts24)) (And.intro (And.intro @ts0 @ts54) (And.intro @ts22 @ts66)))) (And.intro (And.intro (And.intro (And.intro @ts68 @ts75) (And.intro @ts85 @ts27)) (And.intro (And.intro @tz34 @tz35) (And.intro @tz36 @tz38))) (And.intro (And.intro (And.intro @tz39 @tz57) (And.intro @tz60 @tz61)) (And.intro (And.intro @tz64 @tz26) (And.intro @tz32 @tz3)))))) (And.intro (And.intro (And.intro (And.intro (And.intro @tz4 (And.intro @tz5 @tz9)) (And.intro (And.intro @tz23 @tz24) (And.intro @tz0 @tz54))) (And.intro (And.intro (And.intro @tz22 @tz66) (And.intro @tz68 @tz75)) (And.intro (And.intro @tz85 @tz27) (And.intro @tb34 @tb35)))) (And.intro (And.intro (And.intro (And.intro @tb36 @tb38) (And.intro @tb39 @tb57)) (And.intro (And.intro @tb60 @tb61) (And.intro @tb64 @tb26))) (And.intro (And.intro (And.intro @tb32 @tb3) (And.intro @tb4 @tb5)) (And.intro (And.intro @tb9 @tb23) (And.intro @tb24 @tb0))))) (And.intro (And.intro (And.intro (And.intro (And.intro @tb54 @tb22) (And.intro @tb66 @tb68)) (And.intro (And.intro @tb75 @tb85) (And.intro @tb27 @fr10))) (And.intro (And.intro (And.intro @fr11 @fr12) (And.intro @fr19 @fr20)) (And.intro (And.intro @bz38 @al60) (And.intro @al38 @fa38_0)))) (And.intro (And.intro (And.intro (And.intro @fa38_1 @fa64_0) (And.intro @fa64_1 @fa64_2)) (And.intro (And.intro @fa32_0 @fa32_1) (And.intro @fa32_2 @fa32_3))) (And.intro (And.intro (And.intro @fa32_4 @bz85) (And.intro @al68 @al85)) (And.intro (And.intro @fa68_0 @fa85_0) (And.intro @fa85_1 @fa85_2)))))))
theorem cne {m : Mem} {a b : Nat} {x y : List Value} {e f : TypeId} {o o' : Bool} (h1 : m.get a = some (.cells x e o)) (h2 : m.get b = some (.cells y f o')) (hn : e ≠ f) : a ≠ b := by
  rintro rfl
  rw [h1] at h2
  simp only [Option.some.injEq, Blk.cells.injEq] at h2
  exact hn h2.2.1
theorem mne {m : Mem} {a b : Nat} {x : List Value} {e : TypeId} {o : Bool} {es : List (Value × Value)} (h1 : m.get a = some (.cells x e o)) (h2 : m.get b = some (.map es)) : a ≠ b := by
  rintro rfl
  rw [h1] at h2
  cases h2
theorem HalfIs.weaken {m : Mem} {k k' h : Nat} {lv : Value} {key : Key} {ps : List Part} {r q : Nat} {cs : List Value} (H : HalfIs m k h lv key ps r q cs) (hk : k' ≤ k) : HalfIs m k' h lv key ps r q cs := by
  obtain ⟨h1, h2, h3, h4, h5, h6, h7, h8⟩ := H
  exact ⟨h1, h2, h3, h4, h5, by omega, by omega, by omega⟩
theorem find_ret {m : Mem} {k i h n : Nat} {lv dv : Value} {o : Option (Key × List Part)} {key : Key} {ps : List Part} (gi : m.get i = some (.cells [lv, dv] 38 true)) (li : k ≤ i ∧ i < m.next) (H : HalfAt m k h lv o) (hps : o = some (key, ps) ∨ (o = none ∧ ps = List.replicate n none)) (hn : n ≤ 100) {K : Value → Mem → Prop}
    (hK : ∀ m' h lv r q cs, HalfIs m' k h lv key ps r q cs → m'.get i = some (.cells [lv, dv] 38 true) → Pz m m' → (∀ j, j < m.next → j ≠ i → m'.get j = m.get j) → K (.pointer (some ⟨h, 0, none⟩)) m') : Ret Try.prog 19 [.pointer (some ⟨i, 0, none⟩), keyV key, .int .i64 n] m K := by
  rcases hps with rfl | ⟨rfl, rfl⟩
  · obtain ⟨r, q, cs, H⟩ := H
    refine find_old gi li.2 H fun m' x => ?_
    exact hK m' h lv r q cs (H.keep x.pz (x.2 r H.lr.2) (x.2 h H.lh.2) (x.2 q H.lq.2)) ((x.2 i li.2).trans gi) x.pz (fun j hj _ => x.2 j hj)
  · rw [HalfAt] at H
    subst H
    refine Ret.pz (find_new gi li.2 hn fun m' h' r q lv H g hnx f hz => ?_)
    exact hK m' h' lv r q _ (H.weaken (by omega)) g hz f
def setT (T : Tb) (key : Key) (ps : List Part) : Tb := if 0 < holes ps then ⟨some (key, ps), T.done⟩ else ⟨none, mput T.done key true⟩

theorem tput_set {m : Mem} {k i : Nat} {T : Tb} {P : Pa} {v : Value} {ps : List Part} {n p : Nat} (H : TabAt m k i T) (fv : FRow m v 1 P.b.length (byteCells P.b)) (hc : pcheck P = 0) (hd : hasD T.done (pk P) = false)
    (hT : T.half = some (pk P, ps) ∨ (T.half = none ∧ ps = List.replicate n none)) (hn : P.n = (n : Int)) (hpl : ps.length = n) (hp : P.p = (p : Int)) (hpb : ps[p]? = some none) (hsz : ∀ b, some b ∈ ps → b.length ≤ 48) {K : Value → Mem → Prop}
    (hK : ∀ m' w, TabAt m' k i (setT T (pk P) (ps.set p (some P.b))) → Pz m m' → (∀ j, j < k → m'.get j = m.get j) → (0 < holes (ps.set p (some P.b)) → w = .slice none 0 0) → (holes (ps.set p (some P.b)) = 0 → ∃ r, OwnI r 5 1 m' w (partsOut (ps.set p (some P.b))).length (byteCells (partsOut (ps.set p (some P.b)))) ∧ k ≤ r) → K (.tuple #[w, .bool (decide (holes (ps.set p (some P.b)) = 0))]) m') : Ret Try.prog 11 [.pointer (some ⟨i, 0, none⟩), paV P v] m K := by
  have hv : opLen Try.prog (some 22) v = some (.int .i64 P.b.length) := fv.len Try.underlying22
  obtain ⟨c1, c2, c3, c4⟩ := pcheck_zero hc
  obtain ⟨va, vz, rfl⟩ := fv.is
  refine Ret.pz (Ret.join ?_)
  refine ret_wp [(9, [3, 5])] Try.func11 rfl (by decide) (by kernel_rfl) ?_
  simp only [wk1, wk3, forall_eq, List.range'_succ, List.range'_zero, false_implies, true_implies, List.contains_cons, List.contains_nil, Nat.reduceBEq, Bool.or_false, Bool.false_or, implies_true, List.lookup_cons, and_true, evOp, evParts, okVal, ev1, evs, evOpt, envOf, List.lookup_nil, List.size_toArray, List.length_cons, List.length_nil, List.range, List.range.loop, Nat.zero_add, Nat.reduceAdd, Bool.not_false, Bool.not_true, Bool.true_or, if_true, if_false, reduceIte, Nat.reduceEqDiff, reduceCtorEq, List.getElem?_toArray, List.getElem?_cons_zero, List.getElem?_cons_succ, guardOf, constOk, constCell, evBuiltin, opLen, List.head?_cons, foldV, min2V, max2V, Int.reduceLT, Int.reduceEq, Kend, resOf, Bool.false_eq_true, Bool.true_eq_false, IntKind.signed, IntKind.max, opConvert, opIndexAddr, opLoad, aggOf, Option.some.injEq, Value.bool.injEq, exists_eq_left', true_and, forall_const, decide_eq_true_eq, decide_eq_false_iff_not, Int.natCast_nonneg, and_self, Int.toNat_natCast, Nat.mul_one, List.append_nil, beq_self_eq_true, Nat.lt_irrefl, Nat.zero_lt_succ, Nat.reduceLT, Option.bind_some, bin_teq, bin_meq, bin_sne, veq_ints, veq_map, new_get_if, new_next, set_get_if, set_next, decide_true, decide_false, beq_tt, beq_tf, beq_ft, beq_ff, undef, Nat.left_eq_add, Nat.add_eq_left, List.drop_zero, List.drop_succ_cons, List.take_succ_cons, List.take_zero, List.drop_nil, opBox, Value.cells, opStore, setCells, List.length_append, Nat.reduceLeDiff, Nat.add_zero, Nat.add_assoc, Nat.add_right_cancel_iff, List.cons_append, List.nil_append, Array.toList, Option.isNone_none, Option.isNone_some, bin_weq, bin_wneq, bin_req, bin_rneq, ne_eq, not_true_eq_false, not_false_eq_true, wk0, fxC18z]
  obtain ⟨Z, hZ⟩ : ∃ Z, Z = Blk.cells [.int .i64 P.f, .int .u32 P.l, .int .i64 P.p, .int .i64 P.n, .slice va P.b.length vz] 32 true := ⟨_, rfl⟩
  rw [← hZ]
  have x0 := Ext.new m Z
  have g0 := new_get m Z
  have nx : m.next < (m.new Z).next := Nat.lt_succ_self _
  generalize m.new Z = m0 at x0 g0 nx ⊢
  refine pcheck_ret hv fun m1 x1 => ?_
  rw [hc]
  have x01 := x0.trans x1
  have g1 := (x1.2 m.next nx).trans g0
  have l1 := x1.1
  have nn : ¬ m.next = m1.next := by omega
  subst hZ
  simp only [wk1, wk3, forall_eq, List.range'_succ, List.range'_zero, false_implies, true_implies, List.contains_cons, List.contains_nil, Nat.reduceBEq, Bool.or_false, Bool.false_or, implies_true, List.lookup_cons, and_true, evOp, evParts, okVal, ev1, evs, evOpt, envOf, List.lookup_nil, List.size_toArray, List.length_cons, List.length_nil, List.range, List.range.loop, Nat.zero_add, Nat.reduceAdd, Bool.not_false, Bool.not_true, Bool.true_or, if_true, if_false, reduceIte, Nat.reduceEqDiff, reduceCtorEq, List.getElem?_toArray, List.getElem?_cons_zero, List.getElem?_cons_succ, guardOf, constOk, constCell, evBuiltin, opLen, List.head?_cons, foldV, min2V, max2V, Int.reduceLT, Int.reduceEq, Kend, resOf, Bool.false_eq_true, Bool.true_eq_false, IntKind.signed, IntKind.max, opConvert, opIndexAddr, opLoad, aggOf, Option.some.injEq, Value.bool.injEq, exists_eq_left', true_and, forall_const, decide_eq_true_eq, decide_eq_false_iff_not, Int.natCast_nonneg, and_self, Int.toNat_natCast, Nat.mul_one, List.append_nil, beq_self_eq_true, Nat.lt_irrefl, Nat.zero_lt_succ, Nat.reduceLT, Option.bind_some, bin_teq, bin_meq, bin_sne, veq_ints, veq_map, new_next, set_next, decide_true, decide_false, beq_tt, beq_tf, beq_ft, beq_ff, undef, Nat.left_eq_add, Nat.add_eq_left, List.drop_zero, List.drop_succ_cons, List.take_succ_cons, List.take_zero, List.drop_nil, opBox, Value.cells, opStore, setCells, List.length_append, Nat.reduceLeDiff, Nat.add_zero, Nat.add_assoc, Nat.add_right_cancel_iff, List.cons_append, List.nil_append, Array.toList, Option.isNone_none, Option.isNone_some, bin_weq, bin_wneq, bin_req, bin_rneq, ne_eq, not_true_eq_false, not_false_eq_true, wk0, fxC18z, new_get, g1, nn, bld60]
  obtain ⟨m2, hm2⟩ : ∃ m2, m2 = (m1.new (.cells [.int .i64 0, .int .u32 0] 60 true)).set m1.next (.cells [.int .i64 P.f, .int .u32 P.l] 60 true) := ⟨_, rfl⟩
  have x2 : Ext m1 m2 := by rw [hm2]; exact (Ext.new _ _).set (Nat.le_refl _)
  have gk2 : m2.get m1.next = some (.cells [.int .i64 P.f, .int .u32 P.l] 60 true) := by rw [hm2]; exact set_get _ _ _
  have N2 : m2.next = m1.next + 1 := by rw [hm2]; rfl
  have g2 := (x2.2 m.next (by omega)).trans g1
  have x02 := x01.trans x2
  rw [← hm2]
  clear hm2
  obtain ⟨⟨lv, dv, h, gi2, h2, D2⟩, li2⟩ := H.ext x02
  have li := H.li
  have eL := look_done D2 (pk P)
  rw [hd] at eL
  have hn100 : n ≤ 100 := by omega
  rw [hn]
  simp only [wk1, wk3, forall_eq, List.range'_succ, List.range'_zero, false_implies, true_implies, List.contains_cons, List.contains_nil, Nat.reduceBEq, Bool.or_false, Bool.false_or, implies_true, List.lookup_cons, and_true, evOp, evParts, okVal, ev1, evs, evOpt, envOf, List.lookup_nil, List.size_toArray, List.length_cons, List.length_nil, List.range, List.range.loop, Nat.zero_add, Nat.reduceAdd, Bool.not_false, Bool.not_true, Bool.true_or, if_true, if_false, reduceIte, Nat.reduceEqDiff, reduceCtorEq, List.getElem?_toArray, List.getElem?_cons_zero, List.getElem?_cons_succ, guardOf, constOk, constCell, evBuiltin, opLen, List.head?_cons, foldV, min2V, max2V, Int.reduceLT, Int.reduceEq, Kend, resOf, Bool.false_eq_true, Bool.true_eq_false, IntKind.signed, IntKind.max, opConvert, opIndexAddr, opLoad, aggOf, Option.some.injEq, Value.bool.injEq, exists_eq_left', true_and, forall_const, decide_eq_true_eq, decide_eq_false_iff_not, Int.natCast_nonneg, and_self, Int.toNat_natCast, Nat.mul_one, List.append_nil, beq_self_eq_true, Nat.lt_irrefl, Nat.zero_lt_succ, Nat.reduceLT, Option.bind_some, bin_teq, bin_meq, bin_sne, veq_ints, veq_map, new_get_if, new_next, set_get_if, set_next, decide_true, decide_false, beq_tt, beq_tf, beq_ft, beq_ff, undef, Nat.left_eq_add, Nat.add_eq_left, List.drop_zero, List.drop_succ_cons, List.take_succ_cons, List.take_zero, List.drop_nil, opBox, Value.cells, opStore, setCells, List.length_append, Nat.reduceLeDiff, Nat.add_zero, Nat.add_assoc, Nat.add_right_cancel_iff, List.cons_append, List.nil_append, Array.toList, Option.isNone_none, Option.isNone_some, bin_weq, bin_wneq, bin_req, bin_rneq, ne_eq, not_true_eq_false, not_false_eq_true, wk0, fxC18z, gk2, gi2, eL, g2, hn]
  refine find_ret gi2 li2 h2 hT hn100 fun m3 h lv r q cs HH gi3 z3 f3 => ?_
  have gp3 := (f3 m.next (by omega) (by omega)).trans g2
  have gk3 := (f3 m1.next (by omega) (cne gk2 gi2 (by decide))).trans gk2
  have D3 : DoneAt m3 k dv T.done := D2.keep z3.1 fun d hd => by
    obtain ⟨_, hlt, es, he⟩ := D2.lt hd
    exact f3 d hlt (fun e => mne gi2 he e.symm)
  have z03 := x02.pz.trans z3
  have F3 : ∀ j, j < k → m3.get j = m.get j := fun j hj => by rw [f3 j (by omega) (by omega), x02.2 j (by omega)]
  have N3 := z3.1
  have N02 := x02.1
  clear f3 h2 D2 eL
  have hpn : p < ps.length := by
    rcases Nat.lt_or_ge p ps.length with h | h
    · exact h
    · rw [List.getElem?_eq_none h] at hpb; cases hpb
  obtain ⟨c, hc1, hc2⟩ := rows_at HH.parts hpn
  have hpb' := hpb
  rw [List.getElem?_eq_getElem hpn, Option.some.injEq] at hpb'
  rw [hpb'] at hc2
  obtain rfl : c = .slice none 0 0 := by simpa [partR] using hc2
  have ix := ix57 (q := q) hpn
  rw [← hp] at ix
  have e1 : ((ps.length : Int) = P.n) = True := by rw [hn, hpl]; simp
  have gh3 := HH.gh
  have gq3 := HH.gq
  simp only [wk1, wk3, forall_eq, List.range'_succ, List.range'_zero, false_implies, true_implies, List.contains_cons, List.contains_nil, Nat.reduceBEq, Bool.or_false, Bool.false_or, implies_true, List.lookup_cons, and_true, evOp, evParts, okVal, ev1, evs, evOpt, envOf, List.lookup_nil, List.size_toArray, List.length_cons, List.length_nil, List.range, List.range.loop, Nat.zero_add, Nat.reduceAdd, Bool.not_false, Bool.not_true, Bool.true_or, if_true, if_false, reduceIte, Nat.reduceEqDiff, reduceCtorEq, List.getElem?_toArray, List.getElem?_cons_zero, List.getElem?_cons_succ, guardOf, constOk, constCell, evBuiltin, opLen, List.head?_cons, foldV, min2V, max2V, Int.reduceLT, Int.reduceEq, Kend, resOf, Bool.false_eq_true, Bool.true_eq_false, IntKind.signed, IntKind.max, opConvert, opLoad, aggOf, Option.some.injEq, Value.bool.injEq, exists_eq_left', true_and, forall_const, decide_eq_true_eq, decide_eq_false_iff_not, Int.natCast_nonneg, and_self, Int.toNat_natCast, Nat.mul_one, List.append_nil, beq_self_eq_true, Nat.lt_irrefl, Nat.zero_lt_succ, Nat.reduceLT, Option.bind_some, bin_teq, bin_meq, bin_sne, veq_ints, veq_map, new_get_if, new_next, set_get_if, set_next, decide_true, decide_false, beq_tt, beq_tf, beq_ft, beq_ff, undef, Nat.left_eq_add, Nat.add_eq_left, List.drop_zero, List.drop_succ_cons, List.take_succ_cons, List.take_zero, List.drop_nil, opBox, Value.cells, opStore, setCells, List.length_append, Nat.reduceLeDiff, Nat.add_zero, Nat.add_assoc, Nat.add_right_cancel_iff, List.cons_append, List.nil_append, Array.toList, Option.isNone_none, Option.isNone_some, bin_weq, bin_wneq, bin_req, bin_rneq, ne_eq, not_true_eq_false, not_false_eq_true, wk0, fxC18z, gh3, gp3, ix, gq3, hc1, e1]
  have sh : Shows (m3.new (.cells [] 5 true)) (.slice va P.b.length vz) (byteCells P.b) := (fv.pz (z03.trans (Pz.new _ _))).shows
  obtain ⟨m4, r4, q1, q2, q3, q4, q5⟩ := copy_row (P := Try.prog) wt (added_bytes wt sh) (by omega)
  have N4 := q5.1
  have lh := HH.lh
  have lq := HH.lq
  have lr := HH.lr
  have gh4 := (q5.2 h (by omega)).trans gh3
  have gp4 := (q5.2 m.next (by omega)).trans gp3
  have gq4 := (q5.2 q (by omega)).trans gq3
  have gk4 := (q5.2 m1.next (by omega)).trans gk3
  have gi4 := (q5.2 i (by omega)).trans gi3
  have gr4 := (q5.2 r (by omega)).trans HH.gr
  have hl : cs.length = ps.length := by
    have := HH.parts.length (sz := 1) partR.len
    omega
  have st : opStore Try.prog 22 (.pointer (some ⟨q, p, none⟩)) (.slice (some ⟨r4, 0, none⟩) P.b.length 1) m4 = some (m4.set q (.cells (cs.set p (.slice (some ⟨r4, 0, none⟩) P.b.length 1)) 22 true)) := store_one (P := Try.prog) gq4 ts22 rfl (by omega)
  have nhq : ¬ h = q := cne gh3 gq3 (by decide)
  have npq : ¬ m.next = q := cne gp3 gq3 (by decide)
  have n1 : ¬ h = m3.next := by omega
  have n2 : ¬ m.next = m3.next := by omega
  refine Loose.by (fun y => y = h ∨ y = m.next) ?_
  simp only [wk1, wk3, forall_eq, List.range'_succ, List.range'_zero, false_implies, true_implies, List.contains_cons, List.contains_nil, Nat.reduceBEq, Bool.or_false, Bool.false_or, implies_true, List.lookup_cons, and_true, evOp, evParts, okVal, ev1, evs, evOpt, envOf, List.lookup_nil, List.size_toArray, List.length_cons, List.length_nil, List.range, List.range.loop, Nat.zero_add, Nat.reduceAdd, Bool.not_false, Bool.not_true, Bool.true_or, if_true, if_false, reduceIte, Nat.reduceEqDiff, reduceCtorEq, List.getElem?_toArray, List.getElem?_cons_zero, List.getElem?_cons_succ, guardOf, constOk, constCell, evBuiltin, opLen, List.head?_cons, foldV, min2V, max2V, Int.reduceLT, Int.reduceEq, Kend, resOf, Bool.false_eq_true, Bool.true_eq_false, IntKind.signed, IntKind.max, opConvert, opLoad, aggOf, Option.some.injEq, Value.bool.injEq, exists_eq_left', true_and, forall_const, decide_eq_true_eq, decide_eq_false_iff_not, Int.natCast_nonneg, and_self, Int.toNat_natCast, Nat.mul_one, List.append_nil, beq_self_eq_true, Nat.lt_irrefl, Nat.zero_lt_succ, Nat.reduceLT, Option.bind_some, bin_teq, bin_meq, bin_sne, veq_ints, veq_map, new_get_if, new_next, set_get_if, set_next, decide_true, decide_false, beq_tt, beq_tf, beq_ft, beq_ff, undef, Nat.left_eq_add, Nat.add_eq_left, List.drop_zero, List.drop_succ_cons, List.take_succ_cons, List.take_zero, List.drop_nil, opBox, Value.cells, setCells, List.length_append, Nat.reduceLeDiff, Nat.add_zero, Nat.add_assoc, Nat.add_right_cancel_iff, List.cons_append, List.nil_append, Array.toList, Option.isNone_none, Option.isNone_some, bin_weq, bin_wneq, bin_req, bin_rneq, ne_eq, not_true_eq_false, not_false_eq_true, wk0, fxC18z, st, forall_eq_or_imp, true_or, or_true, gh3, gp3, ix, no_row, q1, n1, n2, gh4, gp4, nhq, npq]
  obtain ⟨m5, hm5⟩ : ∃ m5, m5 = m4.set q (.cells (cs.set p (.slice (some ⟨r4, 0, none⟩) P.b.length 1)) 22 true) := ⟨_, rfl⟩
  have k5 : ∀ j, j ≠ q → m5.get j = m4.get j := fun j hj => by rw [hm5]; exact set_get_ne _ hj
  have gq5 : m5.get q = some (.cells (cs.set p (.slice (some ⟨r4, 0, none⟩) P.b.length 1)) 22 true) := by rw [hm5]; exact set_get _ _ _
  have z5 : Pz m3 m5 := by rw [hm5]; exact q5.pz.trans (Pz.set gq4 _)
  have N5 : m5.next = m4.next := by rw [hm5]; rfl
  rw [← hm5]
  clear hm5
  have gh5 := (k5 h nhq).trans gh4
  have gp5 := (k5 m.next npq).trans gp4
  have gk5 := (k5 m1.next (cne gk4 gq4 (by decide))).trans gk4
  have gi5 := (k5 i (cne gi4 gq4 (by decide))).trans gi4
  have gr5 := (k5 r (cne gr4 gq4 (by decide))).trans gr4
  have g45 := (k5 r4 (by omega)).trans q2
  have hh := holes_set (b := P.b) hpb
  have hh2 : holes ps ≤ ps.length := List.countP_le_length
  obtain ⟨H', hH'⟩ : ∃ H', H' = holes (ps.set p (some P.b)) := ⟨_, rfl⟩
  have hw : IntKind.i64.wrap ((holes ps : Int) - 1) = (H' : Int) := by rw [wrap_i64 (by omega) (by omega)]; omega
  obtain ⟨m6, hm6⟩ : ∃ m6, m6 = m5.set h (.cells [.int .i64 P.f, .int .u32 P.l, .slice (some ⟨q, 0, none⟩) ps.length 1, .int .i64 (H' : Int)] 64 true) := ⟨_, rfl⟩
  have st6 : opStore Try.prog 3 (.pointer (some ⟨h, 3, none⟩)) (.int .i64 (H' : Int)) m5 = some m6 := by
    rw [hm6]
    exact store_one (P := Try.prog) gh5 ts3 rfl (by simp)
  have k6 : ∀ j, j ≠ h → m6.get j = m5.get j := fun j hj => by rw [hm6]; exact set_get_ne _ hj
  have gh6 : m6.get h = some (.cells [.int .i64 P.f, .int .u32 P.l, .slice (some ⟨q, 0, none⟩) ps.length 1, .int .i64 (H' : Int)] 64 true) := by rw [hm6]; exact set_get _ _ _
  have z6 : Pz m3 m6 := by rw [hm6]; exact z5.trans (Pz.set gh5 _)
  have N6 : m6.next = m4.next := by rw [hm6]; exact N5
  clear hm6
  have gq6 := (k6 q (fun e => nhq e.symm)).trans gq5
  have gk6 := (k6 m1.next (cne gk5 gh5 (by decide))).trans gk5
  have gi6 := (k6 i (cne gi5 gh5 (by decide))).trans gi5
  have gr6 := (k6 r (cne gr5 gh5 (by decide))).trans gr5
  have g46 := (k6 r4 (by omega)).trans g45
  have B6 : Brow 5 m6 r4 P.b := ⟨by omega, g46⟩
  obtain ⟨m7, z67, f7, N7, k7⟩ := B6.own.frz
  have z7 : Pz m3 m7 := z6.trans z67.pz
  have HH7 : HalfIs m7 k h lv (pk P) (ps.set p (some P.b)) r q (cs.set p (.slice (some ⟨r4, 0, none⟩) P.b.length 1)) := by
    refine ⟨HH.lv, (k7 r (by omega)).trans gr6, ?_, (k7 q (by omega)).trans gq6, rows_set (HH.parts.mono (partR.pz z7)) hpn ⟨_, _, rfl, f7⟩, by omega, by omega, by omega⟩
    rw [List.length_set, ← hH']
    exact (k7 h (by omega)).trans gh6
  have gi7 := (k7 i (by omega)).trans gi6
  have gk7 := (k7 m1.next (by omega)).trans gk6
  have D7 : DoneAt m7 k dv T.done := D3.keep (by omega) fun d hd => by
    obtain ⟨_, hlt, es, he⟩ := D3.lt hd
    rw [k7 d (by omega), k6 d (fun e => mne gh3 he e.symm), k5 d (fun e => mne gq3 he e.symm), q5.2 d hlt]
  have F7 : ∀ j, j < k → m7.get j = m.get j := fun j hj => by
    rw [k7 j (by omega), k6 j (by omega), k5 j (by omega), q5.2 j (by omega), F3 j hj]
  have z07 := z03.trans z7
  have li7 : k ≤ i ∧ i < m7.next := by omega
  clear k7 k6 k5 q5 F3 D3 f7 B6 g46 gr6 gi6 gq6
  rw [← hH'] at hK
  by_cases hz : 0 < H'
  · have hz' : decide ((0 : Int) < (H' : Int)) = true := by simp; omega
    simp only [wk1, wk3, forall_eq, List.range'_succ, List.range'_zero, false_implies, true_implies, List.contains_cons, List.contains_nil, Nat.reduceBEq, Bool.or_false, Bool.false_or, implies_true, List.lookup_cons, and_true, evOp, evParts, okVal, ev1, evs, evOpt, envOf, List.lookup_nil, List.size_toArray, List.length_cons, List.length_nil, List.range, List.range.loop, Nat.zero_add, Nat.reduceAdd, Bool.not_false, Bool.not_true, Bool.true_or, if_true, if_false, reduceIte, Nat.reduceEqDiff, reduceCtorEq, List.getElem?_toArray, List.getElem?_cons_zero, List.getElem?_cons_succ, guardOf, constOk, constCell, evBuiltin, opLen, List.head?_cons, foldV, min2V, max2V, Int.reduceLT, Int.reduceEq, Kend, resOf, Bool.false_eq_true, Bool.true_eq_false, IntKind.signed, IntKind.max, opConvert, opIndexAddr, opLoad, aggOf, Option.some.injEq, Value.bool.injEq, exists_eq_left', true_and, forall_const, decide_eq_true_eq, decide_eq_false_iff_not, Int.natCast_nonneg, and_self, Int.toNat_natCast, Nat.mul_one, List.append_nil, beq_self_eq_true, Nat.lt_irrefl, Nat.zero_lt_succ, Nat.reduceLT, Option.bind_some, bin_teq, bin_meq, bin_sne, veq_ints, veq_map, new_get_if, new_next, set_get_if, set_next, decide_true, decide_false, beq_tt, beq_tf, beq_ft, beq_ff, undef, Nat.left_eq_add, Nat.add_eq_left, List.drop_zero, List.drop_succ_cons, List.take_succ_cons, List.take_zero, List.drop_nil, opBox, Value.cells, setCells, List.length_append, Nat.reduceLeDiff, Nat.add_zero, Nat.add_assoc, Nat.add_right_cancel_iff, List.cons_append, List.nil_append, Array.toList, Option.isNone_none, Option.isNone_some, bin_weq, bin_wneq, bin_req, bin_rneq, ne_eq, not_true_eq_false, not_false_eq_true, wk0, fxC18z, gh5, hw, st6, gh6, hz']
    refine ⟨m7, z67, fun zz => ?_⟩
    have e0 : decide (H' = 0) = false := by simp; omega
    rw [e0] at hK
    refine hK m7 _ ⟨⟨lv, dv, h, gi7, ?_, ?_⟩, li7⟩ zz F7 (fun _ => rfl) (fun e => by omega)
    · rw [setT, ← hH', if_pos hz]
      exact ⟨r, q, _, HH7⟩
    · rw [setT, ← hH', if_pos hz]
      exact D7
  · have hz' : decide ((0 : Int) < (H' : Int)) = false := by simp; omega
    obtain rfl : H' = 0 := by omega
    simp only [wk1, wk3, forall_eq, List.range'_succ, List.range'_zero, false_implies, true_implies, List.contains_cons, List.contains_nil, Nat.reduceBEq, Bool.or_false, Bool.false_or, implies_true, List.lookup_cons, and_true, evOp, evParts, okVal, ev1, evs, evOpt, envOf, List.lookup_nil, List.size_toArray, List.length_cons, List.length_nil, List.range, List.range.loop, Nat.zero_add, Nat.reduceAdd, Bool.not_false, Bool.not_true, Bool.true_or, if_true, if_false, reduceIte, Nat.reduceEqDiff, reduceCtorEq, List.getElem?_toArray, List.getElem?_cons_zero, List.getElem?_cons_succ, guardOf, constOk, constCell, evBuiltin, opLen, List.head?_cons, foldV, min2V, max2V, Int.reduceLT, Int.reduceEq, Kend, resOf, Bool.false_eq_true, Bool.true_eq_false, IntKind.signed, IntKind.max, opConvert, opIndexAddr, opLoad, aggOf, Option.some.injEq, Value.bool.injEq, exists_eq_left', true_and, forall_const, decide_eq_true_eq, decide_eq_false_iff_not, Int.natCast_nonneg, and_self, Int.toNat_natCast, Nat.mul_one, List.append_nil, beq_self_eq_true, Nat.lt_irrefl, Nat.zero_lt_succ, Nat.reduceLT, Option.bind_some, bin_teq, bin_meq, bin_sne, veq_ints, veq_map, new_get_if, new_next, set_get_if, set_next, decide_true, decide_false, beq_tt, beq_tf, beq_ft, beq_ff, undef, Nat.left_eq_add, Nat.add_eq_left, List.drop_zero, List.drop_succ_cons, List.take_succ_cons, List.take_zero, List.drop_nil, opBox, Value.cells, setCells, List.length_append, Nat.reduceLeDiff, Nat.add_zero, Nat.add_assoc, Nat.add_right_cancel_iff, List.cons_append, List.nil_append, Array.toList, Option.isNone_none, Option.isNone_some, bin_weq, bin_wneq, bin_req, bin_rneq, ne_eq, not_true_eq_false, not_false_eq_true, wk0, fxC18z, gh5, hw, st6, gh6, hz', gk6]
    refine Ret.thaw z67 ?_
    refine Ret.pz (drop_ret gi7 li7.2 HH7 fun m8 g8 n8 f8 z8 => ?_)
    have lh7 := HH7.lh
    have lq7 := HH7.lq
    have gh8 := (f8 h (by omega) (cne HH7.gh gi7 (by decide))).trans HH7.gh
    rw [List.length_set] at gh8
    have gq8 := (f8 q (by omega) (cne HH7.gq gi7 (by decide))).trans HH7.gq
    have gk8 := (f8 m1.next (by omega) (cne gk7 gi7 (by decide))).trans gk7
    have D8 : DoneAt m8 k dv T.done := D7.keep (by omega) fun d hd => by
      obtain ⟨_, hlt, es, he⟩ := D7.lt hd
      exact f8 d hlt (fun e => mne gi7 he e.symm)
    have F8 : ∀ j, j < k → m8.get j = m.get j := fun j hj => by rw [f8 j (by omega) (by omega), F7 j hj]
    have lpn : ps.length = (ps.set p (some P.b)).length := by rw [List.length_set]
    have hsz' : ∀ b, some b ∈ ps.set p (some P.b) → b.length ≤ 48 := fun b hb => by
      rcases List.mem_or_eq_of_mem_set hb with h | h
      · exact hsz b h
      · rw [Option.some.inj h]
        exact c4
    rcases D8 with ⟨rfl, hD⟩ | ⟨d, rfl, M8, hd1, hd2⟩
    · have ni : ¬ i = m8.next := by omega
      obtain ⟨ma, hma⟩ : ∃ ma, ma = (m8.new (.map [])).set i (.cells [.slice none 0 0, .map (some m8.next)] 38 true) := ⟨_, rfl⟩
      have sta : opStore Try.prog 36 (.pointer (some ⟨i, 1, none⟩)) (.map (some m8.next)) (m8.new (.map [])) = some ma := by
        rw [hma]
        exact store_one (P := Try.prog) ((new_get_ne _ ni).trans g8) ts36 rfl (by simp)
      have ga : ma.get i = some (.cells [.slice none 0 0, .map (some m8.next)] 38 true) := by rw [hma]; exact set_get _ _ _
      have ka : ∀ j, j ≠ i → j ≠ m8.next → ma.get j = m8.get j := fun j h1 h2 => by rw [hma, set_get_ne _ h1, new_get_ne _ h2]
      have Na : ma.next = m8.next + 1 := by rw [hma]; rfl
      have za : Pz m8 ma := by
        rw [hma]
        exact (Pz.new _ _).trans (Pz.set ((new_get_ne _ ni).trans g8) _)
      have Ma : MapIs ma m8.next keyV BoolR [] := ⟨[], by rw [hma, set_get_ne _ (fun e => ni e.symm)]; exact new_get _ _, trivial⟩
      clear hma
      have gha := (ka h (cne gh8 g8 (by decide)) (by omega)).trans gh8
      have gqa := (ka q (cne gq8 g8 (by decide)) (by omega)).trans gq8
      have gka := (ka m1.next (cne gk8 g8 (by decide)) (by omega)).trans gk8
      obtain ⟨d, hd⟩ : ∃ d, d = m8.next := ⟨_, rfl⟩
      rw [← hd] at sta ga Ma
      obtain ⟨es, w1, w2⟩ := Ma.update (P := Try.prog) (v := .bool true) key_ok Try.underlying36 (pk P) (a := true) rfl
      obtain ⟨m9, hm9⟩ : ∃ m9, m9 = ma.set d (.map es) := ⟨_, rfl⟩
      have k9 : ∀ j, j ≠ d → m9.get j = ma.get j := fun j hj => by rw [hm9]; exact set_get_ne _ hj
      have N9 : m9.next = m8.next + 1 := by rw [hm9]; exact Na
      rw [← hm9] at w1 w2
      have z9 : Pz m8 m9 := by
        obtain ⟨_, hgl, _⟩ := Ma
        rw [hm9]
        exact za.trans (Pz.mset hgl _)
      clear hm9
      have g9 := (k9 i (by omega)).trans ga
      have gh9 := (k9 h (by omega)).trans gha
      have gq9 := (k9 q (by omega)).trans gqa
      have F9 : ∀ j, j < k → m9.get j = m.get j := fun j hj => by rw [k9 j (by omega), ka j (by omega) (by omega), F8 j hj]
      rw [← hD] at w2
      have M9 : MapIs m9 d keyV BoolR (mput T.done (pk P) true) := w2
      have ld9 : k ≤ d ∧ d < m9.next := by omega
      have R9 : RowsOf (partR m9) (ps.set p (some P.b)) (cs.set p (.slice (some ⟨r4, 0, none⟩) P.b.length 1)) := HH7.parts.mono (partR.pz (z8.trans z9))
      have w1' : opMapUpdate Try.prog 36 (.map (some d)) (.agg #[.int .i64 P.f, .int .u32 P.l]) (.bool true) ma = some m9 := w1
      simp only [wk1, wk3, forall_eq, List.range'_succ, List.range'_zero, false_implies, true_implies, List.contains_cons, List.contains_nil, Nat.reduceBEq, Bool.or_false, Bool.false_or, implies_true, List.lookup_cons, and_true, evOp, evParts, okVal, ev1, evs, evOpt, envOf, List.lookup_nil, List.size_toArray, List.length_cons, List.length_nil, List.range, List.range.loop, Nat.zero_add, Nat.reduceAdd, Bool.not_false, Bool.not_true, Bool.true_or, if_true, if_false, reduceIte, Nat.reduceEqDiff, reduceCtorEq, List.getElem?_toArray, List.getElem?_cons_zero, List.getElem?_cons_succ, guardOf, constOk, constCell, evBuiltin, opLen, List.head?_cons, foldV, min2V, max2V, Int.reduceLT, Int.reduceEq, Kend, resOf, Bool.false_eq_true, Bool.true_eq_false, IntKind.signed, IntKind.max, opConvert, opIndexAddr, opLoad, aggOf, Option.some.injEq, Value.bool.injEq, exists_eq_left', true_and, forall_const, decide_eq_true_eq, decide_eq_false_iff_not, Int.natCast_nonneg, and_self, Int.toNat_natCast, Nat.mul_one, List.append_nil, beq_self_eq_true, Nat.lt_irrefl, Nat.zero_lt_succ, Nat.reduceLT, Option.bind_some, bin_teq, bin_meq, bin_sne, veq_ints, veq_map, new_next, set_get_if, set_next, decide_true, decide_false, beq_tt, beq_tf, beq_ft, beq_ff, undef, Nat.left_eq_add, Nat.add_eq_left, List.drop_zero, List.drop_succ_cons, List.take_succ_cons, List.take_zero, List.drop_nil, opBox, Value.cells, setCells, List.length_append, Nat.reduceLeDiff, Nat.add_zero, Nat.add_assoc, Nat.add_right_cancel_iff, List.cons_append, List.nil_append, Array.toList, Option.isNone_none, Option.isNone_some, bin_weq, bin_wneq, bin_req, bin_rneq, ne_eq, not_true_eq_false, not_false_eq_true, wk0, fxC18z, g8, ← hd, sta, ga, gka, w1', gh9]
      refine loop_wp [] (by kernel_rfl) (fun c env μ => ∃ (j r8 : Nat) (pv : Value), c + j = ps.length ∧ Ext m9 μ ∧ OwnI r8 5 1 μ pv (partsOut ((ps.set p (some P.b)).take j)).length (byteCells (partsOut ((ps.set p (some P.b)).take j))) ∧ m9.next ≤ r8 ∧ env 8 = some pv ∧ env 96 = some (.slice (some ⟨q, 0, none⟩) ps.length 1) ∧ env 97 = some (.int .i64 ps.length) ∧ env 98 = some (.int .i64 j)) ?_ ps.length ⟨0, m9.next, .slice none 0 0, rfl, Ext.refl m9, OwnI.nil, Nat.le_refl _, rfl, rfl, rfl, rfl⟩
      rintro c env μ ⟨j, r8, pv, hcj, xμ, o, ho, e8, e96, e97, e98⟩
      simp only [wk1, wk3, forall_eq, List.range'_succ, List.range'_zero, false_implies, true_implies, List.contains_cons, List.contains_nil, Nat.reduceBEq, Bool.or_false, Bool.false_or, implies_true, List.lookup_cons, and_true, evOp, evParts, okVal, ev1, evs, evOpt, envOf, List.lookup_nil, List.size_toArray, List.length_cons, List.length_nil, List.range, List.range.loop, Nat.zero_add, Nat.reduceAdd, Bool.not_false, Bool.not_true, Bool.true_or, if_true, if_false, reduceIte, Nat.reduceEqDiff, reduceCtorEq, List.getElem?_toArray, List.getElem?_cons_zero, List.getElem?_cons_succ, guardOf, constOk, constCell, evBuiltin, opLen, List.head?_cons, foldV, min2V, max2V, Int.reduceLT, Int.reduceEq, Kend, resOf, Bool.false_eq_true, Bool.true_eq_false, IntKind.signed, IntKind.max, opConvert, opIndexAddr, opLoad, aggOf, Option.some.injEq, Value.bool.injEq, exists_eq_left', true_and, forall_const, decide_eq_true_eq, decide_eq_false_iff_not, Int.natCast_nonneg, and_self, Int.toNat_natCast, Nat.mul_one, List.append_nil, beq_self_eq_true, Nat.lt_irrefl, Nat.zero_lt_succ, Nat.reduceLT, Option.bind_some, bin_teq, bin_meq, bin_sne, veq_ints, veq_map, new_get_if, new_next, set_get_if, set_next, decide_true, decide_false, beq_tt, beq_tf, beq_ft, beq_ff, undef, Nat.left_eq_add, Nat.add_eq_left, List.drop_zero, List.drop_succ_cons, List.take_succ_cons, List.take_zero, List.drop_nil, opBox, Value.cells, opStore, setCells, List.length_append, Nat.reduceLeDiff, Nat.add_zero, Nat.add_assoc, Nat.add_right_cancel_iff, List.cons_append, List.nil_append, Array.toList, Option.isNone_none, Option.isNone_some, bin_weq, bin_wneq, bin_req, bin_rneq, ne_eq, not_true_eq_false, not_false_eq_true, wk0, fxC18z, e97, e98]
      refine cond_by (fun hlt => ?_) (fun hge => ?_)
      · have hj : j < ps.length := by omega
        have hj' : j < (ps.set p (some P.b)).length := by rw [List.length_set]; exact hj
        obtain ⟨cv, hcv, hcR⟩ := rows_at R9 hj'
        obtain ⟨b, hb⟩ := holes_zero hH'.symm hj'
        rw [hb] at hcR
        obtain ⟨ca, cz, e1, fb⟩ := hcR
        obtain rfl : cv = .slice (some ca) b.length cz := by simpa using e1
        have gqμ := (xμ.2 q (by omega)).trans gq9
        have ixj := ix57 (q := q) hj
        have hlen : (partsOut ((ps.set p (some P.b)).take j)).length ≤ 4800 := by
          have := partsOut_len (ps := (ps.set p (some P.b)).take j) (k := 48) fun b hb => hsz' b (List.mem_of_mem_take hb)
          have h2 : ((ps.set p (some P.b)).take j).length ≤ 100 := by rw [List.length_take]; omega
          have := Nat.mul_le_mul_right 48 h2
          omega
        have hbl : b.length ≤ 48 := hsz' b (by rw [← hb]; exact List.getElem_mem _)
        obtain ⟨a', q', μ', r', p1, p2, p3, p4, p5⟩ := o.push (P := Try.prog) (tx := 22) Try.underlying22 ⟨_, Try.underlying22⟩ ts5 (by decide) tz5 tb5 (by decide) rfl rfl (fb.pz xμ.pz).showsR (by omega)
        have hx := xμ.1
        obtain ⟨pa, pq, hpv⟩ := o.is
        rw [hpv] at p1 e8
        simp only [wk1, wk3, forall_eq, List.range'_succ, List.range'_zero, false_implies, true_implies, List.contains_cons, List.contains_nil, Nat.reduceBEq, Bool.or_false, Bool.false_or, implies_true, List.lookup_cons, and_true, evOp, evParts, okVal, ev1, evs, evOpt, envOf, List.lookup_nil, List.size_toArray, List.length_cons, List.length_nil, List.range, List.range.loop, Nat.zero_add, Nat.reduceAdd, Bool.not_false, Bool.not_true, Bool.true_or, if_true, if_false, reduceIte, Nat.reduceEqDiff, reduceCtorEq, List.getElem?_toArray, List.getElem?_cons_zero, List.getElem?_cons_succ, guardOf, constOk, constCell, evBuiltin, opLen, List.head?_cons, foldV, min2V, max2V, Int.reduceLT, Int.reduceEq, Kend, resOf, Bool.false_eq_true, Bool.true_eq_false, IntKind.signed, IntKind.max, opConvert, opLoad, aggOf, Option.some.injEq, Value.bool.injEq, exists_eq_left', true_and, forall_const, decide_eq_true_eq, decide_eq_false_iff_not, Int.natCast_nonneg, and_self, Int.toNat_natCast, Nat.mul_one, List.append_nil, beq_self_eq_true, Nat.lt_irrefl, Nat.zero_lt_succ, Nat.reduceLT, Option.bind_some, bin_teq, bin_meq, bin_sne, veq_ints, veq_map, new_get_if, new_next, set_get_if, set_next, decide_true, decide_false, beq_tt, beq_tf, beq_ft, beq_ff, undef, Nat.left_eq_add, Nat.add_eq_left, List.drop_zero, List.drop_succ_cons, List.take_succ_cons, List.take_zero, List.drop_nil, opBox, Value.cells, opStore, setCells, List.length_append, Nat.reduceLeDiff, Nat.add_zero, Nat.add_assoc, Nat.add_right_cancel_iff, List.cons_append, List.nil_append, Array.toList, Option.isNone_none, Option.isNone_some, bin_weq, bin_wneq, bin_req, bin_rneq, ne_eq, not_true_eq_false, not_false_eq_true, wk0, fxC18z, e8, e96, e97, e98, ixj, gqμ, hcv, p1]
        refine ⟨c - 1, by omega, j + 1, r', _, by omega, ⟨by omega, fun y hy => ?_⟩, ?_, ?_, rfl, ?_⟩
        · rw [p5 y (by omega) (fun h => by omega), xμ.2 y hy]
        · rw [partsOut_take hj' hb, byteCells_append, List.length_append]
          exact p2
        · omega
        · rw [wrap_i64 (by omega) (by omega)]; rfl
      · obtain rfl : j = ps.length := by omega
        have et : (ps.set p (some P.b)).take ps.length = ps.set p (some P.b) := List.take_of_length_le (by rw [List.length_set]; exact Nat.le_refl _)
        rw [et] at o
        have hx := xμ.1
        simp only [wk1, wk3, forall_eq, List.range'_succ, List.range'_zero, false_implies, true_implies, List.contains_cons, List.contains_nil, Nat.reduceBEq, Bool.or_false, Bool.false_or, implies_true, List.lookup_cons, and_true, evOp, evParts, okVal, ev1, evs, evOpt, envOf, List.lookup_nil, List.size_toArray, List.length_cons, List.length_nil, List.range, List.range.loop, Nat.zero_add, Nat.reduceAdd, Bool.not_false, Bool.not_true, Bool.true_or, if_true, if_false, reduceIte, Nat.reduceEqDiff, reduceCtorEq, List.getElem?_toArray, List.getElem?_cons_zero, List.getElem?_cons_succ, guardOf, constOk, constCell, evBuiltin, opLen, List.head?_cons, foldV, min2V, max2V, Int.reduceLT, Int.reduceEq, Kend, resOf, Bool.false_eq_true, Bool.true_eq_false, IntKind.signed, IntKind.max, opConvert, opIndexAddr, opLoad, aggOf, Option.some.injEq, Value.bool.injEq, exists_eq_left', true_and, forall_const, decide_eq_true_eq, decide_eq_false_iff_not, Int.natCast_nonneg, and_self, Int.toNat_natCast, Nat.mul_one, List.append_nil, beq_self_eq_true, Nat.lt_irrefl, Nat.zero_lt_succ, Nat.reduceLT, Option.bind_some, bin_teq, bin_meq, bin_sne, veq_ints, veq_map, new_get_if, new_next, set_get_if, set_next, decide_true, decide_false, beq_tt, beq_tf, beq_ft, beq_ff, undef, Nat.left_eq_add, Nat.add_eq_left, List.drop_zero, List.drop_succ_cons, List.take_succ_cons, List.take_zero, List.drop_nil, opBox, Value.cells, opStore, setCells, List.length_append, Nat.reduceLeDiff, Nat.add_zero, Nat.add_assoc, Nat.add_right_cancel_iff, List.cons_append, List.nil_append, Array.toList, Option.isNone_none, Option.isNone_some, bin_weq, bin_wneq, bin_req, bin_rneq, ne_eq, not_true_eq_false, not_false_eq_true, wk0, fxC18z, e8, e97, e98]
        refine ⟨μ, Frz.refl μ, fun zz => ?_⟩
        have ek : decide ((0 : Nat) = 0) = true := rfl
        rw [ek] at hK
        refine hK μ pv ⟨⟨.slice none 0 0, .map (some d), 0, (xμ.2 i (by omega)).trans g9, ?_, ?_⟩, by omega⟩ zz (fun j hj => by rw [xμ.2 j (by omega), F9 j hj]) (fun h => by omega) (fun _ => ⟨r8, o, by omega⟩)
        · rw [setT, ← hH', if_neg hz]
          rfl
        · rw [setT, ← hH', if_neg hz]
          exact .inr ⟨d, rfl, M9.keep (xμ.2 d ld9.2), ld9.1, by omega⟩
    · obtain ⟨es, w1, w2⟩ := M8.update (P := Try.prog) (v := .bool true) key_ok Try.underlying36 (pk P) (a := true) rfl
      obtain ⟨m9, hm9⟩ : ∃ m9, m9 = m8.set d (.map es) := ⟨_, rfl⟩
      have k9 : ∀ j, j ≠ d → m9.get j = m8.get j := fun j hj => by rw [hm9]; exact set_get_ne _ hj
      have N9 : m9.next = m8.next := by rw [hm9]; rfl
      rw [← hm9] at w1 w2
      have z9 : Pz m8 m9 := by
        obtain ⟨_, hgl, _⟩ := M8
        rw [hm9]
        exact Pz.mset hgl _
      clear hm9
      have hmd : ∃ es, m8.get d = some (.map es) := ⟨_, M8.choose_spec.1⟩
      obtain ⟨es0, hmd⟩ := hmd
      have g9 := (k9 i (mne g8 hmd)).trans g8
      have gh9 := (k9 h (mne gh8 hmd)).trans gh8
      have gq9 := (k9 q (mne gq8 hmd)).trans gq8
      have F9 : ∀ j, j < k → m9.get j = m.get j := fun j hj => by rw [k9 j (by omega), F8 j hj]
      have M9 : MapIs m9 d keyV BoolR (mput T.done (pk P) true) := w2
      have ld9 : k ≤ d ∧ d < m9.next := by omega
      have R9 : RowsOf (partR m9) (ps.set p (some P.b)) (cs.set p (.slice (some ⟨r4, 0, none⟩) P.b.length 1)) := HH7.parts.mono (partR.pz (z8.trans z9))
      have w1' : opMapUpdate Try.prog 36 (.map (some d)) (.agg #[.int .i64 P.f, .int .u32 P.l]) (.bool true) m8 = some m9 := w1
      simp only [wk1, wk3, forall_eq, List.range'_succ, List.range'_zero, false_implies, true_implies, List.contains_cons, List.contains_nil, Nat.reduceBEq, Bool.or_false, Bool.false_or, implies_true, List.lookup_cons, and_true, evOp, evParts, okVal, ev1, evs, evOpt, envOf, List.lookup_nil, List.size_toArray, List.length_cons, List.length_nil, List.range, List.range.loop, Nat.zero_add, Nat.reduceAdd, Bool.not_false, Bool.not_true, Bool.true_or, if_true, if_false, reduceIte, Nat.reduceEqDiff, reduceCtorEq, List.getElem?_toArray, List.getElem?_cons_zero, List.getElem?_cons_succ, guardOf, constOk, constCell, evBuiltin, opLen, List.head?_cons, foldV, min2V, max2V, Int.reduceLT, Int.reduceEq, Kend, resOf, Bool.false_eq_true, Bool.true_eq_false, IntKind.signed, IntKind.max, opConvert, opIndexAddr, opLoad, aggOf, Option.some.injEq, Value.bool.injEq, exists_eq_left', true_and, forall_const, decide_eq_true_eq, decide_eq_false_iff_not, Int.natCast_nonneg, and_self, Int.toNat_natCast, Nat.mul_one, List.append_nil, beq_self_eq_true, Nat.lt_irrefl, Nat.zero_lt_succ, Nat.reduceLT, Option.bind_some, bin_teq, bin_meq, bin_sne, veq_ints, veq_map, new_get_if, new_next, set_get_if, set_next, decide_true, decide_false, beq_tt, beq_tf, beq_ft, beq_ff, undef, Nat.left_eq_add, Nat.add_eq_left, List.drop_zero, List.drop_succ_cons, List.take_succ_cons, List.take_zero, List.drop_nil, opBox, Value.cells, opStore, setCells, List.length_append, Nat.reduceLeDiff, Nat.add_zero, Nat.add_assoc, Nat.add_right_cancel_iff, List.cons_append, List.nil_append, Array.toList, Option.isNone_none, Option.isNone_some, bin_weq, bin_wneq, bin_req, bin_rneq, ne_eq, not_true_eq_false, not_false_eq_true, wk0, fxC18z, g8, gk8, w1', gh9]
      refine loop_wp [] (by kernel_rfl) (fun c env μ => ∃ (j r8 : Nat) (pv : Value), c + j = ps.length ∧ Ext m9 μ ∧ OwnI r8 5 1 μ pv (partsOut ((ps.set p (some P.b)).take j)).length (byteCells (partsOut ((ps.set p (some P.b)).take j))) ∧ m9.next ≤ r8 ∧ env 8 = some pv ∧ env 96 = some (.slice (some ⟨q, 0, none⟩) ps.length 1) ∧ env 97 = some (.int .i64 ps.length) ∧ env 98 = some (.int .i64 j)) ?_ ps.length ⟨0, m9.next, .slice none 0 0, rfl, Ext.refl m9, OwnI.nil, Nat.le_refl _, rfl, rfl, rfl, rfl⟩
      rintro c env μ ⟨j, r8, pv, hcj, xμ, o, ho, e8, e96, e97, e98⟩
      simp only [wk1, wk3, forall_eq, List.range'_succ, List.range'_zero, false_implies, true_implies, List.contains_cons, List.contains_nil, Nat.reduceBEq, Bool.or_false, Bool.false_or, implies_true, List.lookup_cons, and_true, evOp, evParts, okVal, ev1, evs, evOpt, envOf, List.lookup_nil, List.size_toArray, List.length_cons, List.length_nil, List.range, List.range.loop, Nat.zero_add, Nat.reduceAdd, Bool.not_false, Bool.not_true, Bool.true_or, if_true, if_false, reduceIte, Nat.reduceEqDiff, reduceCtorEq, List.getElem?_toArray, List.getElem?_cons_zero, List.getElem?_cons_succ, guardOf, constOk, constCell, evBuiltin, opLen, List.head?_cons, foldV, min2V, max2V, Int.reduceLT, Int.reduceEq, Kend, resOf, Bool.false_eq_true, Bool.true_eq_false, IntKind.signed, IntKind.max, opConvert, opIndexAddr, opLoad, aggOf, Option.some.injEq, Value.bool.injEq, exists_eq_left', true_and, forall_const, decide_eq_true_eq, decide_eq_false_iff_not, Int.natCast_nonneg, and_self, Int.toNat_natCast, Nat.mul_one, List.append_nil, beq_self_eq_true, Nat.lt_irrefl, Nat.zero_lt_succ, Nat.reduceLT, Option.bind_some, bin_teq, bin_meq, bin_sne, veq_ints, veq_map, new_get_if, new_next, set_get_if, set_next, decide_true, decide_false, beq_tt, beq_tf, beq_ft, beq_ff, undef, Nat.left_eq_add, Nat.add_eq_left, List.drop_zero, List.drop_succ_cons, List.take_succ_cons, List.take_zero, List.drop_nil, opBox, Value.cells, opStore, setCells, List.length_append, Nat.reduceLeDiff, Nat.add_zero, Nat.add_assoc, Nat.add_right_cancel_iff, List.cons_append, List.nil_append, Array.toList, Option.isNone_none, Option.isNone_some, bin_weq, bin_wneq, bin_req, bin_rneq, ne_eq, not_true_eq_false, not_false_eq_true, wk0, fxC18z, e97, e98]
      refine cond_by (fun hlt => ?_) (fun hge => ?_)
      · have hj : j < ps.length := by omega
        have hj' : j < (ps.set p (some P.b)).length := by rw [List.length_set]; exact hj
        obtain ⟨cv, hcv, hcR⟩ := rows_at R9 hj'
        obtain ⟨b, hb⟩ := holes_zero hH'.symm hj'
        rw [hb] at hcR
        obtain ⟨ca, cz, e1, fb⟩ := hcR
        obtain rfl : cv = .slice (some ca) b.length cz := by simpa using e1
        have gqμ := (xμ.2 q (by omega)).trans gq9
        have ixj := ix57 (q := q) hj
        have hlen : (partsOut ((ps.set p (some P.b)).take j)).length ≤ 4800 := by
          have := partsOut_len (ps := (ps.set p (some P.b)).take j) (k := 48) fun b hb => hsz' b (List.mem_of_mem_take hb)
          have h2 : ((ps.set p (some P.b)).take j).length ≤ 100 := by rw [List.length_take]; omega
          have := Nat.mul_le_mul_right 48 h2
          omega
        have hbl : b.length ≤ 48 := hsz' b (by rw [← hb]; exact List.getElem_mem _)
        obtain ⟨a', q', μ', r', p1, p2, p3, p4, p5⟩ := o.push (P := Try.prog) (tx := 22) Try.underlying22 ⟨_, Try.underlying22⟩ ts5 (by decide) tz5 tb5 (by decide) rfl rfl (fb.pz xμ.pz).showsR (by omega)
        have hx := xμ.1
        obtain ⟨pa, pq, hpv⟩ := o.is
        rw [hpv] at p1 e8
        simp only [wk1, wk3, forall_eq, List.range'_succ, List.range'_zero, false_implies, true_implies, List.contains_cons, List.contains_nil, Nat.reduceBEq, Bool.or_false, Bool.false_or, implies_true, List.lookup_cons, and_true, evOp, evParts, okVal, ev1, evs, evOpt, envOf, List.lookup_nil, List.size_toArray, List.length_cons, List.length_nil, List.range, List.range.loop, Nat.zero_add, Nat.reduceAdd, Bool.not_false, Bool.not_true, Bool.true_or, if_true, if_false, reduceIte, Nat.reduceEqDiff, reduceCtorEq, List.getElem?_toArray, List.getElem?_cons_zero, List.getElem?_cons_succ, guardOf, constOk, constCell, evBuiltin, opLen, List.head?_cons, foldV, min2V, max2V, Int.reduceLT, Int.reduceEq, Kend, resOf, Bool.false_eq_true, Bool.true_eq_false, IntKind.signed, IntKind.max, opConvert, opLoad, aggOf, Option.some.injEq, Value.bool.injEq, exists_eq_left', true_and, forall_const, decide_eq_true_eq, decide_eq_false_iff_not, Int.natCast_nonneg, and_self, Int.toNat_natCast, Nat.mul_one, List.append_nil, beq_self_eq_true, Nat.lt_irrefl, Nat.zero_lt_succ, Nat.reduceLT, Option.bind_some, bin_teq, bin_meq, bin_sne, veq_ints, veq_map, new_get_if, new_next, set_get_if, set_next, decide_true, decide_false, beq_tt, beq_tf, beq_ft, beq_ff, undef, Nat.left_eq_add, Nat.add_eq_left, List.drop_zero, List.drop_succ_cons, List.take_succ_cons, List.take_zero, List.drop_nil, opBox, Value.cells, opStore, setCells, List.length_append, Nat.reduceLeDiff, Nat.add_zero, Nat.add_assoc, Nat.add_right_cancel_iff, List.cons_append, List.nil_append, Array.toList, Option.isNone_none, Option.isNone_some, bin_weq, bin_wneq, bin_req, bin_rneq, ne_eq, not_true_eq_false, not_false_eq_true, wk0, fxC18z, e8, e96, e97, e98, ixj, gqμ, hcv, p1]
        refine ⟨c - 1, by omega, j + 1, r', _, by omega, ⟨by omega, fun y hy => ?_⟩, ?_, ?_, rfl, ?_⟩
        · rw [p5 y (by omega) (fun h => by omega), xμ.2 y hy]
        · rw [partsOut_take hj' hb, byteCells_append, List.length_append]
          exact p2
        · omega
        · rw [wrap_i64 (by omega) (by omega)]; rfl
      · obtain rfl : j = ps.length := by omega
        have et : (ps.set p (some P.b)).take ps.length = ps.set p (some P.b) := List.take_of_length_le (by rw [List.length_set]; exact Nat.le_refl _)
        rw [et] at o
        have hx := xμ.1
        simp only [wk1, wk3, forall_eq, List.range'_succ, List.range'_zero, false_implies, true_implies, List.contains_cons, List.contains_nil, Nat.reduceBEq, Bool.or_false, Bool.false_or, implies_true, List.lookup_cons, and_true, evOp, evParts, okVal, ev1, evs, evOpt, envOf, List.lookup_nil, List.size_toArray, List.length_cons, List.length_nil, List.range, List.range.loop, Nat.zero_add, Nat.reduceAdd, Bool.not_false, Bool.not_true, Bool.true_or, if_true, if_false, reduceIte, Nat.reduceEqDiff, reduceCtorEq, List.getElem?_toArray, List.getElem?_cons_zero, List.getElem?_cons_succ, guardOf, constOk, constCell, evBuiltin, opLen, List.head?_cons, foldV, min2V, max2V, Int.reduceLT, Int.reduceEq, Kend, resOf, Bool.false_eq_true, Bool.true_eq_false, IntKind.signed, IntKind.max, opConvert, opIndexAddr, opLoad, aggOf, Option.some.injEq, Value.bool.injEq, exists_eq_left', true_and, forall_const, decide_eq_true_eq, decide_eq_false_iff_not, Int.natCast_nonneg, and_self, Int.toNat_natCast, Nat.mul_one, List.append_nil, beq_self_eq_true, Nat.lt_irrefl, Nat.zero_lt_succ, Nat.reduceLT, Option.bind_some, bin_teq, bin_meq, bin_sne, veq_ints, veq_map, new_get_if, new_next, set_get_if, set_next, decide_true, decide_false, beq_tt, beq_tf, beq_ft, beq_ff, undef, Nat.left_eq_add, Nat.add_eq_left, List.drop_zero, List.drop_succ_cons, List.take_succ_cons, List.take_zero, List.drop_nil, opBox, Value.cells, opStore, setCells, List.length_append, Nat.reduceLeDiff, Nat.add_zero, Nat.add_assoc, Nat.add_right_cancel_iff, List.cons_append, List.nil_append, Array.toList, Option.isNone_none, Option.isNone_some, bin_weq, bin_wneq, bin_req, bin_rneq, ne_eq, not_true_eq_false, not_false_eq_true, wk0, fxC18z, e8, e97, e98]
        refine ⟨μ, Frz.refl μ, fun zz => ?_⟩
        have ek : decide ((0 : Nat) = 0) = true := rfl
        rw [ek] at hK
        refine hK μ pv ⟨⟨.slice none 0 0, .map (some d), 0, (xμ.2 i (by omega)).trans g9, ?_, ?_⟩, by omega⟩ zz (fun j hj => by rw [xμ.2 j (by omega), F9 j hj]) (fun h => by omega) (fun _ => ⟨r8, o, by omega⟩)
        · rw [setT, ← hH', if_neg hz]
          rfl
        · rw [setT, ← hH', if_neg hz]
          exact .inr ⟨d, rfl, M9.keep (xμ.2 d ld9.2), ld9.1, by omega⟩
end Go.Proofs.Ytiacdjobmfhgoaa
