/- A text of the abstract machine. -/


/- A parcel is put into the table. -/
import Derived.Test.YtiacdjobmfhgoaaAmC18x
import Derived.Test.YtiacdjobmfhgoaaAmBun
set_option linter.unusedSimpArgs false
set_option linter.unusedVariables false
set_option maxRecDepth 100000
set_option maxHeartbeats 4000000
namespace Go.Proofs.Ytiacdjobmfhgoaa
open Go Go.AM Go.AM.Crc Go.AM.Wire
theorem fxC18y : type_of% (And.intro (And.intro (And.intro (And.intro (And.intro (And.intro @Try.underlying34 (And.intro @Try.underlying35 @Try.underlying36)) (And.intro (And.intro @Try.underlying38 @Try.underlying39) (And.intro @Try.underlying57 @Try.underlying60))) (And.intro (And.intro (And.intro @Try.underlying61 @Try.underlying64) (And.intro @Try.underlying26 @Try.underlying32)) (And.intro (And.intro @Try.underlying3 @Try.underlying4) (And.intro @Try.underlying5 @Try.underlying9)))) (And.intro (And.intro (And.intro (And.intro @Try.underlying23 @Try.underlying24) (And.intro @Try.underlying0 @Try.underlying54)) (And.intro (And.intro @Try.underlying22 @Try.underlying66) (And.intro @Try.underlying68 @Try.underlying75))) (And.intro (And.intro (And.intro @Try.underlying85 @Try.underlying27) (And.intro @ts34 @ts35)) (And.intro (And.intro @ts36 @ts38) (And.intro @ts39 @ts57))))) (And.intro (And.intro (And.intro (And.intro @ts60 (And.intro @ts61 @ts64)) (And.intro (And.intro @ts26 @ts32) (And.intro @ts3 @ts4))) (And.intro (And.intro (And.intro @ts5 @ts9) (And.intro @ts23 @ts24)) (And.intro (And.intro @ts0 @ts54) (And.intro @ts22 @ts66)))) (And.intro (And.intro (And.intro (And.intro @ts68 @ts75) (And.intro @ts85 @ts27)) (And.intro (And.intro @tz34 @tz35) (And.intro @tz36 @tz38))) (And.intro (And.intro (And.intro @tz39 @tz57) (And.intro @tz60 @tz61)) (And.intro (And.intro @tz64 @tz26) (And.intro @tz32 @tz3)))))) (And.intro (And.intro (And.intro (And.intro (And.intro @tz4 (And.intro @tz5 @tz9)) (And.intro (And.intro @tz23 @tz24) (And.intro @tz0 @tz54))) (And.intro (And.intro (And.intro @tz22 @tz66) (And.intro @tz68 @tz75)) (And.intro (And.intro @tz85 @tz27) (And.intro @tb34 @tb35)))) (And.intro (And.intro (And.intro (And.intro @tb36 @tb38) (And.intro @tb39 @tb57)) (And.intro (And.intro @tb60 @tb61) (And.intro @tb64 @tb26))) (And.intro (And.intro (And.intro @tb32 @tb3) (And.intro @tb4 @tb5)) (And.intro (And.intro @tb9 @tb23) (And.intro @tb24 @tb0))))) (And.intro (And.intro (And.intro (And.intro (And.intro @tb54 @tb22) (And.intro @tb66 @tb68)) (And.intro (And.intro @tb75 @tb85) (And.intro @tb27 @fr10))) (And.intro (And.intro (And.intro @fr11 @fr12) (And.intro @fr19 @fr20)) (And.intro (And.intro @bz38 @al60) (And.intro @al38 @fa38_0)))) (And.intro (And.intro (And.intro (And.intro @fa38_1 @fa64_0) (And.intro @fa64_1 @fa64_2)) (And.intro (And.intro @fa32_0 @fa32_1) (And.intro @fa32_2 @fa32_3))) (And.intro (And.intro (And.intro @fa32_4 @bz85) (And.intro @al68 @al85)) (And.intro (And.intro @fa68_0 @fa85_0) (And.intro @fa85_1 @fa85_2))))))) := (And.intro (And.intro (And.intro (And.intro (And.intro (And.intro @Try.underlying34 (And.intro @Try.underlying35 @Try.underlying36)) (And.intro (And.intro @Try.underlying38 @Try.underlying39) (And.intro @Try.underlying57 @Try.underlying60))) (And.intro (And.intro (And.intro @Try.underlying61 @Try.underlying64) (And.intro @Try.underlying26 @Try.underlying32)) (And.intro (And.intro @Try.underlying3 @Try.underlying4) (And.intro @Try.underlying5 @Try.underlying9)))) (And.intro (And.intro (And.intro (And.intro @Try.underlying23 @Try.underlying24) (And.intro @Try.underlying0 @Try.underlying54)) (And.intro (And.intro @Try.underlying22 @Try.underlying66) (And.intro @Try.underlying68 @Try.underlying75))) (And.intro (And.intro (And.intro @Try.underlying85 @Try.underlying27) (And.intro @ts34 @ts35)) (And.intro (And.intro @ts36 @ts38) (And.intro @ts39 @ts57))))) (And.intro (And.intro (And.intro (And.intro @ts60 (And.intro @ts61 @ts64)) (And.intro (And.intro @ts26 @ts32) (And.intro @ts3 @ts4))) (And.intro (And.intro (And.intro @ts5 @ts9) (And.intro @ts23 @ts24)) (And.intro (And.intro @ts0 @ts54) (And.intro @ts22 @ts66)))) (And.intro (And.intro (And.intro (And.intro @ts68 @ts75) (And.intro @ts85 @ts27)) (And.intro (And.intro @tz34 @tz35) (And.intro @tz36 @tz38))) (And.intro (And.intro (And.intro @tz39 @tz57) (And.intro @tz60 @tz61)) (And.intro (And.intro @tz64 @tz26) (And.intro @tz32 @tz3)))))) (And.intro (And.intro (And.intro (And.intro (And.intro @tz4 (And.intro @tz5 @tz9)) (And.intro (And.intro @tz23 @tz24) (And.intro @tz0 @tz54))) (And.intro (And.intro (And.intro @tz22 @tz66) (And.intro @tz68 @tz75)) (And.intro (And.intro @tz85 @tz27) (And.intro @tb34 @tb35)))) (And.intro (And.intro (And.intro (And.intro @tb36 @tb38) (And.intro @tb39 @tb57)) (And.intro (And.intro @tb60 @tb61) (And.intro @tb64 @tb26))) (And.intro (And.intro (And.intro @tb32 @tb3) (And.intro @tb4 @tb5)) (And.intro (And.intro @tb9 @tb23) (And.intro @tb24 @tb0))))) (And.intro (And.intro (And.intro (And.intro (And.intro @tb54 @tb22) (And.intro @tb66 @tb68)) (And.intro (And.intro @tb75 @tb85) (And.intro @tb27 @fr10))) (And.intro (And.intro (And.intro @fr11 @fr12) (And.intro @fr19 @fr20)) (And.intro (And.intro @bz38 @al60) (And.intro @al38 @fa38_0)))) (And.intro (And.intro (And.intro (And.intro @fa38_1 @fa64_0) (And.intro @fa64_1 @fa64_2)) (And.intro (And.intro @fa32_0 @fa32_1) (And.intro @fa32_2 @fa32_3))) (And.intro (And.intro (And.intro @fa32_4 @bz85) (And.intro @al68 @al85)) (And.intro (And.intro @fa68_0 @fa85_0) (And.intro @fa85_1 @fa85_2)))))))
theorem holes_set {ps : List Part} {p : Nat} {b : List Int} (h : ps[p]? = some none) : holes (ps.set p (some b)) + 1 = holes ps := by
  induction ps generalizing p with
  | nil => simp at h
  | cons x r ih =>
    cases p with
    | zero =>
      simp only [List.getElem?_cons_zero, Option.some.injEq] at h
      subst h
      simp [holes]
    | succ p =>
      simp only [List.getElem?_cons_succ] at h
      have := ih h
      simp only [holes, List.set_cons_succ, List.countP_cons] at this ⊢
      omega
theorem holes_zero {ps : List Part} (h : holes ps = 0) {j : Nat} (hj : j < ps.length) : ∃ b, ps[j] = some b := by
  unfold holes at h
  rw [List.countP_eq_zero] at h
  have := h ps[j] (List.getElem_mem hj)
  cases hp : ps[j] with
  | none => rw [hp] at this; simp at this
  | some b => exact ⟨b, rfl⟩
def partsOut (ps : List Part) : List Int := ps.flatMap (fun p => p.getD [])
theorem partsOut_take {ps : List Part} {j : Nat} {b : List Int} (hj : j < ps.length) (h : ps[j] = some b) : partsOut (ps.take (j + 1)) = partsOut (ps.take j) ++ b := by
  rw [List.take_succ_eq_append_getElem hj, h]
  simp [partsOut]
theorem partsOut_len {ps : List Part} {k : Nat} (h : ∀ b, some b ∈ ps → b.length ≤ k) : (partsOut ps).length ≤ ps.length * k := by
  induction ps with
  | nil => simp [partsOut]
  | cons x r ih =>
    have := ih fun b hb => h b (List.mem_cons_of_mem _ hb)
    simp only [partsOut, List.flatMap_cons, List.length_append, List.length_cons] at this ⊢
    have h1 : (x.getD []).length ≤ k := by
      cases x with
      | none => simp
      | some b => exact h b (List.mem_cons_self ..)
    rw [Nat.add_mul]
    omega
theorem rows_set {m : Mem} {ps : List Part} {cs : List Value} {p : Nat} {x : Part} {v : Value} (R : RowsOf (partR m) ps cs) (hp : p < ps.length) (h : partR m x [v]) : RowsOf (partR m) (ps.set p x) (cs.set p v) := by
  have := RowsOf.set (sz := 1) partR.len R hp h
  have hl := R.length (sz := 1) partR.len
  rw [Nat.mul_one] at this
  have e : setCells cs p [v] = cs.set p v := by
    simp only [setCells, List.set_eq_take_append_cons_drop, if_pos (show p < cs.length by omega)]
    simp
  rw [e] at this
  exact this
theorem rows_at {m : Mem} {ps : List Part} {cs : List Value} {p : Nat} (R : RowsOf (partR m) ps cs) (hp : p < ps.length) : ∃ v, cs[p]? = some v ∧ partR m ps[p] [v] := by
  have h := RowsOf.at (sz := 1) partR.len R hp
  have hl := R.length (sz := 1) partR.len
  rw [Nat.mul_one] at h
  refine ⟨cs[p]'(by omega), List.getElem?_eq_getElem _, ?_⟩
  rw [List.drop_eq_getElem_cons (by omega), List.take_succ_cons, List.take_zero] at h
  exact h
theorem ix57 {q n p : Nat} (hp : p < n) : opIndexAddr Try.prog 57 (.slice (some ⟨q, 0, none⟩) n 1) (.int .i64 p) = some (.pointer (some ⟨q, p, none⟩)) := index_own (P := Try.prog) Try.underlying57 ts22 hp
theorem bld60 (f l : Int) : opBuild Try.prog 60 [(0, .int .i64 f), (1, .int .u32 l)] = some (.agg #[.int .i64 f, .int .u32 l]) := by kernel_rfl

theorem tput_nil {m : Mem} {P : Pa} {v : Value} {K : Value → Mem → Prop} (hK : ∀ m', Ext m m' → K (.tuple #[.slice none 0 0, .bool false]) m') : Ret Try.prog 11 [.pointer none, paV P v] m K := by
  refine ret_wp [(9, [3, 5])] Try.func11 rfl (by decide) (by kernel_rfl) ?_
  simp only [wpu_nil, wpu_cons, veq_string, veq_int, veq_bool, veq_slice, veq_pointer, List.range'_succ, List.range'_zero, false_implies, true_implies, List.contains_cons, List.contains_nil, Nat.reduceBEq, Bool.or_false, Bool.false_or, implies_true, List.lookup_cons, and_true, evOp, evParts, okVal, ev1, evs, evOpt, envOf, List.lookup_nil, List.size_toArray, List.length_cons, List.length_nil, List.range, List.range.loop, Nat.zero_add, Nat.reduceAdd, Bool.not_false, Bool.not_true, Bool.true_or, if_true, if_false, reduceIte, Nat.reduceEqDiff, reduceCtorEq, List.getElem?_toArray, List.getElem?_cons_zero, List.getElem?_cons_succ, guardOf, constOk, constCell, evBuiltin, opLen, List.head?_cons, foldV, min2V, max2V, Int.reduceLT, Int.reduceEq, Kend, resOf, Bool.false_eq_true, Bool.true_eq_false, IntKind.signed, IntKind.max, opConvert, opIndexAddr, opLoad, aggOf, Option.some.injEq, Value.bool.injEq, exists_eq_left', true_and, forall_const, decide_eq_true_eq, decide_eq_false_iff_not, Int.natCast_nonneg, and_self, Int.toNat_natCast, Nat.mul_one, List.append_nil, beq_self_eq_true, Nat.lt_irrefl, Nat.zero_lt_succ, Nat.reduceLT, Option.bind_some, bin_teq, bin_meq, bin_sne, veq_ints, veq_map, new_get_if, new_next, set_get_if, set_next, decide_true, decide_false, beq_tt, beq_tf, beq_ft, beq_ff, undef, Nat.left_eq_add, Nat.add_eq_left, List.drop_zero, List.drop_succ_cons, List.take_succ_cons, List.take_zero, List.drop_nil, opBox, Value.cells, opStore, setCells, List.length_append, Nat.reduceLeDiff, Nat.add_zero, Nat.add_assoc, Nat.add_right_cancel_iff, List.cons_append, List.nil_append, Array.toList, Option.isNone_none, Option.isNone_some, bin_weq, bin_wneq, bin_req, bin_rneq, ne_eq, not_true_eq_false, not_false_eq_true, wk0, fxC18y]
  exact hK _ (Ext.new _ _)
theorem tput_bad {m : Mem} {i : Nat} {P : Pa} {v : Value} (hv : opLen Try.prog (some 22) v = some (.int .i64 P.b.length)) (hc : pcheck P ≠ 0) {K : Value → Mem → Prop} (hK : ∀ m', Ext m m' → K (.tuple #[.slice none 0 0, .bool false]) m') : Ret Try.prog 11 [.pointer (some ⟨i, 0, none⟩), paV P v] m K := by
  refine ret_wp [(9, [3, 5])] Try.func11 rfl (by decide) (by kernel_rfl) ?_
  simp only [wpu_nil, wpu_cons, veq_string, veq_int, veq_bool, veq_slice, veq_pointer, List.range'_succ, List.range'_zero, false_implies, true_implies, List.contains_cons, List.contains_nil, Nat.reduceBEq, Bool.or_false, Bool.false_or, implies_true, List.lookup_cons, and_true, evOp, evParts, okVal, ev1, evs, evOpt, envOf, List.lookup_nil, List.size_toArray, List.length_cons, List.length_nil, List.range, List.range.loop, Nat.zero_add, Nat.reduceAdd, Bool.not_false, Bool.not_true, Bool.true_or, if_true, if_false, reduceIte, Nat.reduceEqDiff, reduceCtorEq, List.getElem?_toArray, List.getElem?_cons_zero, List.getElem?_cons_succ, guardOf, constOk, constCell, evBuiltin, opLen, List.head?_cons, foldV, min2V, max2V, Int.reduceLT, Int.reduceEq, Kend, resOf, Bool.false_eq_true, Bool.true_eq_false, IntKind.signed, IntKind.max, opConvert, opIndexAddr, opLoad, aggOf, Option.some.injEq, Value.bool.injEq, exists_eq_left', true_and, forall_const, decide_eq_true_eq, decide_eq_false_iff_not, Int.natCast_nonneg, and_self, Int.toNat_natCast, Nat.mul_one, List.append_nil, beq_self_eq_true, Nat.lt_irrefl, Nat.zero_lt_succ, Nat.reduceLT, Option.bind_some, bin_teq, bin_meq, bin_sne, veq_ints, veq_map, new_get_if, new_next, set_get_if, set_next, decide_true, decide_false, beq_tt, beq_tf, beq_ft, beq_ff, undef, Nat.left_eq_add, Nat.add_eq_left, List.drop_zero, List.drop_succ_cons, List.take_succ_cons, List.take_zero, List.drop_nil, opBox, Value.cells, opStore, setCells, List.length_append, Nat.reduceLeDiff, Nat.add_zero, Nat.add_assoc, Nat.add_right_cancel_iff, List.cons_append, List.nil_append, Array.toList, Option.isNone_none, Option.isNone_some, bin_weq, bin_wneq, bin_req, bin_rneq, ne_eq, not_true_eq_false, not_false_eq_true, wk0, fxC18y]
  refine pcheck_ret hv fun m1 x1 => ?_
  simp only [wpu_nil, wpu_cons, veq_string, veq_int, veq_bool, veq_slice, veq_pointer, List.range'_succ, List.range'_zero, false_implies, true_implies, List.contains_cons, List.contains_nil, Nat.reduceBEq, Bool.or_false, Bool.false_or, implies_true, List.lookup_cons, and_true, evOp, evParts, okVal, ev1, evs, evOpt, envOf, List.lookup_nil, List.size_toArray, List.length_cons, List.length_nil, List.range, List.range.loop, Nat.zero_add, Nat.reduceAdd, Bool.not_false, Bool.not_true, Bool.true_or, if_true, if_false, reduceIte, Nat.reduceEqDiff, reduceCtorEq, List.getElem?_toArray, List.getElem?_cons_zero, List.getElem?_cons_succ, guardOf, constOk, constCell, evBuiltin, opLen, List.head?_cons, foldV, min2V, max2V, Int.reduceLT, Int.reduceEq, Kend, resOf, Bool.false_eq_true, Bool.true_eq_false, IntKind.signed, IntKind.max, opConvert, opIndexAddr, opLoad, aggOf, Option.some.injEq, Value.bool.injEq, exists_eq_left', true_and, forall_const, decide_eq_true_eq, decide_eq_false_iff_not, Int.natCast_nonneg, and_self, Int.toNat_natCast, Nat.mul_one, List.append_nil, beq_self_eq_true, Nat.lt_irrefl, Nat.zero_lt_succ, Nat.reduceLT, Option.bind_some, bin_teq, bin_meq, bin_sne, veq_ints, veq_map, new_get_if, new_next, set_get_if, set_next, decide_true, decide_false, beq_tt, beq_tf, beq_ft, beq_ff, undef, Nat.left_eq_add, Nat.add_eq_left, List.drop_zero, List.drop_succ_cons, List.take_succ_cons, List.take_zero, List.drop_nil, opBox, Value.cells, opStore, setCells, List.length_append, Nat.reduceLeDiff, Nat.add_zero, Nat.add_assoc, Nat.add_right_cancel_iff, List.cons_append, List.nil_append, Array.toList, Option.isNone_none, Option.isNone_some, bin_weq, bin_wneq, bin_req, bin_rneq, ne_eq, not_true_eq_false, not_false_eq_true, wk0, fxC18y, hc]
  exact hK _ ((Ext.new _ _).trans x1)
abbrev pk (P : Pa) : Key := (P.f, P.l)
theorem tput_done {m : Mem} {k i : Nat} {T : Tb} {P : Pa} {v : Value} (H : TabAt m k i T) (hv : opLen Try.prog (some 22) v = some (.int .i64 P.b.length)) (hc : pcheck P = 0) (hd : hasD T.done (pk P) = true) {K : Value → Mem → Prop} (hK : ∀ m', Ext m m' → K (.tuple #[.slice none 0 0, .bool false]) m') : Ret Try.prog 11 [.pointer (some ⟨i, 0, none⟩), paV P v] m K := by
  refine ret_wp [(9, [3, 5])] Try.func11 rfl (by decide) (by kernel_rfl) ?_
  simp only [wpu_nil, wpu_cons, veq_string, veq_int, veq_bool, veq_slice, veq_pointer, List.range'_succ, List.range'_zero, false_implies, true_implies, List.contains_cons, List.contains_nil, Nat.reduceBEq, Bool.or_false, Bool.false_or, implies_true, List.lookup_cons, and_true, evOp, evParts, okVal, ev1, evs, evOpt, envOf, List.lookup_nil, List.size_toArray, List.length_cons, List.length_nil, List.range, List.range.loop, Nat.zero_add, Nat.reduceAdd, Bool.not_false, Bool.not_true, Bool.true_or, if_true, if_false, reduceIte, Nat.reduceEqDiff, reduceCtorEq, List.getElem?_toArray, List.getElem?_cons_zero, List.getElem?_cons_succ, guardOf, constOk, constCell, evBuiltin, opLen, List.head?_cons, foldV, min2V, max2V, Int.reduceLT, Int.reduceEq, Kend, resOf, Bool.false_eq_true, Bool.true_eq_false, IntKind.signed, IntKind.max, opConvert, opIndexAddr, opLoad, aggOf, Option.some.injEq, Value.bool.injEq, exists_eq_left', true_and, forall_const, decide_eq_true_eq, decide_eq_false_iff_not, Int.natCast_nonneg, and_self, Int.toNat_natCast, Nat.mul_one, List.append_nil, beq_self_eq_true, Nat.lt_irrefl, Nat.zero_lt_succ, Nat.reduceLT, Option.bind_some, bin_teq, bin_meq, bin_sne, veq_ints, veq_map, new_get_if, new_next, set_get_if, set_next, decide_true, decide_false, beq_tt, beq_tf, beq_ft, beq_ff, undef, Nat.left_eq_add, Nat.add_eq_left, List.drop_zero, List.drop_succ_cons, List.take_succ_cons, List.take_zero, List.drop_nil, opBox, Value.cells, opStore, setCells, List.length_append, Nat.reduceLeDiff, Nat.add_zero, Nat.add_assoc, Nat.add_right_cancel_iff, List.cons_append, List.nil_append, Array.toList, Option.isNone_none, Option.isNone_some, bin_weq, bin_wneq, bin_req, bin_rneq, ne_eq, not_true_eq_false, not_false_eq_true, wk0, fxC18y]
  obtain ⟨Z, hZ⟩ : ∃ Z, Z = Blk.cells [.int .i64 P.f, .int .u32 P.l, .int .i64 P.p, .int .i64 P.n, v] 32 true := ⟨_, rfl⟩
  rw [← hZ]
  have x0 := Ext.new m Z
  have g0 := new_get m Z
  have nx : m.next < (m.new Z).next := Nat.lt_succ_self _
  generalize m.new Z = m0 at x0 g0 nx ⊢
  refine pcheck_ret hv fun m1 x1 => ?_
  rw [hc]
  have x01 := x0.trans x1
  have g1 := (x1.2 m.next nx).trans g0
  have l1 := x1.1
  have nn : ¬ m.next = m1.next := by omega
  subst hZ
  simp only [wpu_nil, wpu_cons, veq_string, veq_int, veq_bool, veq_slice, veq_pointer, List.range'_succ, List.range'_zero, false_implies, true_implies, List.contains_cons, List.contains_nil, Nat.reduceBEq, Bool.or_false, Bool.false_or, implies_true, List.lookup_cons, and_true, evOp, evParts, okVal, ev1, evs, evOpt, envOf, List.lookup_nil, List.size_toArray, List.length_cons, List.length_nil, List.range, List.range.loop, Nat.zero_add, Nat.reduceAdd, Bool.not_false, Bool.not_true, Bool.true_or, if_true, if_false, reduceIte, Nat.reduceEqDiff, reduceCtorEq, List.getElem?_toArray, List.getElem?_cons_zero, List.getElem?_cons_succ, guardOf, constOk, constCell, evBuiltin, opLen, List.head?_cons, foldV, min2V, max2V, Int.reduceLT, Int.reduceEq, Kend, resOf, Bool.false_eq_true, Bool.true_eq_false, IntKind.signed, IntKind.max, opConvert, opIndexAddr, opLoad, aggOf, Option.some.injEq, Value.bool.injEq, exists_eq_left', true_and, forall_const, decide_eq_true_eq, decide_eq_false_iff_not, Int.natCast_nonneg, and_self, Int.toNat_natCast, Nat.mul_one, List.append_nil, beq_self_eq_true, Nat.lt_irrefl, Nat.zero_lt_succ, Nat.reduceLT, Option.bind_some, bin_teq, bin_meq, bin_sne, veq_ints, veq_map, new_next, set_next, decide_true, decide_false, beq_tt, beq_tf, beq_ft, beq_ff, undef, Nat.left_eq_add, Nat.add_eq_left, List.drop_zero, List.drop_succ_cons, List.take_succ_cons, List.take_zero, List.drop_nil, opBox, Value.cells, opStore, setCells, List.length_append, Nat.reduceLeDiff, Nat.add_zero, Nat.add_assoc, Nat.add_right_cancel_iff, List.cons_append, List.nil_append, Array.toList, Option.isNone_none, Option.isNone_some, bin_weq, bin_wneq, bin_req, bin_rneq, ne_eq, not_true_eq_false, not_false_eq_true, wk0, fxC18y, new_get, g1, nn, bld60]
  obtain ⟨m2, hm2⟩ : ∃ m2, m2 = (m1.new (.cells [.int .i64 0, .int .u32 0] 60 true)).set m1.next (.cells [.int .i64 P.f, .int .u32 P.l] 60 true) := ⟨_, rfl⟩
  have x2 : Ext m1 m2 := by rw [hm2]; exact (Ext.new _ _).set (Nat.le_refl _)
  have gk : m2.get m1.next = some (.cells [.int .i64 P.f, .int .u32 P.l] 60 true) := by rw [hm2]; exact set_get _ _ _
  have N2 : m2.next = m1.next + 1 := by rw [hm2]; rfl
  have g2 := (x2.2 m.next (by omega)).trans g1
  have x02 := x01.trans x2
  rw [← hm2]
  clear hm2
  obtain ⟨⟨lv, dv, h, h1, h2, h3⟩, h4⟩ := H.ext x02
  have eL := look_done h3 (pk P)
  rw [hd] at eL
  simp only [wpu_nil, wpu_cons, veq_string, veq_int, veq_bool, veq_slice, veq_pointer, List.range'_succ, List.range'_zero, false_implies, true_implies, List.contains_cons, List.contains_nil, Nat.reduceBEq, Bool.or_false, Bool.false_or, implies_true, List.lookup_cons, and_true, evOp, evParts, okVal, ev1, evs, evOpt, envOf, List.lookup_nil, List.size_toArray, List.length_cons, List.length_nil, List.range, List.range.loop, Nat.zero_add, Nat.reduceAdd, Bool.not_false, Bool.not_true, Bool.true_or, if_true, if_false, reduceIte, Nat.reduceEqDiff, reduceCtorEq, List.getElem?_toArray, List.getElem?_cons_zero, List.getElem?_cons_succ, guardOf, constOk, constCell, evBuiltin, opLen, List.head?_cons, foldV, min2V, max2V, Int.reduceLT, Int.reduceEq, Kend, resOf, Bool.false_eq_true, Bool.true_eq_false, IntKind.signed, IntKind.max, opConvert, opIndexAddr, opLoad, aggOf, Option.some.injEq, Value.bool.injEq, exists_eq_left', true_and, forall_const, decide_eq_true_eq, decide_eq_false_iff_not, Int.natCast_nonneg, and_self, Int.toNat_natCast, Nat.mul_one, List.append_nil, beq_self_eq_true, Nat.lt_irrefl, Nat.zero_lt_succ, Nat.reduceLT, Option.bind_some, bin_teq, bin_meq, bin_sne, veq_ints, veq_map, new_get_if, new_next, set_get_if, set_next, decide_true, decide_false, beq_tt, beq_tf, beq_ft, beq_ff, undef, Nat.left_eq_add, Nat.add_eq_left, List.drop_zero, List.drop_succ_cons, List.take_succ_cons, List.take_zero, List.drop_nil, opBox, Value.cells, opStore, setCells, List.length_append, Nat.reduceLeDiff, Nat.add_zero, Nat.add_assoc, Nat.add_right_cancel_iff, List.cons_append, List.nil_append, Array.toList, Option.isNone_none, Option.isNone_some, bin_weq, bin_wneq, bin_req, bin_rneq, ne_eq, not_true_eq_false, not_false_eq_true, wk0, fxC18y, gk, h1, eL]
  exact hK _ x02
theorem tput_full {m : Mem} {k i : Nat} {T : Tb} {P : Pa} {v : Value} {ps : List Part} {n p : Nat} {b : List Int} (H : TabAt m k i T) (hv : opLen Try.prog (some 22) v = some (.int .i64 P.b.length)) (hc : pcheck P = 0) (hd : hasD T.done (pk P) = false)
    (hT : T.half = some (pk P, ps)) (hn : P.n = (n : Int)) (hpl : ps.length = n) (hp : P.p = (p : Int)) (hpb : ps[p]? = some (some b)) {K : Value → Mem → Prop} (hK : ∀ m', Ext m m' → K (.tuple #[.slice none 0 0, .bool false]) m') : Ret Try.prog 11 [.pointer (some ⟨i, 0, none⟩), paV P v] m K := by
  refine ret_wp [(9, [3, 5])] Try.func11 rfl (by decide) (by kernel_rfl) ?_
  simp only [wpu_nil, wpu_cons, veq_string, veq_int, veq_bool, veq_slice, veq_pointer, List.range'_succ, List.range'_zero, false_implies, true_implies, List.contains_cons, List.contains_nil, Nat.reduceBEq, Bool.or_false, Bool.false_or, implies_true, List.lookup_cons, and_true, evOp, evParts, okVal, ev1, evs, evOpt, envOf, List.lookup_nil, List.size_toArray, List.length_cons, List.length_nil, List.range, List.range.loop, Nat.zero_add, Nat.reduceAdd, Bool.not_false, Bool.not_true, Bool.true_or, if_true, if_false, reduceIte, Nat.reduceEqDiff, reduceCtorEq, List.getElem?_toArray, List.getElem?_cons_zero, List.getElem?_cons_succ, guardOf, constOk, constCell, evBuiltin, opLen, List.head?_cons, foldV, min2V, max2V, Int.reduceLT, Int.reduceEq, Kend, resOf, Bool.false_eq_true, Bool.true_eq_false, IntKind.signed, IntKind.max, opConvert, opIndexAddr, opLoad, aggOf, Option.some.injEq, Value.bool.injEq, exists_eq_left', true_and, forall_const, decide_eq_true_eq, decide_eq_false_iff_not, Int.natCast_nonneg, and_self, Int.toNat_natCast, Nat.mul_one, List.append_nil, beq_self_eq_true, Nat.lt_irrefl, Nat.zero_lt_succ, Nat.reduceLT, Option.bind_some, bin_teq, bin_meq, bin_sne, veq_ints, veq_map, new_get_if, new_next, set_get_if, set_next, decide_true, decide_false, beq_tt, beq_tf, beq_ft, beq_ff, undef, Nat.left_eq_add, Nat.add_eq_left, List.drop_zero, List.drop_succ_cons, List.take_succ_cons, List.take_zero, List.drop_nil, opBox, Value.cells, opStore, setCells, List.length_append, Nat.reduceLeDiff, Nat.add_zero, Nat.add_assoc, Nat.add_right_cancel_iff, List.cons_append, List.nil_append, Array.toList, Option.isNone_none, Option.isNone_some, bin_weq, bin_wneq, bin_req, bin_rneq, ne_eq, not_true_eq_false, not_false_eq_true, wk0, fxC18y]
  obtain ⟨Z, hZ⟩ : ∃ Z, Z = Blk.cells [.int .i64 P.f, .int .u32 P.l, .int .i64 P.p, .int .i64 P.n, v] 32 true := ⟨_, rfl⟩
  rw [← hZ]
  have x0 := Ext.new m Z
  have g0 := new_get m Z
  have nx : m.next < (m.new Z).next := Nat.lt_succ_self _
  generalize m.new Z = m0 at x0 g0 nx ⊢
  refine pcheck_ret hv fun m1 x1 => ?_
  rw [hc]
  have x01 := x0.trans x1
  have g1 := (x1.2 m.next nx).trans g0
  have l1 := x1.1
  have nn : ¬ m.next = m1.next := by omega
  subst hZ
  simp only [wpu_nil, wpu_cons, veq_string, veq_int, veq_bool, veq_slice, veq_pointer, List.range'_succ, List.range'_zero, false_implies, true_implies, List.contains_cons, List.contains_nil, Nat.reduceBEq, Bool.or_false, Bool.false_or, implies_true, List.lookup_cons, and_true, evOp, evParts, okVal, ev1, evs, evOpt, envOf, List.lookup_nil, List.size_toArray, List.length_cons, List.length_nil, List.range, List.range.loop, Nat.zero_add, Nat.reduceAdd, Bool.not_false, Bool.not_true, Bool.true_or, if_true, if_false, reduceIte, Nat.reduceEqDiff, reduceCtorEq, List.getElem?_toArray, List.getElem?_cons_zero, List.getElem?_cons_succ, guardOf, constOk, constCell, evBuiltin, opLen, List.head?_cons, foldV, min2V, max2V, Int.reduceLT, Int.reduceEq, Kend, resOf, Bool.false_eq_true, Bool.true_eq_false, IntKind.signed, IntKind.max, opConvert, opIndexAddr, opLoad, aggOf, Option.some.injEq, Value.bool.injEq, exists_eq_left', true_and, forall_const, decide_eq_true_eq, decide_eq_false_iff_not, Int.natCast_nonneg, and_self, Int.toNat_natCast, Nat.mul_one, List.append_nil, beq_self_eq_true, Nat.lt_irrefl, Nat.zero_lt_succ, Nat.reduceLT, Option.bind_some, bin_teq, bin_meq, bin_sne, veq_ints, veq_map, new_next, set_next, decide_true, decide_false, beq_tt, beq_tf, beq_ft, beq_ff, undef, Nat.left_eq_add, Nat.add_eq_left, List.drop_zero, List.drop_succ_cons, List.take_succ_cons, List.take_zero, List.drop_nil, opBox, Value.cells, opStore, setCells, List.length_append, Nat.reduceLeDiff, Nat.add_zero, Nat.add_assoc, Nat.add_right_cancel_iff, List.cons_append, List.nil_append, Array.toList, Option.isNone_none, Option.isNone_some, bin_weq, bin_wneq, bin_req, bin_rneq, ne_eq, not_true_eq_false, not_false_eq_true, wk0, fxC18y, new_get, g1, nn, bld60]
  obtain ⟨m2, hm2⟩ : ∃ m2, m2 = (m1.new (.cells [.int .i64 0, .int .u32 0] 60 true)).set m1.next (.cells [.int .i64 P.f, .int .u32 P.l] 60 true) := ⟨_, rfl⟩
  have x2 : Ext m1 m2 := by rw [hm2]; exact (Ext.new _ _).set (Nat.le_refl _)
  have gk : m2.get m1.next = some (.cells [.int .i64 P.f, .int .u32 P.l] 60 true) := by rw [hm2]; exact set_get _ _ _
  have N2 : m2.next = m1.next + 1 := by rw [hm2]; rfl
  have g2 := (x2.2 m.next (by omega)).trans g1
  have x02 := x01.trans x2
  rw [← hm2]
  clear hm2
  obtain ⟨⟨lv, dv, h, h1, h2, h3⟩, h4⟩ := H.ext x02
  have eL := look_done h3 (pk P)
  rw [hd] at eL
  rw [hT] at h2
  obtain ⟨r, q, cs, HH⟩ := h2
  simp only [wpu_nil, wpu_cons, veq_string, veq_int, veq_bool, veq_slice, veq_pointer, List.range'_succ, List.range'_zero, false_implies, true_implies, List.contains_cons, List.contains_nil, Nat.reduceBEq, Bool.or_false, Bool.false_or, implies_true, List.lookup_cons, and_true, evOp, evParts, okVal, ev1, evs, evOpt, envOf, List.lookup_nil, List.size_toArray, List.length_cons, List.length_nil, List.range, List.range.loop, Nat.zero_add, Nat.reduceAdd, Bool.not_false, Bool.not_true, Bool.true_or, if_true, if_false, reduceIte, Nat.reduceEqDiff, reduceCtorEq, List.getElem?_toArray, List.getElem?_cons_zero, List.getElem?_cons_succ, guardOf, constOk, constCell, evBuiltin, opLen, List.head?_cons, foldV, min2V, max2V, Int.reduceLT, Int.reduceEq, Kend, resOf, Bool.false_eq_true, Bool.true_eq_false, IntKind.signed, IntKind.max, opConvert, opIndexAddr, opLoad, aggOf, Option.some.injEq, Value.bool.injEq, exists_eq_left', true_and, forall_const, decide_eq_true_eq, decide_eq_false_iff_not, Int.natCast_nonneg, and_self, Int.toNat_natCast, Nat.mul_one, List.append_nil, beq_self_eq_true, Nat.lt_irrefl, Nat.zero_lt_succ, Nat.reduceLT, Option.bind_some, bin_teq, bin_meq, bin_sne, veq_ints, veq_map, new_get_if, new_next, set_get_if, set_next, decide_true, decide_false, beq_tt, beq_tf, beq_ft, beq_ff, undef, Nat.left_eq_add, Nat.add_eq_left, List.drop_zero, List.drop_succ_cons, List.take_succ_cons, List.take_zero, List.drop_nil, opBox, Value.cells, opStore, setCells, List.length_append, Nat.reduceLeDiff, Nat.add_zero, Nat.add_assoc, Nat.add_right_cancel_iff, List.cons_append, List.nil_append, Array.toList, Option.isNone_none, Option.isNone_some, bin_weq, bin_wneq, bin_req, bin_rneq, ne_eq, not_true_eq_false, not_false_eq_true, wk0, fxC18y, gk, h1, eL, g2]
  refine find_old h1 h4.2 HH fun m3 x3 => ?_
  have gh3 := (x3.2 h HH.lh.2).trans HH.gh
  have gq3 := (x3.2 q HH.lq.2).trans HH.gq
  have gp3 := (x3.2 m.next (by omega)).trans g2
  have hpn : p < ps.length := by
    rcases Nat.lt_or_ge p ps.length with h | h
    · exact h
    · rw [List.getElem?_eq_none h] at hpb; cases hpb
  obtain ⟨c, c1, c2⟩ := rows_at HH.parts hpn
  rw [List.getElem?_eq_getElem hpn, Option.some.injEq] at hpb
  rw [hpb] at c2
  obtain ⟨a, z, c3, _⟩ := c2
  obtain rfl : c = .slice (some a) b.length z := by simpa using c3
  have ix := ix57 (q := q) hpn
  rw [← hp] at ix
  have e1 : ((ps.length : Int) = P.n) = True := by rw [hn, hpl]; simp
  simp only [wpu_nil, wpu_cons, veq_string, veq_int, veq_bool, veq_slice, veq_pointer, List.range'_succ, List.range'_zero, false_implies, true_implies, List.contains_cons, List.contains_nil, Nat.reduceBEq, Bool.or_false, Bool.false_or, implies_true, List.lookup_cons, and_true, evOp, evParts, okVal, ev1, evs, evOpt, envOf, List.lookup_nil, List.size_toArray, List.length_cons, List.length_nil, List.range, List.range.loop, Nat.zero_add, Nat.reduceAdd, Bool.not_false, Bool.not_true, Bool.true_or, if_true, if_false, reduceIte, Nat.reduceEqDiff, reduceCtorEq, List.getElem?_toArray, List.getElem?_cons_zero, List.getElem?_cons_succ, guardOf, constOk, constCell, evBuiltin, opLen, List.head?_cons, foldV, min2V, max2V, Int.reduceLT, Int.reduceEq, Kend, resOf, Bool.false_eq_true, Bool.true_eq_false, IntKind.signed, IntKind.max, opConvert, opLoad, aggOf, Option.some.injEq, Value.bool.injEq, exists_eq_left', true_and, forall_const, decide_eq_true_eq, decide_eq_false_iff_not, Int.natCast_nonneg, and_self, Int.toNat_natCast, Nat.mul_one, List.append_nil, beq_self_eq_true, Nat.lt_irrefl, Nat.zero_lt_succ, Nat.reduceLT, Option.bind_some, bin_teq, bin_meq, bin_sne, veq_ints, veq_map, new_get_if, new_next, set_get_if, set_next, decide_true, decide_false, beq_tt, beq_tf, beq_ft, beq_ff, undef, Nat.left_eq_add, Nat.add_eq_left, List.drop_zero, List.drop_succ_cons, List.take_succ_cons, List.take_zero, List.drop_nil, opBox, Value.cells, opStore, setCells, List.length_append, Nat.reduceLeDiff, Nat.add_zero, Nat.add_assoc, Nat.add_right_cancel_iff, List.cons_append, List.nil_append, Array.toList, Option.isNone_none, Option.isNone_some, bin_weq, bin_wneq, bin_req, bin_rneq, ne_eq, not_true_eq_false, not_false_eq_true, wk0, fxC18y, gh3, gp3, ix, gq3, c1, e1]
  exact hK _ (x02.trans x3)
end Go.Proofs.Ytiacdjobmfhgoaa
