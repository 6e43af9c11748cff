/- A text of the abstract machine. -/

/- Parcels: taken out of any bytes. -/
import Derived.Test.YtiacdjobmfhgoaaAmC18p
import Derived.Test.YtiacdjobmfhgoaaAmBun
set_option linter.unusedSimpArgs false
set_option linter.unusedVariables false
set_option maxRecDepth 100000
set_option maxHeartbeats 4000000
namespace Go.Proofs.Ytiacdjobmfhgoaa
open Go Go.AM Go.AM.Crc Go.AM.Wire
theorem fxC18t : type_of% (And.intro (And.intro (And.intro (And.intro (And.intro (And.intro @Try.underlying3 (And.intro @Try.underlying4 @Try.underlying5)) (And.intro (And.intro @Try.underlying9 @Try.underlying23) (And.intro @Try.underlying24 @Try.underlying0))) (And.intro (And.intro @Try.underlying54 (And.intro @Try.underlying22 @Try.underlying66)) (And.intro (And.intro @Try.underlying68 @Try.underlying75) (And.intro @Try.underlying85 @Try.underlying27)))) (And.intro (And.intro (And.intro @Try.underlying32 (And.intro @Try.underlying47 @Try.underlying50)) (And.intro (And.intro @Try.underlying45 @ts3) (And.intro @ts4 @ts5))) (And.intro (And.intro @ts9 (And.intro @ts23 @ts24)) (And.intro (And.intro @ts0 @ts54) (And.intro @ts22 @ts66))))) (And.intro (And.intro (And.intro (And.intro @ts68 (And.intro @ts75 @ts85)) (And.intro (And.intro @ts27 @ts32) (And.intro @ts47 @ts50))) (And.intro (And.intro @ts45 (And.intro @tz3 @tz4)) (And.intro (And.intro @tz5 @tz9) (And.intro @tz23 @tz24)))) (And.intro (And.intro (And.intro @tz0 (And.intro @tz54 @tz22)) (And.intro (And.intro @tz66 @tz68) (And.intro @tz75 @tz85))) (And.intro (And.intro @tz27 (And.intro @tz32 @tz47)) (And.intro (And.intro @tz50 @tz45) (And.intro @tb3 @tb4)))))) (And.intro (And.intro (And.intro (And.intro (And.intro @tb5 (And.intro @tb9 @tb23)) (And.intro (And.intro @tb24 @tb0) (And.intro @tb54 @tb22))) (And.intro (And.intro @tb66 (And.intro @tb68 @tb75)) (And.intro (And.intro @tb85 @tb27) (And.intro @tb32 @tb47)))) (And.intro (And.intro (And.intro @tb50 (And.intro @tb45 @fr10)) (And.intro (And.intro @fr13 @fr14) (And.intro @fr15 @fr16))) (And.intro (And.intro @fr17 (And.intro @fr18 @fr21)) (And.intro (And.intro @fr22 @fr23) (And.intro @fr24 @fr25))))) (And.intro (And.intro (And.intro (And.intro @fr26 (And.intro @fr27 @fr28)) (And.intro (And.intro @fr29 @fr30) (And.intro @fr31 @fr32))) (And.intro (And.intro @fr33 (And.intro @fr34 @bz85)) (And.intro (And.intro @al68 @al85) (And.intro @fa68_0 @fa85_0)))) (And.intro (And.intro (And.intro @fa85_1 (And.intro @fa85_2 @bz32)) (And.intro (And.intro @al32 @fa32_0) (And.intro @fa32_1 @fa32_2))) (And.intro (And.intro (And.intro @fa32_3 @fa32_4) (And.intro @fa45_0 @fa45_1)) (And.intro (And.intro @fa45_2 @fa45_3) (And.intro @fa45_4 @bz68))))))) := (And.intro (And.intro (And.intro (And.intro (And.intro (And.intro @Try.underlying3 (And.intro @Try.underlying4 @Try.underlying5)) (And.intro (And.intro @Try.underlying9 @Try.underlying23) (And.intro @Try.underlying24 @Try.underlying0))) (And.intro (And.intro @Try.underlying54 (And.intro @Try.underlying22 @Try.underlying66)) (And.intro (And.intro @Try.underlying68 @Try.underlying75) (And.intro @Try.underlying85 @Try.underlying27)))) (And.intro (And.intro (And.intro @Try.underlying32 (And.intro @Try.underlying47 @Try.underlying50)) (And.intro (And.intro @Try.underlying45 @ts3) (And.intro @ts4 @ts5))) (And.intro (And.intro @ts9 (And.intro @ts23 @ts24)) (And.intro (And.intro @ts0 @ts54) (And.intro @ts22 @ts66))))) (And.intro (And.intro (And.intro (And.intro @ts68 (And.intro @ts75 @ts85)) (And.intro (And.intro @ts27 @ts32) (And.intro @ts47 @ts50))) (And.intro (And.intro @ts45 (And.intro @tz3 @tz4)) (And.intro (And.intro @tz5 @tz9) (And.intro @tz23 @tz24)))) (And.intro (And.intro (And.intro @tz0 (And.intro @tz54 @tz22)) (And.intro (And.intro @tz66 @tz68) (And.intro @tz75 @tz85))) (And.intro (And.intro @tz27 (And.intro @tz32 @tz47)) (And.intro (And.intro @tz50 @tz45) (And.intro @tb3 @tb4)))))) (And.intro (And.intro (And.intro (And.intro (And.intro @tb5 (And.intro @tb9 @tb23)) (And.intro (And.intro @tb24 @tb0) (And.intro @tb54 @tb22))) (And.intro (And.intro @tb66 (And.intro @tb68 @tb75)) (And.intro (And.intro @tb85 @tb27) (And.intro @tb32 @tb47)))) (And.intro (And.intro (And.intro @tb50 (And.intro @tb45 @fr10)) (And.intro (And.intro @fr13 @fr14) (And.intro @fr15 @fr16))) (And.intro (And.intro @fr17 (And.intro @fr18 @fr21)) (And.intro (And.intro @fr22 @fr23) (And.intro @fr24 @fr25))))) (And.intro (And.intro (And.intro (And.intro @fr26 (And.intro @fr27 @fr28)) (And.intro (And.intro @fr29 @fr30) (And.intro @fr31 @fr32))) (And.intro (And.intro @fr33 (And.intro @fr34 @bz85)) (And.intro (And.intro @al68 @al85) (And.intro @fa68_0 @fa85_0)))) (And.intro (And.intro (And.intro @fa85_1 (And.intro @fa85_2 @bz32)) (And.intro (And.intro @al32 @fa32_0) (And.intro @fa32_1 @fa32_2))) (And.intro (And.intro (And.intro @fa32_3 @fa32_4) (And.intro @fa45_0 @fa45_1)) (And.intro (And.intro @fa45_2 @fa45_3) (And.intro @fa45_4 @bz68)))))))
theorem bldt (f l p n : Int) : opBuild Try.prog 32 [(0, .int .i64 f), (1, .int .u32 l), (2, .int .i64 p), (3, .int .i64 n)] = some (.agg #[.int .i64 f, .int .u32 l, .int .i64 p, .int .i64 n, .slice none 0 0]) := by kernel_rfl
theorem conv_bytes {m : Mem} {s : List Int} (hs : Bytes s) (hl : s.length ≤ 140737488355328) : opConvert Try.prog 9 22 (.string (strOf s)) m = some (.slice (some ⟨m.next, 0, none⟩) s.length 1, m.new (.cells (byteCells s) 5 true)) := by
  simp only [opConvert, Try.underlying9, Try.underlying22, Try.underlying5, strOf_size, cellsOf_strOf hs]
  rw [if_pos ⟨hl, ts5⟩]
def rightB (b : List Int) : Bool := if b.length < 4 then false else decide (strOf (b.drop (b.length - 4)) = strOf (four (crcSum (b.take (b.length - 4)))))
def zeroP : Pa := ⟨0, 0, 0, 0, []⟩
/-- What a reader reads of a parcel. -/
def readP (all : List Int) : Pa × (Nat × Int) :=
  let a := wordS all (0, 0)
  let l := longS all a.2
  let p := wordS all l.2
  let n := wordS all p.2
  let t := textS all 48 n.2
  (⟨a.1, l.1, p.1, n.1, t.1⟩, t.2)
def takeP (b : List Int) : Pa × Int :=
  if rightB b = false then (zeroP, 11) else
  let all := b.take (b.length - 4)
  let r := readP all
  if endS all.length r.2 ≠ 0 then (zeroP, endS all.length r.2) else if pcheck r.1 ≠ 0 then (zeroP, pcheck r.1) else (r.1, 0)

theorem ptake_ret {m : Mem} {b : List Int} {v : Value} (hv : Shows m v (byteCells b)) (hu : Under m.next v) (hb : Bytes b) (hl : b.length < 2 ^ 39)
    {K : Value → Mem → Prop} (hK : ∀ m' w, Ext m m' → Fresh 5 m m' w (takeP b).1.b → K (.tuple #[paV (takeP b).1 w, .int .i64 (takeP b).2]) m') : Ret Try.prog 15 [v] m K := by
  refine ret_wp [] Try.func15 rfl (by decide) (by kernel_rfl) ?_
  have lv : opLen Try.prog (some 22) v = some (.int .i64 b.length) := IsBytes.len hv
  simp only [evOp, evParts, okVal, ev1, evs, evOpt, envOf, List.lookup_nil, List.size_toArray, List.length_cons, List.length_nil, List.range, List.range.loop, Nat.zero_add, Nat.reduceAdd, Bool.not_false, Bool.not_true, Bool.true_or, if_true, if_false, reduceIte, Nat.reduceEqDiff, reduceCtorEq, List.getElem?_toArray, List.getElem?_cons_zero, List.getElem?_cons_succ, guardOf, constOk, constCell, evBuiltin, opLen, List.head?_cons, foldV, min2V, max2V, Int.reduceLT, Int.reduceEq, Kend, resOf, Bool.false_eq_true, Bool.true_eq_false, IntKind.signed, IntKind.max, opConvert, opIndexAddr, opLoad, aggOf, Option.some.injEq, Value.bool.injEq, exists_eq_left', true_and, forall_const, decide_eq_true_eq, decide_eq_false_iff_not, Int.natCast_nonneg, and_self, Int.toNat_natCast, Nat.mul_one, List.append_nil, beq_self_eq_true, Nat.lt_irrefl, Nat.zero_lt_succ, Nat.reduceLT, Option.bind_some, new_get_if, new_next, set_get_if, set_next, decide_true, decide_false, beq_tt, beq_tf, beq_ft, beq_ff, undef, Nat.left_eq_add, Nat.add_eq_left, List.drop_zero, List.drop_succ_cons, List.take_succ_cons, List.take_zero, List.drop_nil, opBox, Value.cells, opStore, setCells, List.length_append, Nat.reduceLeDiff, Nat.add_zero, Nat.add_assoc, Nat.add_right_cancel_iff, List.cons_append, List.nil_append, Array.toList, Option.isNone_none, Option.isNone_some, bin_weq, bin_wneq, bin_req, bin_rneq, ne_eq, not_true_eq_false, not_false_eq_true, bldt, wk0, fxC18t]
  obtain ⟨Z, hZ⟩ : ∃ Z, Z = Blk.cells [.int .i64 0, .int .u32 0, .int .i64 0, .int .i64 0, .slice none 0 0] 32 true := ⟨_, rfl⟩
  rw [← hZ]
  have x0 := Ext.new m Z
  have gz := new_get m Z
  have nx : m.next < (m.new Z).next := Nat.lt_succ_self _
  generalize m.new Z = m0 at x0 gz nx ⊢
  refine sumright_ret (hv.ext hu x0) (hu.mono x0.1) (by omega) fun m1 x1 => ?_
  have er : (if b.length < 4 then false else decide (strOf (b.drop (b.length - 4)) = strOf (four (crcSum (b.take (b.length - 4)))))) = rightB b := rfl
  rw [er]
  have x01 := x0.trans x1
  have gz1 := (x1.2 m.next nx).trans gz
  have l1 := x1.1
  have l0 := x0.1
  subst hZ
  have zero : ∀ M : Mem, Ext m M → m.next < M.next → ∀ B : Blk, Ext m (M.set m.next B) := fun M y _ B => y.set (Nat.le_refl _)
  cases hr : rightB b with
  | false =>
    have et : takeP b = (zeroP, 11) := by rw [takeP, if_pos hr]
    rw [et] at hK
    simp only [evOp, evParts, okVal, ev1, evs, evOpt, envOf, List.lookup_nil, List.size_toArray, List.length_cons, List.length_nil, List.range, List.range.loop, Nat.zero_add, Nat.reduceAdd, Bool.not_false, Bool.not_true, Bool.true_or, if_true, if_false, reduceIte, Nat.reduceEqDiff, reduceCtorEq, List.getElem?_toArray, List.getElem?_cons_zero, List.getElem?_cons_succ, guardOf, constOk, constCell, evBuiltin, opLen, List.head?_cons, foldV, min2V, max2V, Int.reduceLT, Int.reduceEq, Kend, resOf, Bool.false_eq_true, Bool.true_eq_false, IntKind.signed, IntKind.max, opConvert, opIndexAddr, opLoad, aggOf, Option.some.injEq, Value.bool.injEq, exists_eq_left', true_and, forall_const, decide_eq_true_eq, decide_eq_false_iff_not, Int.natCast_nonneg, and_self, Int.toNat_natCast, Nat.mul_one, List.append_nil, beq_self_eq_true, Nat.lt_irrefl, Nat.zero_lt_succ, Nat.reduceLT, Option.bind_some, new_get_if, new_next, set_get_if, set_next, decide_true, decide_false, beq_tt, beq_tf, beq_ft, beq_ff, undef, Nat.left_eq_add, Nat.add_eq_left, List.drop_zero, List.drop_succ_cons, List.take_succ_cons, List.take_zero, List.drop_nil, opBox, Value.cells, opStore, setCells, List.length_append, Nat.reduceLeDiff, Nat.add_zero, Nat.add_assoc, Nat.add_right_cancel_iff, List.cons_append, List.nil_append, Array.toList, Option.isNone_none, Option.isNone_some, bin_weq, bin_wneq, bin_req, bin_rneq, ne_eq, not_true_eq_false, not_false_eq_true, bldt, wk0, fxC18t, gz1]
    exact hK _ _ (zero m1 x01 (by omega) _) (.inl ⟨rfl, rfl⟩)
  | true =>
    have h4 : 4 ≤ b.length := by
      unfold rightB at hr
      split at hr
      · cases hr
      · omega
    have wl : IntKind.i64.wrap ((b.length : Int) - 4) = ((b.length - 4 : Nat) : Int) := by rw [wrap_i64 (by omega) (by omega)]; omega
    obtain ⟨sl, c1, c2, c3⟩ := (hv.ext hu x01).cut (P := Try.prog) (t := 22) Try.underlying22 ts5 (lo := none) (hi := some (.int .i64 ((b.length - 4 : Nat) : Int))) (l := 0) (k := b.length - 4) rfl (by simp [boundOf]) (by omega) (by rw [byteCells_length]; omega)
    rw [Nat.sub_zero, List.drop_zero, byteCells_take] at c2
    obtain ⟨all, hall⟩ : ∃ l, l = b.take (b.length - 4) := ⟨_, rfl⟩
    rw [← hall] at c2
    have hab : Bytes all := hall ▸ fun x hx => hb x (List.mem_of_mem_take hx)
    have hal : all.length < 2 ^ 40 := by rw [hall, List.length_take]; omega
    have et : takeP b = if endS all.length (readP all).2 ≠ 0 then (zeroP, endS all.length (readP all).2) else if pcheck (readP all).1 ≠ 0 then (zeroP, pcheck (readP all).1) else ((readP all).1, 0) := by rw [takeP, if_neg (by rw [hr]; simp), hall]
    simp only [evOp, evParts, okVal, ev1, evs, evOpt, envOf, List.lookup_nil, List.size_toArray, List.length_cons, List.length_nil, List.range, List.range.loop, Nat.zero_add, Nat.reduceAdd, Bool.not_false, Bool.not_true, Bool.true_or, if_true, if_false, reduceIte, Nat.reduceEqDiff, reduceCtorEq, List.getElem?_toArray, List.getElem?_cons_zero, List.getElem?_cons_succ, guardOf, constOk, constCell, evBuiltin, List.head?_cons, foldV, min2V, max2V, Int.reduceLT, Int.reduceEq, Kend, resOf, Bool.false_eq_true, Bool.true_eq_false, IntKind.signed, IntKind.max, opConvert, opIndexAddr, opLoad, aggOf, Option.some.injEq, Value.bool.injEq, exists_eq_left', true_and, forall_const, decide_eq_true_eq, decide_eq_false_iff_not, Int.natCast_nonneg, and_self, Int.toNat_natCast, Nat.mul_one, List.append_nil, beq_self_eq_true, Nat.lt_irrefl, Nat.zero_lt_succ, Nat.reduceLT, Option.bind_some, new_get_if, new_next, set_get_if, set_next, decide_true, decide_false, beq_tt, beq_tf, beq_ft, beq_ff, undef, Nat.left_eq_add, Nat.add_eq_left, List.drop_zero, List.drop_succ_cons, List.take_succ_cons, List.take_zero, List.drop_nil, opBox, Value.cells, opStore, setCells, List.length_append, Nat.reduceLeDiff, Nat.add_zero, Nat.add_assoc, Nat.add_right_cancel_iff, List.cons_append, List.nil_append, Array.toList, Option.isNone_none, Option.isNone_some, bin_weq, bin_wneq, bin_req, bin_rneq, ne_eq, not_true_eq_false, not_false_eq_true, bldt, wk0, fxC18t, lv, wl, c1]
    refine read_ret c2 (c3 _ (hu.mono (by omega))) hal fun m2 i r x2 R2 n2 n2' => ?_
    have x02 := x01.trans x2
    have gz2 := (x2.2 m.next (by omega)).trans gz1
    have l2 := x2.1
    simp only [evOp, evParts, okVal, ev1, evs, evOpt, envOf, List.lookup_nil, List.size_toArray, List.length_cons, List.length_nil, List.range, List.range.loop, Nat.zero_add, Nat.reduceAdd, Bool.not_false, Bool.not_true, Bool.true_or, if_true, if_false, reduceIte, Nat.reduceEqDiff, reduceCtorEq, List.getElem?_toArray, List.getElem?_cons_zero, List.getElem?_cons_succ, guardOf, constOk, constCell, evBuiltin, opLen, List.head?_cons, foldV, min2V, max2V, Int.reduceLT, Int.reduceEq, Kend, resOf, Bool.false_eq_true, Bool.true_eq_false, IntKind.signed, IntKind.max, opConvert, opIndexAddr, opLoad, aggOf, Option.some.injEq, Value.bool.injEq, exists_eq_left', true_and, forall_const, decide_eq_true_eq, decide_eq_false_iff_not, Int.natCast_nonneg, and_self, Int.toNat_natCast, Nat.mul_one, List.append_nil, beq_self_eq_true, Nat.lt_irrefl, Nat.zero_lt_succ, Nat.reduceLT, Option.bind_some, new_get_if, new_next, set_get_if, set_next, decide_true, decide_false, beq_tt, beq_tf, beq_ft, beq_ff, undef, Nat.left_eq_add, Nat.add_eq_left, List.drop_zero, List.drop_succ_cons, List.take_succ_cons, List.take_zero, List.drop_nil, opBox, Value.cells, opStore, setCells, List.length_append, Nat.reduceLeDiff, Nat.add_zero, Nat.add_assoc, Nat.add_right_cancel_iff, List.cons_append, List.nil_append, Array.toList, Option.isNone_none, Option.isNone_some, bin_weq, bin_wneq, bin_req, bin_rneq, ne_eq, not_true_eq_false, not_false_eq_true, bldt, wk0, fxC18t]
    refine rword_ret R2 hal hab fun m3 R3 f3 => ?_
    have v3 := wordS_val (s := (0, 0)) hab
    have w3 : IntKind.i64.wrap (wordS all (0, 0)).1 = (wordS all (0, 0)).1 := wrap_i64 (by omega) (by omega)
    have q3 := f3.ext x2 n2
    simp only [evOp, evParts, okVal, ev1, evs, evOpt, envOf, List.lookup_nil, List.size_toArray, List.length_cons, List.length_nil, List.range, List.range.loop, Nat.zero_add, Nat.reduceAdd, Bool.not_false, Bool.not_true, Bool.true_or, if_true, if_false, reduceIte, Nat.reduceEqDiff, reduceCtorEq, List.getElem?_toArray, List.getElem?_cons_zero, List.getElem?_cons_succ, guardOf, constOk, constCell, evBuiltin, opLen, List.head?_cons, foldV, min2V, max2V, Int.reduceLT, Int.reduceEq, Kend, resOf, Bool.false_eq_true, Bool.true_eq_false, IntKind.signed, IntKind.max, opConvert, opIndexAddr, opLoad, aggOf, Option.some.injEq, Value.bool.injEq, exists_eq_left', true_and, forall_const, decide_eq_true_eq, decide_eq_false_iff_not, Int.natCast_nonneg, and_self, Int.toNat_natCast, Nat.mul_one, List.append_nil, beq_self_eq_true, Nat.lt_irrefl, Nat.zero_lt_succ, Nat.reduceLT, Option.bind_some, new_get_if, new_next, set_get_if, set_next, decide_true, decide_false, beq_tt, beq_tf, beq_ft, beq_ff, undef, Nat.left_eq_add, Nat.add_eq_left, List.drop_zero, List.drop_succ_cons, List.take_succ_cons, List.take_zero, List.drop_nil, opBox, Value.cells, opStore, setCells, List.length_append, Nat.reduceLeDiff, Nat.add_zero, Nat.add_assoc, Nat.add_right_cancel_iff, List.cons_append, List.nil_append, Array.toList, Option.isNone_none, Option.isNone_some, bin_weq, bin_wneq, bin_req, bin_rneq, ne_eq, not_true_eq_false, not_false_eq_true, bldt, wk0, fxC18t, w3]
    refine rlong_ret R3 hal hab fun m4 R4 f4 => ?_
    have q4 := f4.ext q3 n2
    simp only [evOp, evParts, okVal, ev1, evs, evOpt, envOf, List.lookup_nil, List.size_toArray, List.length_cons, List.length_nil, List.range, List.range.loop, Nat.zero_add, Nat.reduceAdd, Bool.not_false, Bool.not_true, Bool.true_or, if_true, if_false, reduceIte, Nat.reduceEqDiff, reduceCtorEq, List.getElem?_toArray, List.getElem?_cons_zero, List.getElem?_cons_succ, guardOf, constOk, constCell, evBuiltin, opLen, List.head?_cons, foldV, min2V, max2V, Int.reduceLT, Int.reduceEq, Kend, resOf, Bool.false_eq_true, Bool.true_eq_false, IntKind.signed, IntKind.max, opConvert, opIndexAddr, opLoad, aggOf, Option.some.injEq, Value.bool.injEq, exists_eq_left', true_and, forall_const, decide_eq_true_eq, decide_eq_false_iff_not, Int.natCast_nonneg, and_self, Int.toNat_natCast, Nat.mul_one, List.append_nil, beq_self_eq_true, Nat.lt_irrefl, Nat.zero_lt_succ, Nat.reduceLT, Option.bind_some, new_get_if, new_next, set_get_if, set_next, decide_true, decide_false, beq_tt, beq_tf, beq_ft, beq_ff, undef, Nat.left_eq_add, Nat.add_eq_left, List.drop_zero, List.drop_succ_cons, List.take_succ_cons, List.take_zero, List.drop_nil, opBox, Value.cells, opStore, setCells, List.length_append, Nat.reduceLeDiff, Nat.add_zero, Nat.add_assoc, Nat.add_right_cancel_iff, List.cons_append, List.nil_append, Array.toList, Option.isNone_none, Option.isNone_some, bin_weq, bin_wneq, bin_req, bin_rneq, ne_eq, not_true_eq_false, not_false_eq_true, bldt, wk0, fxC18t]
    refine rword_ret R4 hal hab fun m5 R5 f5 => ?_
    have q5 := f5.ext q4 n2
    have v5 := wordS_val (s := (longS all (wordS all (0, 0)).2).2) hab
    have w5 : IntKind.i64.wrap (wordS all (longS all (wordS all (0, 0)).2).2).1 = (wordS all (longS all (wordS all (0, 0)).2).2).1 := wrap_i64 (by omega) (by omega)
    simp only [evOp, evParts, okVal, ev1, evs, evOpt, envOf, List.lookup_nil, List.size_toArray, List.length_cons, List.length_nil, List.range, List.range.loop, Nat.zero_add, Nat.reduceAdd, Bool.not_false, Bool.not_true, Bool.true_or, if_true, if_false, reduceIte, Nat.reduceEqDiff, reduceCtorEq, List.getElem?_toArray, List.getElem?_cons_zero, List.getElem?_cons_succ, guardOf, constOk, constCell, evBuiltin, opLen, List.head?_cons, foldV, min2V, max2V, Int.reduceLT, Int.reduceEq, Kend, resOf, Bool.false_eq_true, Bool.true_eq_false, IntKind.signed, IntKind.max, opConvert, opIndexAddr, opLoad, aggOf, Option.some.injEq, Value.bool.injEq, exists_eq_left', true_and, forall_const, decide_eq_true_eq, decide_eq_false_iff_not, Int.natCast_nonneg, and_self, Int.toNat_natCast, Nat.mul_one, List.append_nil, beq_self_eq_true, Nat.lt_irrefl, Nat.zero_lt_succ, Nat.reduceLT, Option.bind_some, new_get_if, new_next, set_get_if, set_next, decide_true, decide_false, beq_tt, beq_tf, beq_ft, beq_ff, undef, Nat.left_eq_add, Nat.add_eq_left, List.drop_zero, List.drop_succ_cons, List.take_succ_cons, List.take_zero, List.drop_nil, opBox, Value.cells, opStore, setCells, List.length_append, Nat.reduceLeDiff, Nat.add_zero, Nat.add_assoc, Nat.add_right_cancel_iff, List.cons_append, List.nil_append, Array.toList, Option.isNone_none, Option.isNone_some, bin_weq, bin_wneq, bin_req, bin_rneq, ne_eq, not_true_eq_false, not_false_eq_true, bldt, wk0, fxC18t, w5]
    refine rword_ret R5 hal hab fun m6 R6 f6 => ?_
    have q6 := f6.ext q5 n2
    have v6 := wordS_val (s := (wordS all (longS all (wordS all (0, 0)).2).2).2) hab
    have w6 : IntKind.i64.wrap (wordS all (wordS all (longS all (wordS all (0, 0)).2).2).2).1 = (wordS all (wordS all (longS all (wordS all (0, 0)).2).2).2).1 := wrap_i64 (by omega) (by omega)
    have erp : readP all = (⟨(wordS all (0, 0)).1, (longS all (wordS all (0, 0)).2).1, (wordS all (longS all (wordS all (0, 0)).2).2).1, (wordS all (wordS all (longS all (wordS all (0, 0)).2).2).2).1, (textS all 48 (wordS all (wordS all (longS all (wordS all (0, 0)).2).2).2).2).1⟩, (textS all 48 (wordS all (wordS all (longS all (wordS all (0, 0)).2).2).2).2).2) := rfl
    simp only [evOp, evParts, okVal, ev1, evs, evOpt, envOf, List.lookup_nil, List.size_toArray, List.length_cons, List.length_nil, List.range, List.range.loop, Nat.zero_add, Nat.reduceAdd, Bool.not_false, Bool.not_true, Bool.true_or, if_true, if_false, reduceIte, Nat.reduceEqDiff, reduceCtorEq, List.getElem?_toArray, List.getElem?_cons_zero, List.getElem?_cons_succ, guardOf, constOk, constCell, evBuiltin, opLen, List.head?_cons, foldV, min2V, max2V, Int.reduceLT, Int.reduceEq, Kend, resOf, Bool.false_eq_true, Bool.true_eq_false, IntKind.signed, IntKind.max, opConvert, opIndexAddr, opLoad, aggOf, Option.some.injEq, Value.bool.injEq, exists_eq_left', true_and, forall_const, decide_eq_true_eq, decide_eq_false_iff_not, Int.natCast_nonneg, and_self, Int.toNat_natCast, Nat.mul_one, List.append_nil, beq_self_eq_true, Nat.lt_irrefl, Nat.zero_lt_succ, Nat.reduceLT, Option.bind_some, new_get_if, new_next, set_get_if, set_next, decide_true, decide_false, beq_tt, beq_tf, beq_ft, beq_ff, undef, Nat.left_eq_add, Nat.add_eq_left, List.drop_zero, List.drop_succ_cons, List.take_succ_cons, List.take_zero, List.drop_nil, opBox, Value.cells, opStore, setCells, List.length_append, Nat.reduceLeDiff, Nat.add_zero, Nat.add_assoc, Nat.add_right_cancel_iff, List.cons_append, List.nil_append, Array.toList, Option.isNone_none, Option.isNone_some, bin_weq, bin_wneq, bin_req, bin_rneq, ne_eq, not_true_eq_false, not_false_eq_true, bldt, wk0, fxC18t, w6, bldt]
    have hst := R6.2.2.2.1
    generalize (wordS all (wordS all (longS all (wordS all (0, 0)).2).2).2).2 = s6 at R6 hst erp ⊢
    generalize (wordS all (wordS all (longS all (wordS all (0, 0)).2).2).2).1 = N at erp ⊢
    generalize (wordS all (longS all (wordS all (0, 0)).2).2).1 = Pp at erp ⊢
    generalize (longS all (wordS all (0, 0)).2).1 = Ll at erp ⊢
    generalize (wordS all (0, 0)).1 = Ff at erp ⊢
    have li := R6.1
    have lir := R6.2.1
    obtain ⟨m7, hm7⟩ : ∃ M, M = (m6.new (.cells [.int .i64 0, .int .u32 0, .int .i64 0, .int .i64 0, .slice none 0 0] 32 true)).set m6.next (.cells [.int .i64 Ff, .int .u32 Ll, .int .i64 Pp, .int .i64 N, .slice none 0 0] 32 true) := ⟨_, rfl⟩
    rw [← hm7]
    have n7 : m7.next = m6.next + 1 := by rw [hm7]; rfl
    have x67 : Ext m6 m7 := ⟨by omega, fun j hj => by rw [hm7, set_get_ne _ (by omega), new_get_ne _ (by omega)]⟩
    have g7 : m7.get m6.next = some (.cells [.int .i64 Ff, .int .u32 Ll, .int .i64 Pp, .int .i64 N, .slice none 0 0] 32 true) := by rw [hm7, set_get]
    clear hm7
    refine rtext_ret (R6.ext x67) hal hab fun m8 R8 f8 => ?_
    have q8 := f8.ext (q6.trans x67) n2
    obtain ⟨tk, tb, tl, _⟩ := text_good (s := s6) (most := 48) hab hst
    have hb6 : m6.next ≠ i := by omega
    have g8 := (f8.2 m6.next (by omega) hb6).trans g7
    have l8 := f8.1
    obtain ⟨T, hT⟩ : ∃ T, T = textS all 48 s6 := ⟨_, rfl⟩
    rw [← hT] at R8 tb tl erp ⊢
    have e9 := conv_bytes (m := m8) tb (by omega)
    obtain ⟨m9, hm9⟩ : ∃ M, M = m8.new (.cells (byteCells T.1) 5 true) := ⟨_, rfl⟩
    rw [← hm9] at e9
    have x89 : Ext m8 m9 := by rw [hm9]; exact Ext.new _ _
    have b9 : Byr m9 m8.next T.1 := by rw [hm9]; exact Brow.made _ _
    have n9 : m9.next = m8.next + 1 := by rw [hm9]; rfl
    have g9 := (x89.2 m6.next (by omega)).trans g8
    clear hm9
    simp only [evOp, evParts, okVal, ev1, evs, evOpt, envOf, List.lookup_nil, List.size_toArray, List.length_cons, List.length_nil, List.range, List.range.loop, Nat.zero_add, Nat.reduceAdd, Bool.not_false, Bool.not_true, Bool.true_or, if_true, if_false, reduceIte, Nat.reduceEqDiff, reduceCtorEq, List.getElem?_toArray, List.getElem?_cons_zero, List.getElem?_cons_succ, guardOf, constOk, constCell, evBuiltin, opLen, List.head?_cons, foldV, min2V, max2V, Int.reduceLT, Int.reduceEq, Kend, resOf, Bool.false_eq_true, Bool.true_eq_false, IntKind.signed, IntKind.max, opIndexAddr, opLoad, aggOf, Option.some.injEq, Value.bool.injEq, exists_eq_left', true_and, forall_const, decide_eq_true_eq, decide_eq_false_iff_not, Int.natCast_nonneg, and_self, Int.toNat_natCast, Nat.mul_one, List.append_nil, beq_self_eq_true, Nat.lt_irrefl, Nat.zero_lt_succ, Nat.reduceLT, Option.bind_some, new_get_if, new_next, set_get_if, set_next, decide_true, decide_false, beq_tt, beq_tf, beq_ft, beq_ff, undef, Nat.left_eq_add, Nat.add_eq_left, List.drop_zero, List.drop_succ_cons, List.take_succ_cons, List.take_zero, List.drop_nil, opBox, Value.cells, opStore, setCells, List.length_append, Nat.reduceLeDiff, Nat.add_zero, Nat.add_assoc, Nat.add_right_cancel_iff, List.cons_append, List.nil_append, Array.toList, Option.isNone_none, Option.isNone_some, bin_weq, bin_wneq, bin_req, bin_rneq, ne_eq, not_true_eq_false, not_false_eq_true, bldt, wk0, fxC18t, e9, g9]
    obtain ⟨m10, hm10⟩ : ∃ M, M = m9.set m6.next (.cells [.int .i64 Ff, .int .u32 Ll, .int .i64 Pp, .int .i64 N, .slice (some ⟨m8.next, 0, none⟩) T.1.length 1] 32 true) := ⟨_, rfl⟩
    rw [← hm10]
    have n10 : m10.next = m9.next := by rw [hm10]; rfl
    have k10 : ∀ j, j ≠ m6.next → m10.get j = m9.get j := fun j hj => by rw [hm10, set_get_ne _ hj]
    have g10 : m10.get m6.next = some (.cells [.int .i64 Ff, .int .u32 Ll, .int .i64 Pp, .int .i64 N, .slice (some ⟨m8.next, 0, none⟩) T.1.length 1] 32 true) := by rw [hm10, set_get]
    clear hm10
    have R10 := (R8.ext x89).keep (by omega) (k10 i (by omega)) (k10 r (by omega))
    have b10 : Byr m10 m8.next T.1 := b9.keep (by omega) (k10 _ (by omega))
    have l6 := q6.1
    have x1A : Ext m1 m10 := ⟨by omega, fun j hj => by rw [k10 j (by omega), x89.2 j (by omega), q8.2 j hj]⟩
    have gzA := (x1A.2 m.next (by omega)).trans gz1
    have x0A := x01.trans x1A
    refine end_ret R10 ?_
    rw [erp] at et
    by_cases he : endS all.length T.2 = 0
    · rw [if_neg (by exact fun h => h he)] at et
      have hne : ¬ m6.next = m.next := by omega
      simp only [evOp, evParts, okVal, ev1, evs, evOpt, envOf, List.lookup_nil, List.size_toArray, List.length_cons, List.length_nil, List.range, List.range.loop, Nat.zero_add, Nat.reduceAdd, Bool.not_false, Bool.not_true, Bool.true_or, if_true, if_false, reduceIte, Nat.reduceEqDiff, reduceCtorEq, List.getElem?_toArray, List.getElem?_cons_zero, List.getElem?_cons_succ, guardOf, constOk, constCell, evBuiltin, opLen, List.head?_cons, foldV, min2V, max2V, Int.reduceLT, Int.reduceEq, Kend, resOf, Bool.false_eq_true, Bool.true_eq_false, IntKind.signed, IntKind.max, opConvert, opIndexAddr, opLoad, aggOf, Option.some.injEq, Value.bool.injEq, exists_eq_left', true_and, forall_const, decide_eq_true_eq, decide_eq_false_iff_not, Int.natCast_nonneg, and_self, Int.toNat_natCast, Nat.mul_one, List.append_nil, beq_self_eq_true, Nat.lt_irrefl, Nat.zero_lt_succ, Nat.reduceLT, Option.bind_some, new_get_if, new_next, set_get_if, set_next, decide_true, decide_false, beq_tt, beq_tf, beq_ft, beq_ff, undef, Nat.left_eq_add, Nat.add_eq_left, List.drop_zero, List.drop_succ_cons, List.take_succ_cons, List.take_zero, List.drop_nil, opBox, Value.cells, opStore, setCells, List.length_append, Nat.reduceLeDiff, Nat.add_zero, Nat.add_assoc, Nat.add_right_cancel_iff, List.cons_append, List.nil_append, Array.toList, Option.isNone_none, Option.isNone_some, bin_weq, bin_wneq, bin_req, bin_rneq, ne_eq, not_true_eq_false, not_false_eq_true, bldt, wk0, fxC18t, he, g10]

      refine pcheck_ret (P := ⟨Ff, Ll, Pp, N, T.1⟩) (v := rowV m8.next T.1) (b10.own.len (P := Try.prog) Try.underlying22) fun m11 x11 => ?_
      have gB := (x11.2 m6.next (by omega)).trans g10
      have gzB := (x11.2 m.next (by omega)).trans gzA
      have lB := x11.1
      by_cases hc : pcheck ⟨Ff, Ll, Pp, N, T.1⟩ = 0
      · rw [if_neg (by exact fun h => h hc)] at et
        rw [et] at hK
        rw [hc]
        simp only [evOp, evParts, okVal, ev1, evs, evOpt, envOf, List.lookup_nil, List.size_toArray, List.length_cons, List.length_nil, List.range, List.range.loop, Nat.zero_add, Nat.reduceAdd, Bool.not_false, Bool.not_true, Bool.true_or, if_true, if_false, reduceIte, Nat.reduceEqDiff, reduceCtorEq, List.getElem?_toArray, List.getElem?_cons_zero, List.getElem?_cons_succ, guardOf, constOk, constCell, evBuiltin, opLen, List.head?_cons, foldV, min2V, max2V, Int.reduceLT, Int.reduceEq, Kend, resOf, Bool.false_eq_true, Bool.true_eq_false, IntKind.signed, IntKind.max, opConvert, opIndexAddr, opLoad, aggOf, Option.some.injEq, Value.bool.injEq, exists_eq_left', true_and, forall_const, decide_eq_true_eq, decide_eq_false_iff_not, Int.natCast_nonneg, and_self, Int.toNat_natCast, Nat.mul_one, List.append_nil, beq_self_eq_true, Nat.lt_irrefl, Nat.zero_lt_succ, Nat.reduceLT, Option.bind_some, new_get_if, new_next, set_get_if, set_next, decide_true, decide_false, beq_tt, beq_tf, beq_ft, beq_ff, undef, Nat.left_eq_add, Nat.add_eq_left, List.drop_zero, List.drop_succ_cons, List.take_succ_cons, List.take_zero, List.drop_nil, opBox, Value.cells, opStore, setCells, List.length_append, Nat.reduceLeDiff, Nat.add_zero, Nat.add_assoc, Nat.add_right_cancel_iff, List.cons_append, List.nil_append, Array.toList, Option.isNone_none, Option.isNone_some, bin_weq, bin_wneq, bin_req, bin_rneq, ne_eq, not_true_eq_false, not_false_eq_true, bldt, wk0, fxC18t, gB, gzB]
        exact hK _ (rowV m8.next T.1) (zero m11 (x0A.trans x11) (by omega) _) (.inr ⟨_, rfl, by omega, (b10.ext x11).keep (Nat.le_refl _) (set_get_ne _ (by omega))⟩)
      · rw [if_pos hc] at et
        rw [et] at hK
        simp only [evOp, evParts, okVal, ev1, evs, evOpt, envOf, List.lookup_nil, List.size_toArray, List.length_cons, List.length_nil, List.range, List.range.loop, Nat.zero_add, Nat.reduceAdd, Bool.not_false, Bool.not_true, Bool.true_or, if_true, if_false, reduceIte, Nat.reduceEqDiff, reduceCtorEq, List.getElem?_toArray, List.getElem?_cons_zero, List.getElem?_cons_succ, guardOf, constOk, constCell, evBuiltin, opLen, List.head?_cons, foldV, min2V, max2V, Int.reduceLT, Int.reduceEq, Kend, resOf, Bool.false_eq_true, Bool.true_eq_false, IntKind.signed, IntKind.max, opConvert, opIndexAddr, opLoad, aggOf, Option.some.injEq, Value.bool.injEq, exists_eq_left', true_and, forall_const, decide_eq_true_eq, decide_eq_false_iff_not, Int.natCast_nonneg, and_self, Int.toNat_natCast, Nat.mul_one, List.append_nil, beq_self_eq_true, Nat.lt_irrefl, Nat.zero_lt_succ, Nat.reduceLT, Option.bind_some, new_get_if, new_next, set_get_if, set_next, decide_true, decide_false, beq_tt, beq_tf, beq_ft, beq_ff, undef, Nat.left_eq_add, Nat.add_eq_left, List.drop_zero, List.drop_succ_cons, List.take_succ_cons, List.take_zero, List.drop_nil, opBox, Value.cells, opStore, setCells, List.length_append, Nat.reduceLeDiff, Nat.add_zero, Nat.add_assoc, Nat.add_right_cancel_iff, List.cons_append, List.nil_append, Array.toList, Option.isNone_none, Option.isNone_some, bin_weq, bin_wneq, bin_req, bin_rneq, ne_eq, not_true_eq_false, not_false_eq_true, bldt, wk0, fxC18t, hc, gzB]
        exact hK _ _ (zero m11 (x0A.trans x11) (by omega) _) (.inl ⟨rfl, rfl⟩)
    · rw [if_pos he] at et
      rw [et] at hK
      simp only [evOp, evParts, okVal, ev1, evs, evOpt, envOf, List.lookup_nil, List.size_toArray, List.length_cons, List.length_nil, List.range, List.range.loop, Nat.zero_add, Nat.reduceAdd, Bool.not_false, Bool.not_true, Bool.true_or, if_true, if_false, reduceIte, Nat.reduceEqDiff, reduceCtorEq, List.getElem?_toArray, List.getElem?_cons_zero, List.getElem?_cons_succ, guardOf, constOk, constCell, evBuiltin, opLen, List.head?_cons, foldV, min2V, max2V, Int.reduceLT, Int.reduceEq, Kend, resOf, Bool.false_eq_true, Bool.true_eq_false, IntKind.signed, IntKind.max, opConvert, opIndexAddr, opLoad, aggOf, Option.some.injEq, Value.bool.injEq, exists_eq_left', true_and, forall_const, decide_eq_true_eq, decide_eq_false_iff_not, Int.natCast_nonneg, and_self, Int.toNat_natCast, Nat.mul_one, List.append_nil, beq_self_eq_true, Nat.lt_irrefl, Nat.zero_lt_succ, Nat.reduceLT, Option.bind_some, new_get_if, new_next, set_get_if, set_next, decide_true, decide_false, beq_tt, beq_tf, beq_ft, beq_ff, undef, Nat.left_eq_add, Nat.add_eq_left, List.drop_zero, List.drop_succ_cons, List.take_succ_cons, List.take_zero, List.drop_nil, opBox, Value.cells, opStore, setCells, List.length_append, Nat.reduceLeDiff, Nat.add_zero, Nat.add_assoc, Nat.add_right_cancel_iff, List.cons_append, List.nil_append, Array.toList, Option.isNone_none, Option.isNone_some, bin_weq, bin_wneq, bin_req, bin_rneq, ne_eq, not_true_eq_false, not_false_eq_true, bldt, wk0, fxC18t, he, gzA]
      exact hK _ _ (zero m10 x0A (by omega) _) (.inl ⟨rfl, rfl⟩)
end Go.Proofs.Ytiacdjobmfhgoaa
