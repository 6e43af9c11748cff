/- A text of the abstract machine. -/


/- CollateSplit comes to true on all arguments. -/
import Derived.Test.YthngclljebepkaaAmC21CollateAlike
import Derived.Test.YthngclljebepkaaAmBun
set_option linter.unusedSimpArgs false
set_option linter.unusedVariables false
set_option maxRecDepth 100000
set_option maxHeartbeats 4000000
namespace Go.Proofs.Ythngclljebepkaa
open Go Go.AM Go.AM.Crc Go.AM.Wire
theorem fxC21CollateSplit : type_of% (And.intro (And.intro (And.intro (And.intro (And.intro (And.intro @Try.underlying3 @Try.underlying4) (And.intro @Try.underlying5 (And.intro @Try.underlying9 @Try.underlying28))) (And.intro (And.intro @Try.underlying31 (And.intro @Try.underlying35 @Try.underlying49)) (And.intro @Try.underlying22 (And.intro @Try.underlying23 @Try.underlying37)))) (And.intro (And.intro (And.intro @Try.underlying56 (And.intro @Try.underlying58 @Try.underlying32)) (And.intro @Try.underlying27 (And.intro @Try.underlying25 @ts3))) (And.intro (And.intro @ts4 (And.intro @ts5 @ts9)) (And.intro @ts28 (And.intro @ts31 @ts35))))) (And.intro (And.intro (And.intro (And.intro @ts49 @ts22) (And.intro @ts23 (And.intro @ts37 @ts56))) (And.intro (And.intro @ts58 (And.intro @ts32 @ts27)) (And.intro @ts25 (And.intro @tz3 @tz4)))) (And.intro (And.intro (And.intro @tz5 (And.intro @tz9 @tz28)) (And.intro @tz31 (And.intro @tz35 @tz49))) (And.intro (And.intro @tz22 (And.intro @tz23 @tz37)) (And.intro @tz56 (And.intro @tz58 @tz32)))))) (And.intro (And.intro (And.intro (And.intro (And.intro @tz27 @tz25) (And.intro @tb3 (And.intro @tb4 @tb5))) (And.intro (And.intro @tb9 (And.intro @tb28 @tb31)) (And.intro @tb35 (And.intro @tb49 @tb22)))) (And.intro (And.intro (And.intro @tb23 (And.intro @tb37 @tb56)) (And.intro @tb58 (And.intro @tb32 @tb27))) (And.intro (And.intro @tb25 (And.intro @fr6 @fr7)) (And.intro @fr8 (And.intro @fr9 @fr10))))) (And.intro (And.intro (And.intro (And.intro @fr11 @fr12) (And.intro @fr13 (And.intro @fr14 @fr16))) (And.intro (And.intro @fr17 (And.intro @bz31 @al31)) (And.intro @fa31_0 (And.intro @fa31_1 @bz37)))) (And.intro (And.intro (And.intro @al37 (And.intro @bz58 @fa37_0)) (And.intro @fa37_1 (And.intro @fa37_2 @fa58_0))) (And.intro (And.intro @fa58_1 (And.intro @fa58_2 @fa58_3)) (And.intro @fa25_0 (And.intro @fa25_1 @fa25_2))))))) := (And.intro (And.intro (And.intro (And.intro (And.intro (And.intro @Try.underlying3 @Try.underlying4) (And.intro @Try.underlying5 (And.intro @Try.underlying9 @Try.underlying28))) (And.intro (And.intro @Try.underlying31 (And.intro @Try.underlying35 @Try.underlying49)) (And.intro @Try.underlying22 (And.intro @Try.underlying23 @Try.underlying37)))) (And.intro (And.intro (And.intro @Try.underlying56 (And.intro @Try.underlying58 @Try.underlying32)) (And.intro @Try.underlying27 (And.intro @Try.underlying25 @ts3))) (And.intro (And.intro @ts4 (And.intro @ts5 @ts9)) (And.intro @ts28 (And.intro @ts31 @ts35))))) (And.intro (And.intro (And.intro (And.intro @ts49 @ts22) (And.intro @ts23 (And.intro @ts37 @ts56))) (And.intro (And.intro @ts58 (And.intro @ts32 @ts27)) (And.intro @ts25 (And.intro @tz3 @tz4)))) (And.intro (And.intro (And.intro @tz5 (And.intro @tz9 @tz28)) (And.intro @tz31 (And.intro @tz35 @tz49))) (And.intro (And.intro @tz22 (And.intro @tz23 @tz37)) (And.intro @tz56 (And.intro @tz58 @tz32)))))) (And.intro (And.intro (And.intro (And.intro (And.intro @tz27 @tz25) (And.intro @tb3 (And.intro @tb4 @tb5))) (And.intro (And.intro @tb9 (And.intro @tb28 @tb31)) (And.intro @tb35 (And.intro @tb49 @tb22)))) (And.intro (And.intro (And.intro @tb23 (And.intro @tb37 @tb56)) (And.intro @tb58 (And.intro @tb32 @tb27))) (And.intro (And.intro @tb25 (And.intro @fr6 @fr7)) (And.intro @fr8 (And.intro @fr9 @fr10))))) (And.intro (And.intro (And.intro (And.intro @fr11 @fr12) (And.intro @fr13 (And.intro @fr14 @fr16))) (And.intro (And.intro @fr17 (And.intro @bz31 @al31)) (And.intro @fa31_0 (And.intro @fa31_1 @bz37)))) (And.intro (And.intro (And.intro @al37 (And.intro @bz58 @fa37_0)) (And.intro @fa37_1 (And.intro @fa37_2 @fa58_0))) (And.intro (And.intro @fa58_1 (And.intro @fa58_2 @fa58_3)) (And.intro @fa25_0 (And.intro @fa25_1 @fa25_2)))))))
def anK (k : Nat) : Ans := ⟨0, k, []⟩
def ansS (i : Nat) : List Ans := (List.range i).map anK
theorem ansS_succ (i : Nat) : ansS (i + 1) = ansS i ++ [anK i] := by simp [ansS, List.range_succ]
theorem ansS_length (i : Nat) : (ansS i).length = i := by simp [ansS]
theorem anK_alike (k i : Nat) : alikeB (anK k) (anK i) = decide (k = i) := by
  by_cases h : k = i
  · subst h
    rw [alikeB_self]
    simp
  · have h2 : ¬ ((k : Int) = (i : Int)) := by omega
    rw [decide_eq_false h]
    cases hb : alikeB (anK k) (anK i) with
    | false => rfl
    | true =>
      simp only [alikeB, Bool.and_eq_true, decide_eq_true_eq] at hb
      exact (h2 hb.2.1).elim
theorem alikeN_one (M : List Int) (t k : Nat) : ∀ i, alikeN (ansS i) (rot M t i) (anK k) = if k < i then [M.getD ((k + t) % M.length) 0] else []
  | 0 => rfl
  | i + 1 => by
    rw [rot_succ, ansS_succ, alikeN_append (by rw [ansS_length, rot_length]), alikeN_one M t k i, anK_alike]
    by_cases h : k = i
    · subst h
      simp
    · rw [decide_eq_false h]
      by_cases h2 : k < i
      · rw [if_pos h2, if_pos (show k < i + 1 by omega)]; rfl
      · rw [if_neg h2, if_neg (show ¬ k < i + 1 by omega)]; rfl
def spC (how : Int) (M : List Int) (t i : Nat) : Tc := ⟨how, if i = 0 then 0 else 2, if i = 0 then [] else M, rot M t i, ansS i⟩
theorem spC_put {how : Int} {M : List Int} {t i : Nat} : putC (spC how M t i) (M.getD ((i + t) % M.length) 0) 2 M (anK i) = spC how M t (i + 1) := by
  simp only [putC, spC, rot_succ, ansS_succ, Nat.add_one_ne_zero, if_false]
theorem spC_ok {how : Int} {M : List Int} {t i : Nat} (hv : viewCk 2 M = 0) (hn : M.Nodup) (hi : i < M.length) : putOk (spC how M t i) (M.getD ((i + t) % M.length) 0) 2 M = true := by
  have h1 : M.getD ((i + t) % M.length) 0 ∈ M := getD_mem (Nat.mod_lt _ (by omega))
  have h2 := rot_new hn (t := t) hi
  show (decide (viewCk 2 M = 0) && (decide (M.getD ((i + t) % M.length) 0 ∈ M) && ((decide (rot M t i = []) || (decide ((2 : Int) = if i = 0 then 0 else 2) && decide (M = if i = 0 then [] else M))) && !decide (M.getD ((i + t) % M.length) 0 ∈ rot M t i)))) = true
  rw [decide_eq_true hv, decide_eq_true h1, decide_eq_false h2]
  by_cases h : i = 0
  · subst h; rfl
  · simp only [if_neg h, decide_true, Bool.and_self, Bool.or_true, Bool.not_false]
def firstB (how : Int) (M : List Int) : Bool := decide (how = 0) || decide (M.length = 1)
theorem spC_cond {how : Int} {M : List Int} {t i k : Nat} (hh : how = 0 ∨ how = 1 ∨ how = 2) (hn : M.Nodup) (hM : 1 ≤ M.length) (hk : k < i + 1) : condC (spC how M t (i + 1)) (anK k) = firstB how M := by
  have e : alikeN (ansS (i + 1)) (rot M t (i + 1)) (anK k) = [M.getD ((k + t) % M.length) 0] := by rw [alikeN_one, if_pos hk]
  have hm : manyIn M [M.getD ((k + t) % M.length) 0] = 1 := by
    rw [manyIn_nodup hn (by simp) (fun x hx => by
      rw [List.mem_singleton] at hx
      rw [hx]
      exact getD_mem (Nat.mod_lt _ (by omega)))]
    rfl
  have ha : allIn M [M.getD ((k + t) % M.length) 0] = decide (1 = M.length) := by rw [allIn_many, hm]
  have e2 : condC (spC how M t (i + 1)) (anK k) = (decide (how = 0) || ((decide (how = 1) && decide (M.length < 2 * 1)) || (decide (how = 2) && decide (1 = M.length)))) := by
    simp only [condC, spC, Nat.add_one_ne_zero, if_false, e, hm, ha]
  rw [e2, firstB]
  by_cases hl : M.length = 1
  · rw [hl]
    rcases hh with rfl | rfl | rfl <;> rfl
  · rw [decide_eq_false (show ¬ M.length < 2 * 1 by omega), decide_eq_false (show ¬ 1 = M.length by omega), decide_eq_false hl]
    rcases hh with rfl | rfl | rfl <;> rfl
theorem spC_res {how : Int} {M : List Int} {t i : Nat} (hh : how = 0 ∨ how = 1 ∨ how = 2) (hn : M.Nodup) (hi : i < M.length) :
    resC (spC how M t (i + 1)) = if firstB how M then (⟨0, 0, []⟩, true) else if decide (i + 1 = M.length) then (⟨19, 0, []⟩, true) else (⟨0, 0, []⟩, false) := by
  have hm : manyIn M (rot M t (i + 1)) = i + 1 := by
    rw [manyIn_nodup hn (rot_nodup hn (by omega)) (rot_mem (by omega) _ _), rot_length]
  have ha : allIn M (rot M t (i + 1)) = decide (i + 1 = M.length) := by rw [allIn_many, hm]
  have hne : rot M t (i + 1) ≠ [] := fun h => by
    have := congrArg List.length h
    rw [rot_length] at this
    simp at this
  have hf : (ansS (i + 1)).find? (condC (spC how M t (i + 1))) = if firstB how M then some (anK 0) else none := by
    cases hb : firstB how M with
    | true =>
      have e : ansS (i + 1) = anK 0 :: (List.range i).map (fun k => anK (k + 1)) := by
        simp [ansS, List.range_succ_eq_map, Function.comp_def]
      rw [e, List.find?_cons, spC_cond hh hn (by omega) (by omega), hb]
      rfl
    | false =>
      rw [if_neg (by decide), List.find?_eq_none]
      intro a ha
      simp only [ansS, List.mem_map, List.mem_range] at ha
      obtain ⟨k, hk, rfl⟩ := ha
      rw [spC_cond hh hn (by omega) hk, hb]
      decide
  have e1 : (spC how M t (i + 1)).nodes = rot M t (i + 1) := rfl
  have e2 : (spC how M t (i + 1)).ans = ansS (i + 1) := rfl
  have e3 : (spC how M t (i + 1)).mem = M := by simp [spC]
  rw [resC, e1, e2, e3, if_neg hne, hf, ha]
  cases firstB how M <;> rfl
theorem bldK (k : Int) : opBuild Try.prog 37 [(1, .int .i64 k)] = some (ansV 0 k (.slice none 0 0)) := by kernel_rfl
theorem collatesplit_ret {m : Mem} {hw mb tn : Int} (hhw : 0 ≤ hw ∧ hw < 256) (htn : 0 ≤ tn ∧ tn < 256) : Ret Try.prog 6 [.int .u8 hw, .int .u16 mb, .int .u8 tn] m fun v _ => v = .bool true := by
  refine ret_wp [] Try.func6 rfl (by decide) (by kernel_rfl) ?_
  simp only [evOp, evParts, okVal, ev1, evs, evOpt, envOf, List.lookup_nil, List.size_toArray, List.length_cons, List.length_nil, List.range, List.range.loop, Nat.zero_add, Nat.reduceAdd, Bool.not_false, Bool.not_true, Bool.true_or, if_true, if_false, reduceIte, Nat.reduceEqDiff, reduceCtorEq, List.getElem?_toArray, List.getElem?_cons_zero, List.getElem?_cons_succ, guardOf, constOk, constCell, evBuiltin, opLen, List.head?_cons, foldV, min2V, max2V, Int.reduceLT, Int.reduceEq, Kend, resOf, Bool.false_eq_true, Bool.true_eq_false, IntKind.signed, IntKind.max, opConvert, opIndexAddr, opLoad, aggOf, Option.some.injEq, Value.bool.injEq, exists_eq_left', true_and, forall_const, decide_eq_true_eq, decide_eq_false_iff_not, Int.natCast_nonneg, and_self, Int.toNat_natCast, Nat.mul_one, List.append_nil, beq_self_eq_true, Nat.lt_irrefl, Nat.zero_lt_succ, Nat.reduceLT, Option.bind_some, new_get_if, new_next, set_get_if, set_next, decide_true, decide_false, beq_tt, beq_tf, beq_ft, beq_ff, undef, Nat.left_eq_add, Nat.add_eq_left, List.drop_zero, List.drop_succ_cons, List.take_succ_cons, List.take_zero, List.drop_nil, opBox, Value.cells, opStore, setCells, List.length_append, Nat.reduceLeDiff, Nat.add_zero, Nat.add_assoc, Nat.add_right_cancel_iff, List.cons_append, List.nil_append, Array.toList, Option.isNone_none, Option.isNone_some, ne_eq, not_true_eq_false, not_false_eq_true, bin_cteq, bldT, bldA, bldV, no_ints, one_int, no_bytes, one_ans, wk0, fxC21CollateSplit]
  refine awake_ret fun m1 x1 => ?_
  have hmod : hw.tmod 3 = hw % 3 := Int.tmod_eq_emod_of_nonneg hhw.1
  obtain ⟨how, hhow⟩ : ∃ how, how = hw % 3 := ⟨_, rfl⟩
  have hh : how = 0 ∨ how = 1 ∨ how = 2 := by omega
  rw [← hhow] at hmod
  simp only [evOp, evParts, okVal, ev1, evs, evOpt, envOf, List.lookup_nil, List.size_toArray, List.length_cons, List.length_nil, List.range, List.range.loop, Nat.zero_add, Nat.reduceAdd, Bool.not_false, Bool.not_true, Bool.true_or, if_true, if_false, reduceIte, Nat.reduceEqDiff, reduceCtorEq, List.getElem?_toArray, List.getElem?_cons_zero, List.getElem?_cons_succ, guardOf, constOk, constCell, evBuiltin, opLen, List.head?_cons, foldV, min2V, max2V, Int.reduceLT, Int.reduceEq, Kend, resOf, Bool.false_eq_true, Bool.true_eq_false, IntKind.signed, IntKind.max, opConvert, opIndexAddr, opLoad, aggOf, Option.some.injEq, Value.bool.injEq, exists_eq_left', true_and, forall_const, decide_eq_true_eq, decide_eq_false_iff_not, Int.natCast_nonneg, and_self, Int.toNat_natCast, Nat.mul_one, List.append_nil, beq_self_eq_true, Nat.lt_irrefl, Nat.zero_lt_succ, Nat.reduceLT, Option.bind_some, new_get_if, new_next, set_get_if, set_next, decide_true, decide_false, beq_tt, beq_tf, beq_ft, beq_ff, undef, Nat.left_eq_add, Nat.add_eq_left, List.drop_zero, List.drop_succ_cons, List.take_succ_cons, List.take_zero, List.drop_nil, opBox, Value.cells, opStore, setCells, List.length_append, Nat.reduceLeDiff, Nat.add_zero, Nat.add_assoc, Nat.add_right_cancel_iff, List.cons_append, List.nil_append, Array.toList, Option.isNone_none, Option.isNone_some, ne_eq, not_true_eq_false, not_false_eq_true, bin_cteq, bldT, bldA, bldV, no_ints, one_int, no_bytes, one_ans, wk0, fxC21CollateSplit, hmod]
  clear hhow x1
  refine mem_ret fun m2 w r x2 o2 hr => ?_
  obtain ⟨M, hM⟩ : ∃ M, M = memL mb := ⟨_, rfl⟩
  have hvc := memL_ok mb 2 (by decide)
  have hnd := memL_nodup mb
  have hlen := memL_len mb
  rw [← hM] at hvc hnd hlen o2
  clear hM
  obtain ⟨wa, wq, rfl⟩ := o2.is
  have lw := o2.len (P := Try.prog) Try.underlying28
  simp only [evOp, evParts, okVal, ev1, evs, evOpt, envOf, List.lookup_nil, List.size_toArray, List.length_cons, List.length_nil, List.range, List.range.loop, Nat.zero_add, Nat.reduceAdd, Bool.not_false, Bool.not_true, Bool.true_or, if_true, if_false, reduceIte, Nat.reduceEqDiff, reduceCtorEq, List.getElem?_toArray, List.getElem?_cons_zero, List.getElem?_cons_succ, guardOf, constOk, constCell, evBuiltin, opLen, List.head?_cons, foldV, min2V, max2V, Int.reduceLT, Int.reduceEq, Kend, resOf, Bool.false_eq_true, Bool.true_eq_false, IntKind.signed, IntKind.max, opConvert, opIndexAddr, opLoad, aggOf, Option.some.injEq, Value.bool.injEq, exists_eq_left', true_and, forall_const, decide_eq_true_eq, decide_eq_false_iff_not, Int.natCast_nonneg, and_self, Int.toNat_natCast, Nat.mul_one, List.append_nil, beq_self_eq_true, Nat.lt_irrefl, Nat.zero_lt_succ, Nat.reduceLT, Option.bind_some, new_get_if, new_next, set_get_if, set_next, decide_true, decide_false, beq_tt, beq_tf, beq_ft, beq_ff, undef, Nat.left_eq_add, Nat.add_eq_left, List.drop_zero, List.drop_succ_cons, List.take_succ_cons, List.take_zero, List.drop_nil, opBox, Value.cells, opStore, setCells, List.length_append, Nat.reduceLeDiff, Nat.add_zero, Nat.add_assoc, Nat.add_right_cancel_iff, List.cons_append, List.nil_append, Array.toList, Option.isNone_none, Option.isNone_some, ne_eq, not_true_eq_false, not_false_eq_true, bin_cteq, bldT, bldA, bldV, no_ints, one_int, no_bytes, one_ans, wk0, fxC21CollateSplit]
  obtain ⟨m3, hm3⟩ : ∃ m3, m3 = (m2.new (.cells [.int .i64 0, .slice none 0 0] 31 true)).set m2.next (.cells [.int .i64 2, .slice wa M.length wq] 31 true) := ⟨_, rfl⟩
  have x3 : Ext m2 m3 := by rw [hm3]; exact (Ext.new _ _).set (Nat.le_refl _)
  have g3 : m3.get m2.next = some (.cells [.int .i64 2, .slice wa M.length wq] 31 true) := by rw [hm3]; exact set_get _ _ _
  have n3 : m3.next = m2.next + 1 := by rw [hm3]; rfl
  rw [← hm3]
  clear hm3
  obtain ⟨m4, z4, f4, n4, k4⟩ := (o2.ext x3).frz
  refine Ret.thaw z4 ?_
  have hr2 : r < m2.next := (o2.row (by omega)).1
  have gV4 := (k4 m2.next (by omega)).trans g3
  obtain ⟨iv, hiv⟩ : ∃ iv, iv = m2.next := ⟨_, rfl⟩
  have hiv4 : iv < m4.next := by omega
  rw [← hiv] at gV4 ⊢
  clear hiv z4 k4 g3 x3 o2 hr hr2 x2 n3 n4
  refine cnew_ret fun m5 H5 x5 => ?_
  have gV5 := (x5.2 iv hiv4).trans gV4
  have f5 := f4.pz x5.pz
  have hk4 : m4.next ≤ m5.next := x5.1
  obtain ⟨k, hk⟩ : ∃ k, k = m4.next := ⟨_, rfl⟩
  rw [← hk] at H5 hiv4 hk4 ⊢
  clear hk gV4 f4 x5
  simp only [evOp, evParts, okVal, ev1, evs, evOpt, envOf, List.lookup_nil, List.size_toArray, List.length_cons, List.length_nil, List.range, List.range.loop, Nat.zero_add, Nat.reduceAdd, Bool.not_false, Bool.not_true, Bool.true_or, if_true, if_false, reduceIte, Nat.reduceEqDiff, reduceCtorEq, List.getElem?_toArray, List.getElem?_cons_zero, List.getElem?_cons_succ, guardOf, constOk, constCell, evBuiltin, List.head?_cons, foldV, min2V, max2V, Int.reduceLT, Int.reduceEq, Kend, resOf, Bool.false_eq_true, Bool.true_eq_false, IntKind.signed, IntKind.max, opConvert, opIndexAddr, opLoad, aggOf, Option.some.injEq, Value.bool.injEq, exists_eq_left', true_and, forall_const, decide_eq_true_eq, decide_eq_false_iff_not, Int.natCast_nonneg, and_self, Int.toNat_natCast, Nat.mul_one, List.append_nil, beq_self_eq_true, Nat.lt_irrefl, Nat.zero_lt_succ, Nat.reduceLT, Option.bind_some, new_get_if, new_next, set_get_if, set_next, decide_true, decide_false, beq_tt, beq_tf, beq_ft, beq_ff, undef, Nat.left_eq_add, Nat.add_eq_left, List.drop_zero, List.drop_succ_cons, List.take_succ_cons, List.take_zero, List.drop_nil, opBox, Value.cells, opStore, setCells, List.length_append, Nat.reduceLeDiff, Nat.add_zero, Nat.add_assoc, Nat.add_right_cancel_iff, List.cons_append, List.nil_append, Array.toList, Option.isNone_none, Option.isNone_some, ne_eq, not_true_eq_false, not_false_eq_true, bin_cteq, bldT, bldA, bldV, no_ints, one_int, no_bytes, one_ans, wk0, fxC21CollateSplit, gV5, lw]
  refine loop_wp [] (by kernel_rfl) (fun c env μ => ∃ i : Nat, c + i = M.length ∧ TcAt μ k k (spC how M tn.toNat i) ∧ Pz m5 μ ∧ (∀ j, j < k → μ.get j = m5.get j) ∧ env 2 = some (.int .u8 tn) ∧ env 7 = some (.int .u8 how) ∧ env 8 = some (.pointer (some ⟨iv, 0, none⟩)) ∧ env 9 = some (.pointer (some ⟨k, 0, none⟩)) ∧ env 10 = some (.int .i64 M.length) ∧ env 27 = some (.int .i64 M.length) ∧ env 28 = some (.int .i64 i)) ?_ M.length ⟨0, rfl, H5, Pz.refl m5, fun _ _ => rfl, rfl, rfl, rfl, rfl, rfl, rfl, rfl⟩
  rintro c env μ ⟨i, hci, Hμ, zμ, fμ, e2, e7, e8, e9, e10, e27, e28⟩
  simp only [evOp, evParts, okVal, ev1, evs, evOpt, envOf, List.lookup_nil, List.size_toArray, List.length_cons, List.length_nil, List.range, List.range.loop, Nat.zero_add, Nat.reduceAdd, Bool.not_false, Bool.not_true, Bool.true_or, if_true, if_false, reduceIte, Nat.reduceEqDiff, reduceCtorEq, List.getElem?_toArray, List.getElem?_cons_zero, List.getElem?_cons_succ, guardOf, constOk, constCell, evBuiltin, opLen, List.head?_cons, foldV, min2V, max2V, Int.reduceLT, Int.reduceEq, Kend, resOf, Bool.false_eq_true, Bool.true_eq_false, IntKind.signed, IntKind.max, opConvert, opIndexAddr, opLoad, aggOf, Option.some.injEq, Value.bool.injEq, exists_eq_left', true_and, forall_const, decide_eq_true_eq, decide_eq_false_iff_not, Int.natCast_nonneg, and_self, Int.toNat_natCast, Nat.mul_one, List.append_nil, beq_self_eq_true, Nat.lt_irrefl, Nat.zero_lt_succ, Nat.reduceLT, Option.bind_some, new_get_if, new_next, set_get_if, set_next, decide_true, decide_false, beq_tt, beq_tf, beq_ft, beq_ff, undef, Nat.left_eq_add, Nat.add_eq_left, List.drop_zero, List.drop_succ_cons, List.take_succ_cons, List.take_zero, List.drop_nil, opBox, Value.cells, opStore, setCells, List.length_append, Nat.reduceLeDiff, Nat.add_zero, Nat.add_assoc, Nat.add_right_cancel_iff, List.cons_append, List.nil_append, Array.toList, Option.isNone_none, Option.isNone_some, ne_eq, not_true_eq_false, not_false_eq_true, bin_cteq, bldT, bldA, bldV, no_ints, one_int, no_bytes, one_ans, wk0, fxC21CollateSplit, e27, e28]
  refine cond_by (fun hlt => ?_) (fun hge => ?_)
  · have hi : i < M.length := by omega
    have hkμ : k < μ.next := by obtain ⟨_, _, _, _, _, _, H⟩ := Hμ; exact H.li.2
    have gV := (fμ iv hiv4).trans gV5
    have u1 : IntKind.i64.wrap tn = tn := wrap_i64 (by omega) (by omega)
    have u2 : IntKind.i64.wrap ((i : Int) + tn) = ((i + tn.toNat : Nat) : Int) := by rw [wrap_i64 (by omega) (by omega)]; omega
    have u3 : ¬ ((M.length : Int) = 0) := by omega
    have u4 : Int.tmod ((i + tn.toNat : Nat) : Int) (M.length : Int) = (((i + tn.toNat) % M.length : Nat) : Int) := by
      rw [Int.tmod_eq_emod_of_nonneg (by omega)]; simp
    have hp := Nat.mod_lt (i + tn.toNat) (show 0 < M.length by omega)
    obtain ⟨pi, po, hpi, ix, ld⟩ := frow_at f5 zμ hp
    have ld0 := ld μ zμ
    have lV0 : opLoad Try.prog 28 (.pointer (some ⟨iv, 1, none⟩)) μ = some (.slice wa M.length wq) := load_cell gV (by simp only [aggOf, Try.underlying28]) rfl
    have l310 : opLoad Try.prog 31 (.pointer (some ⟨iv, 0, none⟩)) μ = some (viewV 2 (.slice wa M.length wq)) := by
      simp only [opLoad, gV, aggOf, Try.underlying31, ts31]; rfl
    simp only [evOp, evParts, okVal, ev1, evs, evOpt, envOf, List.lookup_nil, List.size_toArray, List.length_cons, List.length_nil, List.range, List.range.loop, Nat.zero_add, Nat.reduceAdd, Bool.not_false, Bool.not_true, Bool.true_or, if_true, if_false, reduceIte, Nat.reduceEqDiff, reduceCtorEq, List.getElem?_toArray, List.getElem?_cons_zero, List.getElem?_cons_succ, guardOf, constOk, constCell, evBuiltin, opLen, List.head?_cons, foldV, min2V, max2V, Int.reduceLT, Int.reduceEq, Kend, resOf, Bool.false_eq_true, Bool.true_eq_false, IntKind.signed, IntKind.max, opConvert, aggOf, Option.some.injEq, Value.bool.injEq, exists_eq_left', true_and, forall_const, decide_eq_true_eq, decide_eq_false_iff_not, Int.natCast_nonneg, and_self, Int.toNat_natCast, Nat.mul_one, List.append_nil, beq_self_eq_true, Nat.lt_irrefl, Nat.zero_lt_succ, Nat.reduceLT, Option.bind_some, new_get_if, new_next, set_get_if, set_next, decide_true, decide_false, beq_tt, beq_tf, beq_ft, beq_ff, undef, Nat.left_eq_add, Nat.add_eq_left, List.drop_zero, List.drop_succ_cons, List.take_succ_cons, List.take_zero, List.drop_nil, opBox, Value.cells, opStore, setCells, List.length_append, Nat.reduceLeDiff, Nat.add_zero, Nat.add_assoc, Nat.add_right_cancel_iff, List.cons_append, List.nil_append, Array.toList, Option.isNone_none, Option.isNone_some, ne_eq, not_true_eq_false, not_false_eq_true, bin_cteq, bldT, bldA, bldV, no_ints, one_int, no_bytes, one_ans, wk0, fxC21CollateSplit, e2, e7, e8, e9, e10, e27, e28, lV0, l310, ld0, u1, u2, u3, u4, ix, bldK]
    have hki := spC_ok (how := how) (t := tn.toNat) hvc hnd hi
    have hnl : (spC how M tn.toNat i).nodes.length = i := rot_length _ _ _
    have hml : (spC how M tn.toNat i).mem.length ≤ 16 := by
      show (if i = 0 then ([] : List Int) else M).length ≤ 16
      split
      · simp
      · omega
    refine cput_ret (l := M) (a := anK i) Hμ (f5.pz zμ) FRow.nil (by omega) (by rw [hnl]; omega) (by omega) (by show 0 < 2 ^ 46; decide) (fun m7 _ hb => by rw [hki] at hb; cases hb) fun m7 H7 z67 f7 _ _ => ?_
    rw [spC_put] at H7
    have z7 := zμ.trans z67
    have f7' : ∀ j, j < k → m7.get j = m5.get j := fun j hj => by rw [f7 j hj, fμ j hj]
    simp only [evOp, evParts, okVal, ev1, evs, evOpt, envOf, List.lookup_nil, List.size_toArray, List.length_cons, List.length_nil, List.range, List.range.loop, Nat.zero_add, Nat.reduceAdd, Bool.not_false, Bool.not_true, Bool.true_or, if_true, if_false, reduceIte, Nat.reduceEqDiff, reduceCtorEq, List.getElem?_toArray, List.getElem?_cons_zero, List.getElem?_cons_succ, guardOf, constOk, constCell, evBuiltin, opLen, List.head?_cons, foldV, min2V, max2V, Int.reduceLT, Int.reduceEq, Kend, resOf, Bool.false_eq_true, Bool.true_eq_false, IntKind.signed, IntKind.max, opConvert, opIndexAddr, opLoad, aggOf, Option.some.injEq, Value.bool.injEq, exists_eq_left', true_and, forall_const, decide_eq_true_eq, decide_eq_false_iff_not, Int.natCast_nonneg, and_self, Int.toNat_natCast, Nat.mul_one, List.append_nil, beq_self_eq_true, Nat.lt_irrefl, Nat.zero_lt_succ, Nat.reduceLT, Option.bind_some, new_get_if, new_next, set_get_if, set_next, decide_true, decide_false, beq_tt, beq_tf, beq_ft, beq_ff, undef, Nat.left_eq_add, Nat.add_eq_left, List.drop_zero, List.drop_succ_cons, List.take_succ_cons, List.take_zero, List.drop_nil, opBox, Value.cells, opStore, setCells, List.length_append, Nat.reduceLeDiff, Nat.add_zero, Nat.add_assoc, Nat.add_right_cancel_iff, List.cons_append, List.nil_append, Array.toList, Option.isNone_none, Option.isNone_some, ne_eq, not_true_eq_false, not_false_eq_true, bin_cteq, bldT, bldA, bldV, no_ints, one_int, no_bytes, one_ans, wk0, fxC21CollateSplit, e2, e7, e8, e9, e10, e27, e28]
    have hnl1 : (spC how M tn.toNat (i + 1)).nodes.length = i + 1 := rot_length _ _ _
    have hml1 : (spC how M tn.toNat (i + 1)).mem = M := rfl
    refine result_ret H7 (by rw [hnl1]; omega) (by rw [hml1]; omega) (fun b hb => by
      simp only [spC, ansS, List.mem_map] at hb
      obtain ⟨k, _, rfl⟩ := hb
      show 0 < 2 ^ 46
      decide) fun m8 w8 r8 x8 o8 hr8 => ?_
    rw [spC_res hh hnd hi] at o8 ⊢
    have next : ∀ N, Ext m7 N → ∃ j, j < c ∧ ∃ i', j + i' = M.length ∧ TcAt N k k (spC how M tn.toNat i') ∧ Pz m5 N ∧ (∀ j, j < k → N.get j = m5.get j) ∧ Value.int IntKind.i64 (IntKind.i64.wrap ((i : Int) + 1)) = Value.int IntKind.i64 (i' : Int) := fun N y => ⟨c - 1, by omega, i + 1, by omega, H7.ext y, z7.trans y.pz, fun j hj => by
      have hk7 : k < m7.next := by obtain ⟨_, _, _, _, _, _, H⟩ := H7; exact H.li.2
      rw [y.2 j (by omega), f7' j hj], by rw [wrap_i64 (by omega) (by omega)]; rfl⟩
    have w1 : IntKind.i64.wrap ((M.length : Int) - 1) = ((M.length - 1 : Nat) : Int) := by rw [wrap_i64 (by omega) (by omega)]; omega
    have hML : decide ((M.length : Int) = 1) = decide (M.length = 1) := by
      rw [Bool.eq_iff_iff, decide_eq_true_eq, decide_eq_true_eq]; omega
    have d3 : decide ((i : Int) < ((M.length - 1 : Nat) : Int)) = !decide (i + 1 = M.length) := by
      by_cases h : i + 1 = M.length
      · rw [decide_eq_true h, decide_eq_false (by omega)]; rfl
      · rw [decide_eq_false h, decide_eq_true (by omega)]; rfl
    have d4 : decide ((i : Int) = ((M.length - 1 : Nat) : Int)) = decide (i + 1 = M.length) := by
      rw [Bool.eq_iff_iff, decide_eq_true_eq, decide_eq_true_eq]; omega
    have d0 : decide (how = 0) = true ∨ decide (how = 0) = false := by cases decide (how = 0) <;> simp
    have fin : ∀ (e : Int) (wb : Option Addr) (wz : Nat) (n : Nat), ∃ m9, opStore Try.prog 37 (.pointer (some ⟨m8.next, 0, none⟩)) (ansV e 0 (.slice wb n wz)) (m8.new (.cells [.int .i64 0, .int .i64 0, .slice none 0 0] 37 true)) = some m9 ∧ Ext m7 m9 ∧ m9.get m8.next = some (.cells [.int .i64 e, .int .i64 0, .slice wb n wz] 37 true) := fun e wb wz n => ⟨_, st_ans m8 e 0 _ rfl, x8.trans ((Ext.new _ _).set (Nat.le_refl _)), set_get _ _ _⟩
    cases hF : firstB how M with
    | true =>
      rw [hF, if_pos rfl] at o8
      simp only [if_true]
      obtain ⟨wb, wz, rfl⟩ := o8.is
      obtain ⟨m9, st9, x9, g9⟩ := fin 0 wb wz 0
      have hF' : (decide (how = 0) || decide (M.length = 1)) = true := hF
      rcases d0 with d0 | d0
      · simp only [evOp, evParts, okVal, ev1, evs, evOpt, envOf, List.lookup_nil, List.size_toArray, List.length_cons, List.length_nil, List.range, List.range.loop, Nat.zero_add, Nat.reduceAdd, Bool.not_false, Bool.not_true, Bool.true_or, if_true, if_false, reduceIte, Nat.reduceEqDiff, reduceCtorEq, List.getElem?_toArray, List.getElem?_cons_zero, List.getElem?_cons_succ, guardOf, constOk, constCell, evBuiltin, opLen, List.head?_cons, foldV, min2V, max2V, Int.reduceLT, Int.reduceEq, Kend, resOf, Bool.false_eq_true, Bool.true_eq_false, IntKind.signed, IntKind.max, opConvert, opIndexAddr, opLoad, aggOf, Option.some.injEq, Value.bool.injEq, exists_eq_left', true_and, forall_const, decide_eq_true_eq, decide_eq_false_iff_not, Int.natCast_nonneg, and_self, Int.toNat_natCast, Nat.mul_one, List.append_nil, beq_self_eq_true, Nat.lt_irrefl, Nat.zero_lt_succ, Nat.reduceLT, Option.bind_some, new_get_if, new_next, set_get_if, set_next, decide_true, decide_false, beq_tt, beq_tf, beq_ft, beq_ff, undef, Nat.left_eq_add, Nat.add_eq_left, List.drop_zero, List.drop_succ_cons, List.take_succ_cons, List.take_zero, List.drop_nil, opBox, Value.cells, setCells, List.length_append, Nat.reduceLeDiff, Nat.add_zero, Nat.add_assoc, Nat.add_right_cancel_iff, List.cons_append, List.nil_append, Array.toList, Option.isNone_none, Option.isNone_some, ne_eq, not_true_eq_false, not_false_eq_true, bin_cteq, bldT, bldA, bldV, no_ints, one_int, no_bytes, one_ans, wk0, fxC21CollateSplit, e2, e7, e8, e9, e10, e27, e28, st9, d0, g9, w1, d3, d4, Int.reduceEq]
        exact next m9 x9
      · rw [d0, Bool.false_or] at hF'
        simp only [evOp, evParts, okVal, ev1, evs, evOpt, envOf, List.lookup_nil, List.size_toArray, List.length_cons, List.length_nil, List.range, List.range.loop, Nat.zero_add, Nat.reduceAdd, Bool.not_false, Bool.not_true, Bool.true_or, if_true, if_false, reduceIte, Nat.reduceEqDiff, reduceCtorEq, List.getElem?_toArray, List.getElem?_cons_zero, List.getElem?_cons_succ, guardOf, constOk, constCell, evBuiltin, opLen, List.head?_cons, foldV, min2V, max2V, Int.reduceLT, Int.reduceEq, Kend, resOf, Bool.false_eq_true, Bool.true_eq_false, IntKind.signed, IntKind.max, opConvert, opIndexAddr, opLoad, aggOf, Option.some.injEq, Value.bool.injEq, exists_eq_left', true_and, forall_const, decide_eq_true_eq, decide_eq_false_iff_not, Int.natCast_nonneg, and_self, Int.toNat_natCast, Nat.mul_one, List.append_nil, beq_self_eq_true, Nat.lt_irrefl, Nat.zero_lt_succ, Nat.reduceLT, Option.bind_some, new_get_if, new_next, set_get_if, set_next, decide_true, decide_false, beq_tt, beq_tf, beq_ft, beq_ff, undef, Nat.left_eq_add, Nat.add_eq_left, List.drop_zero, List.drop_succ_cons, List.take_succ_cons, List.take_zero, List.drop_nil, opBox, Value.cells, setCells, List.length_append, Nat.reduceLeDiff, Nat.add_zero, Nat.add_assoc, Nat.add_right_cancel_iff, List.cons_append, List.nil_append, Array.toList, Option.isNone_none, Option.isNone_some, ne_eq, not_true_eq_false, not_false_eq_true, bin_cteq, bldT, bldA, bldV, no_ints, one_int, no_bytes, one_ans, wk0, fxC21CollateSplit, e2, e7, e8, e9, e10, e27, e28, st9, d0, hML, hF', g9, w1, d3, d4, Int.reduceEq]
        exact next m9 x9
    | false =>
      rw [hF, if_neg (by decide)] at o8
      have hF' : (decide (how = 0) || decide (M.length = 1)) = false := hF
      have hF0 : decide (how = 0) = false := by revert hF'; cases decide (how = 0) <;> simp
      have hF1 : decide (M.length = 1) = false := by revert hF'; cases decide (M.length = 1) <;> simp
      simp only [Bool.false_eq_true, if_false]
      cases dl : decide (i + 1 = M.length) with
      | true =>
        rw [dl, if_pos rfl] at o8
        rw [dl] at d3 d4
        simp only [if_true]
        obtain ⟨wb, wz, rfl⟩ := o8.is
        obtain ⟨m9, st9, x9, g9⟩ := fin 19 wb wz 0
        simp only [evOp, evParts, okVal, ev1, evs, evOpt, envOf, List.lookup_nil, List.size_toArray, List.length_cons, List.length_nil, List.range, List.range.loop, Nat.zero_add, Nat.reduceAdd, Bool.not_false, Bool.not_true, Bool.true_or, if_true, if_false, reduceIte, Nat.reduceEqDiff, reduceCtorEq, List.getElem?_toArray, List.getElem?_cons_zero, List.getElem?_cons_succ, guardOf, constOk, constCell, evBuiltin, opLen, List.head?_cons, foldV, min2V, max2V, Int.reduceLT, Int.reduceEq, Kend, resOf, Bool.false_eq_true, Bool.true_eq_false, IntKind.signed, IntKind.max, opConvert, opIndexAddr, opLoad, aggOf, Option.some.injEq, Value.bool.injEq, exists_eq_left', true_and, forall_const, decide_eq_true_eq, decide_eq_false_iff_not, Int.natCast_nonneg, and_self, Int.toNat_natCast, Nat.mul_one, List.append_nil, beq_self_eq_true, Nat.lt_irrefl, Nat.zero_lt_succ, Nat.reduceLT, Option.bind_some, new_get_if, new_next, set_get_if, set_next, decide_true, decide_false, beq_tt, beq_tf, beq_ft, beq_ff, undef, Nat.left_eq_add, Nat.add_eq_left, List.drop_zero, List.drop_succ_cons, List.take_succ_cons, List.take_zero, List.drop_nil, opBox, Value.cells, setCells, List.length_append, Nat.reduceLeDiff, Nat.add_zero, Nat.add_assoc, Nat.add_right_cancel_iff, List.cons_append, List.nil_append, Array.toList, Option.isNone_none, Option.isNone_some, ne_eq, not_true_eq_false, not_false_eq_true, bin_cteq, bldT, bldA, bldV, no_ints, one_int, no_bytes, one_ans, wk0, fxC21CollateSplit, e2, e7, e8, e9, e10, e27, e28, st9, hF0, hML, hF1, g9, w1, d3, d4, Int.reduceEq]
        exact next m9 x9
      | false =>
        rw [dl, if_neg (by decide)] at o8
        rw [dl] at d3 d4
        simp only [Bool.false_eq_true, if_false]
        obtain ⟨wb, wz, rfl⟩ := o8.is
        obtain ⟨m9, st9, x9, g9⟩ := fin 0 wb wz 0
        simp only [evOp, evParts, okVal, ev1, evs, evOpt, envOf, List.lookup_nil, List.size_toArray, List.length_cons, List.length_nil, List.range, List.range.loop, Nat.zero_add, Nat.reduceAdd, Bool.not_false, Bool.not_true, Bool.true_or, if_true, if_false, reduceIte, Nat.reduceEqDiff, reduceCtorEq, List.getElem?_toArray, List.getElem?_cons_zero, List.getElem?_cons_succ, guardOf, constOk, constCell, evBuiltin, opLen, List.head?_cons, foldV, min2V, max2V, Int.reduceLT, Int.reduceEq, Kend, resOf, Bool.false_eq_true, Bool.true_eq_false, IntKind.signed, IntKind.max, opConvert, opIndexAddr, opLoad, aggOf, Option.some.injEq, Value.bool.injEq, exists_eq_left', true_and, forall_const, decide_eq_true_eq, decide_eq_false_iff_not, Int.natCast_nonneg, and_self, Int.toNat_natCast, Nat.mul_one, List.append_nil, beq_self_eq_true, Nat.lt_irrefl, Nat.zero_lt_succ, Nat.reduceLT, Option.bind_some, new_get_if, new_next, set_get_if, set_next, decide_true, decide_false, beq_tt, beq_tf, beq_ft, beq_ff, undef, Nat.left_eq_add, Nat.add_eq_left, List.drop_zero, List.drop_succ_cons, List.take_succ_cons, List.take_zero, List.drop_nil, opBox, Value.cells, setCells, List.length_append, Nat.reduceLeDiff, Nat.add_zero, Nat.add_assoc, Nat.add_right_cancel_iff, List.cons_append, List.nil_append, Array.toList, Option.isNone_none, Option.isNone_some, ne_eq, not_true_eq_false, not_false_eq_true, bin_cteq, bldT, bldA, bldV, no_ints, one_int, no_bytes, one_ans, wk0, fxC21CollateSplit, e2, e7, e8, e9, e10, e27, e28, st9, hF0, hML, hF1, g9, w1, d3, d4, Int.reduceEq]
        exact next m9 x9
  · have hi : i = M.length := by omega
    simp only [evOp, evParts, okVal, ev1, evs, evOpt, envOf, List.lookup_nil, List.size_toArray, List.length_cons, List.length_nil, List.range, List.range.loop, Nat.zero_add, Nat.reduceAdd, Bool.not_false, Bool.not_true, Bool.true_or, if_true, if_false, reduceIte, Nat.reduceEqDiff, reduceCtorEq, List.getElem?_toArray, List.getElem?_cons_zero, List.getElem?_cons_succ, guardOf, constOk, constCell, evBuiltin, opLen, List.head?_cons, foldV, min2V, max2V, Int.reduceLT, Int.reduceEq, Kend, resOf, Bool.false_eq_true, Bool.true_eq_false, IntKind.signed, IntKind.max, opConvert, opIndexAddr, opLoad, aggOf, Option.some.injEq, Value.bool.injEq, exists_eq_left', true_and, forall_const, decide_eq_true_eq, decide_eq_false_iff_not, Int.natCast_nonneg, and_self, Int.toNat_natCast, Nat.mul_one, List.append_nil, beq_self_eq_true, Nat.lt_irrefl, Nat.zero_lt_succ, Nat.reduceLT, Option.bind_some, new_get_if, new_next, set_get_if, set_next, decide_true, decide_false, beq_tt, beq_tf, beq_ft, beq_ff, undef, Nat.left_eq_add, Nat.add_eq_left, List.drop_zero, List.drop_succ_cons, List.take_succ_cons, List.take_zero, List.drop_nil, opBox, Value.cells, opStore, setCells, List.length_append, Nat.reduceLeDiff, Nat.add_zero, Nat.add_assoc, Nat.add_right_cancel_iff, List.cons_append, List.nil_append, Array.toList, Option.isNone_none, Option.isNone_some, ne_eq, not_true_eq_false, not_false_eq_true, bin_cteq, bldT, bldA, bldV, no_ints, one_int, no_bytes, one_ans, wk0, fxC21CollateSplit, e9, e10, e27, e28]
    refine many_ret Hμ ?_
    have hnl : (spC how M tn.toNat i).nodes.length = i := rot_length _ _ _
    rw [hnl, hi]
    simp only [evOp, evParts, okVal, ev1, evs, evOpt, envOf, List.lookup_nil, List.size_toArray, List.length_cons, List.length_nil, List.range, List.range.loop, Nat.zero_add, Nat.reduceAdd, Bool.not_false, Bool.not_true, Bool.true_or, if_true, if_false, reduceIte, Nat.reduceEqDiff, reduceCtorEq, List.getElem?_toArray, List.getElem?_cons_zero, List.getElem?_cons_succ, guardOf, constOk, constCell, evBuiltin, opLen, List.head?_cons, foldV, min2V, max2V, Int.reduceLT, Int.reduceEq, Kend, resOf, Bool.false_eq_true, Bool.true_eq_false, IntKind.signed, IntKind.max, opConvert, opIndexAddr, opLoad, aggOf, Option.some.injEq, Value.bool.injEq, exists_eq_left', true_and, forall_const, decide_eq_true_eq, decide_eq_false_iff_not, Int.natCast_nonneg, and_self, Int.toNat_natCast, Nat.mul_one, List.append_nil, beq_self_eq_true, Nat.lt_irrefl, Nat.zero_lt_succ, Nat.reduceLT, Option.bind_some, new_get_if, new_next, set_get_if, set_next, decide_true, decide_false, beq_tt, beq_tf, beq_ft, beq_ff, undef, Nat.left_eq_add, Nat.add_eq_left, List.drop_zero, List.drop_succ_cons, List.take_succ_cons, List.take_zero, List.drop_nil, opBox, Value.cells, opStore, setCells, List.length_append, Nat.reduceLeDiff, Nat.add_zero, Nat.add_assoc, Nat.add_right_cancel_iff, List.cons_append, List.nil_append, Array.toList, Option.isNone_none, Option.isNone_some, ne_eq, not_true_eq_false, not_false_eq_true, bin_cteq, bldT, bldA, bldV, no_ints, one_int, no_bytes, one_ans, wk0, fxC21CollateSplit, e9, e10]
theorem collateSplit_true {H : Type} {m : Mem} {xs : List Value} {ds : List (DataW H)} (hd : IsDs Try.prog 8 [5, 22, 5] ds) (hl : LieAll Try.prog m [5, 22, 5] ds xs) : Ret Try.prog 6 xs m fun v _ => v = .bool true := by
  obtain ⟨d0, dr, rfl, i0, hd⟩ := isDs_cons hd
  obtain ⟨d1, dr, rfl, i1, hd⟩ := isDs_cons hd
  obtain ⟨d2, dr, rfl, i2, hd⟩ := isDs_cons hd
  obtain rfl := isDs_nil hd
  obtain ⟨v0, _, rfl, l0, v1, _, rfl, l1, v2, _, rfl, l2, rfl⟩ := hl
  obtain ⟨a, rfl, w1⟩ := lies_int (k := 7) Try.underlying5 i0 l0
  obtain ⟨b, rfl, w2⟩ := lies_int (k := 7) Try.underlying22 i1 l1
  obtain ⟨c, rfl, w3⟩ := lies_int (k := 7) Try.underlying5 i2 l2
  exact collatesplit_ret (wf_u8 w1) (wf_u8 w3)
end Go.Proofs.Ythngclljebepkaa
