/- A text of the abstract machine. -/


/- What answers come to, said plainly; the example. -/
import Derived.Test.YthngclljebepkaaAmC21a
import Derived.Test.YthngclljebepkaaAmBun
set_option linter.unusedSimpArgs false
set_option linter.unusedVariables false
set_option maxRecDepth 100000
set_option maxHeartbeats 4000000
namespace Go.Proofs.Ythngclljebepkaa
open Go Go.AM Go.AM.Crc Go.AM.Wire
theorem fxC21b : type_of% (And.intro (And.intro (And.intro (And.intro (And.intro (And.intro @Try.underlying3 @Try.underlying4) (And.intro @Try.underlying5 (And.intro @Try.underlying9 @Try.underlying28))) (And.intro (And.intro @Try.underlying31 (And.intro @Try.underlying35 @Try.underlying49)) (And.intro @Try.underlying22 (And.intro @Try.underlying23 @Try.underlying37)))) (And.intro (And.intro (And.intro @Try.underlying56 @Try.underlying58) (And.intro @Try.underlying32 (And.intro @Try.underlying27 @Try.underlying25))) (And.intro (And.intro @ts3 (And.intro @ts4 @ts5)) (And.intro @ts9 (And.intro @ts28 @ts31))))) (And.intro (And.intro (And.intro (And.intro @ts35 @ts49) (And.intro @ts22 (And.intro @ts23 @ts37))) (And.intro (And.intro @ts56 (And.intro @ts58 @ts32)) (And.intro @ts27 (And.intro @ts25 @tz3)))) (And.intro (And.intro (And.intro @tz4 (And.intro @tz5 @tz9)) (And.intro @tz28 (And.intro @tz31 @tz35))) (And.intro (And.intro @tz49 (And.intro @tz22 @tz23)) (And.intro @tz37 (And.intro @tz56 @tz58)))))) (And.intro (And.intro (And.intro (And.intro (And.intro @tz32 @tz27) (And.intro @tz25 (And.intro @tb3 @tb4))) (And.intro (And.intro @tb5 (And.intro @tb9 @tb28)) (And.intro @tb31 (And.intro @tb35 @tb49)))) (And.intro (And.intro (And.intro @tb22 (And.intro @tb23 @tb37)) (And.intro @tb56 (And.intro @tb58 @tb32))) (And.intro (And.intro @tb27 (And.intro @tb25 @fr7)) (And.intro @fr8 (And.intro @fr9 @fr10))))) (And.intro (And.intro (And.intro (And.intro @fr11 @fr12) (And.intro @fr13 (And.intro @fr14 @fr16))) (And.intro (And.intro @fr17 (And.intro @bz31 @al31)) (And.intro @fa31_0 (And.intro @fa31_1 @bz37)))) (And.intro (And.intro (And.intro @al37 (And.intro @bz58 @fa37_0)) (And.intro @fa37_1 (And.intro @fa37_2 @fa58_0))) (And.intro (And.intro @fa58_1 (And.intro @fa58_2 @fa58_3)) (And.intro @fa25_0 (And.intro @fa25_1 @fa25_2))))))) := (And.intro (And.intro (And.intro (And.intro (And.intro (And.intro @Try.underlying3 @Try.underlying4) (And.intro @Try.underlying5 (And.intro @Try.underlying9 @Try.underlying28))) (And.intro (And.intro @Try.underlying31 (And.intro @Try.underlying35 @Try.underlying49)) (And.intro @Try.underlying22 (And.intro @Try.underlying23 @Try.underlying37)))) (And.intro (And.intro (And.intro @Try.underlying56 @Try.underlying58) (And.intro @Try.underlying32 (And.intro @Try.underlying27 @Try.underlying25))) (And.intro (And.intro @ts3 (And.intro @ts4 @ts5)) (And.intro @ts9 (And.intro @ts28 @ts31))))) (And.intro (And.intro (And.intro (And.intro @ts35 @ts49) (And.intro @ts22 (And.intro @ts23 @ts37))) (And.intro (And.intro @ts56 (And.intro @ts58 @ts32)) (And.intro @ts27 (And.intro @ts25 @tz3)))) (And.intro (And.intro (And.intro @tz4 (And.intro @tz5 @tz9)) (And.intro @tz28 (And.intro @tz31 @tz35))) (And.intro (And.intro @tz49 (And.intro @tz22 @tz23)) (And.intro @tz37 (And.intro @tz56 @tz58)))))) (And.intro (And.intro (And.intro (And.intro (And.intro @tz32 @tz27) (And.intro @tz25 (And.intro @tb3 @tb4))) (And.intro (And.intro @tb5 (And.intro @tb9 @tb28)) (And.intro @tb31 (And.intro @tb35 @tb49)))) (And.intro (And.intro (And.intro @tb22 (And.intro @tb23 @tb37)) (And.intro @tb56 (And.intro @tb58 @tb32))) (And.intro (And.intro @tb27 (And.intro @tb25 @fr7)) (And.intro @fr8 (And.intro @fr9 @fr10))))) (And.intro (And.intro (And.intro (And.intro @fr11 @fr12) (And.intro @fr13 (And.intro @fr14 @fr16))) (And.intro (And.intro @fr17 (And.intro @bz31 @al31)) (And.intro @fa31_0 (And.intro @fa31_1 @bz37)))) (And.intro (And.intro (And.intro @al37 (And.intro @bz58 @fa37_0)) (And.intro @fa37_1 (And.intro @fa37_2 @fa58_0))) (And.intro (And.intro @fa58_1 (And.intro @fa58_2 @fa58_3)) (And.intro @fa25_0 (And.intro @fa25_1 @fa25_2)))))))
def rot (M : List Int) (t i : Nat) : List Int := (List.range i).map fun j => M.getD ((j + t) % M.length) 0
theorem rot_length (M : List Int) (t i : Nat) : (rot M t i).length = i := by simp [rot]
theorem rot_succ (M : List Int) (t i : Nat) : rot M t (i + 1) = rot M t i ++ [M.getD ((i + t) % M.length) 0] := by simp [rot, List.range_succ]
theorem getD_mem {M : List Int} {j : Nat} (hj : j < M.length) : M.getD j 0 ∈ M := by
  rw [getD_at hj]; exact List.getElem_mem _
theorem rot_mem {M : List Int} (hM : 1 ≤ M.length) (t i : Nat) : ∀ x ∈ rot M t i, x ∈ M := by
  intro x hx
  simp only [rot, List.mem_map] at hx
  obtain ⟨j, _, rfl⟩ := hx
  exact getD_mem (Nat.mod_lt _ (by omega))
theorem mod_ne {n t i j : Nat} (hi : i < n) (hj : j < i) : (i + t) % n ≠ (j + t) % n := by
  intro h
  have h1 := Nat.div_add_mod (i + t) n
  have h2 := Nat.div_add_mod (j + t) n
  rw [h] at h1
  rcases Nat.lt_or_ge ((j + t) / n) ((i + t) / n) with h3 | h3
  · have := Nat.mul_le_mul_left n (Nat.succ_le_of_lt h3)
    rw [Nat.mul_succ] at this
    omega
  · have := Nat.mul_le_mul_left n h3
    omega
theorem nodup_inj {M : List Int} (h : M.Nodup) {p q : Nat} (hp : p < M.length) (hq : q < M.length) (e : M[p] = M[q]) : p = q := by
  have hh := List.pairwise_iff_getElem.1 h
  rcases Nat.lt_trichotomy p q with h1 | h1 | h1
  · exact (hh p q hp hq h1 e).elim
  · exact h1
  · exact (hh q p hq hp h1 e.symm).elim
theorem rot_new {M : List Int} (hn : M.Nodup) {t i : Nat} (hi : i < M.length) : M.getD ((i + t) % M.length) 0 ∉ rot M t i := by
  intro h
  simp only [rot, List.mem_map, List.mem_range] at h
  obtain ⟨j, hj, e⟩ := h
  have h1 := Nat.mod_lt (i + t) (show 0 < M.length by omega)
  have h2 := Nat.mod_lt (j + t) (show 0 < M.length by omega)
  rw [getD_at h1, getD_at h2] at e
  exact mod_ne (t := t) hi hj (nodup_inj hn h2 h1 e).symm
theorem rot_nodup {M : List Int} (hn : M.Nodup) {t : Nat} : ∀ {i : Nat}, i ≤ M.length → (rot M t i).Nodup
  | 0, _ => by simp [rot]
  | i + 1, h => by
    rw [rot_succ, List.nodup_append]
    refine ⟨rot_nodup hn (by omega), by simp, fun a ha b hb => ?_⟩
    rw [List.mem_singleton] at hb
    subst hb
    intro e
    subst e
    exact rot_new hn (by omega) ha
theorem manyIn_nodup {M l : List Int} (hM : M.Nodup) (hl : l.Nodup) (hs : ∀ x ∈ l, x ∈ M) : manyIn M l = l.length := by
  rw [manyIn, List.countP_eq_length_filter]
  refine List.Perm.length_eq ((List.perm_ext_iff_of_nodup (hM.sublist List.filter_sublist) hl).2 fun a => ?_)
  rw [List.mem_filter, decide_eq_true_eq]
  exact ⟨fun h => h.2, fun h => ⟨hs a h, h⟩⟩
theorem allIn_many (M l : List Int) : allIn M l = decide (manyIn M l = M.length) := by
  rw [Bool.eq_iff_iff, decide_eq_true_eq, manyIn, List.countP_eq_length, allIn, List.all_eq_true]
theorem alikeN_append {ans : List Ans} {nodes : List Int} {a b : Ans} {n : Int} (h : ans.length = nodes.length) : alikeN (ans ++ [b]) (nodes ++ [n]) a = alikeN ans nodes a ++ if alikeB a b then [n] else [] := by
  have hz : (ans ++ [b]).zip (nodes ++ [n]) = ans.zip nodes ++ [(b, n)] := by rw [List.zip_append h]; rfl
  simp only [alikeN, hz, List.filter_append, List.map_append]
  cases h : alikeB a b <;> simp [h]
theorem alikeB_self (a : Ans) : alikeB a a = true := by simp [alikeB]
theorem alikeN_rep (a : Ans) (M : List Int) (t : Nat) : ∀ i, alikeN (List.replicate i a) (rot M t i) a = rot M t i
  | 0 => rfl
  | i + 1 => by
    rw [rot_succ, List.replicate_succ', alikeN_append (by rw [List.length_replicate, rot_length]), alikeN_rep a M t i, alikeB_self]
    rfl
/-- The table when i nodes answered alike. -/
def alC (how : Int) (M : List Int) (t : Nat) (a : Ans) (i : Nat) : Tc := ⟨how, if i = 0 then 0 else 1, if i = 0 then [] else M, rot M t i, List.replicate i a⟩
theorem alC_put {how : Int} {M : List Int} {t i : Nat} {a : Ans} : putC (alC how M t a i) (M.getD ((i + t) % M.length) 0) 1 M a = alC how M t a (i + 1) := by
  simp only [putC, alC, rot_succ, List.replicate_succ', Nat.add_one_ne_zero, if_false]
theorem alC_ok {how : Int} {M : List Int} {t i : Nat} {a : Ans} (hv : viewCk 1 M = 0) (hn : M.Nodup) (hi : i < M.length) : putOk (alC how M t a i) (M.getD ((i + t) % M.length) 0) 1 M = true := by
  have h1 : M.getD ((i + t) % M.length) 0 ∈ M := getD_mem (Nat.mod_lt _ (by omega))
  have h2 := rot_new hn (t := t) hi
  show (decide (viewCk 1 M = 0) && (decide (M.getD ((i + t) % M.length) 0 ∈ M) && ((decide (rot M t i = []) || (decide ((1 : Int) = if i = 0 then 0 else 1) && decide (M = if i = 0 then [] else M))) && !decide (M.getD ((i + t) % M.length) 0 ∈ rot M t i)))) = true
  rw [decide_eq_true hv, decide_eq_true h1, decide_eq_false h2]
  by_cases h : i = 0
  · subst h; rfl
  · simp only [if_neg h, decide_true, Bool.and_self, Bool.or_true, Bool.not_false]
theorem alC_res {how : Int} {M : List Int} {t i : Nat} {a : Ans} (hh : how = 0 ∨ how = 1 ∨ how = 2) (hn : M.Nodup) (hi : i < M.length) :
    (resC (alC how M t a (i + 1))).2 = (decide (how = 0) || ((decide (how = 1) && decide (M.length < 2 * (i + 1))) || decide (i + 1 = M.length))) ∧ ((resC (alC how M t a (i + 1))).2 = true → (resC (alC how M t a (i + 1))).1 = a) := by
  have hm : manyIn M (rot M t (i + 1)) = i + 1 := by
    rw [manyIn_nodup hn (rot_nodup hn (by omega)) (rot_mem (by omega) _ _), rot_length]
  have ha : allIn M (rot M t (i + 1)) = decide (i + 1 = M.length) := by rw [allIn_many, hm]
  have hc : condC (alC how M t a (i + 1)) a = (decide (how = 0) || ((decide (how = 1) && decide (M.length < 2 * (i + 1))) || (decide (how = 2) && decide (i + 1 = M.length)))) := by
    have e : alikeN (List.replicate (i + 1) a) (rot M t (i + 1)) a = rot M t (i + 1) := alikeN_rep a M t (i + 1)
    simp only [condC, alC, Nat.add_one_ne_zero, if_false, e, hm, ha]
  have hne : rot M t (i + 1) ≠ [] := fun h => by
    have := congrArg List.length h
    rw [rot_length] at this
    simp at this
  have hf : (List.replicate (i + 1) a).find? (condC (alC how M t a (i + 1))) = if condC (alC how M t a (i + 1)) a = true then some a else none := by
    rw [List.find?_replicate]
    simp
  have er : resC (alC how M t a (i + 1)) = if condC (alC how M t a (i + 1)) a = true then (a, true) else if decide (i + 1 = M.length) then (⟨19, 0, []⟩, true) else (⟨0, 0, []⟩, false) := by
    have e1 : (alC how M t a (i + 1)).nodes = rot M t (i + 1) := rfl
    have e2 : (alC how M t a (i + 1)).ans = List.replicate (i + 1) a := rfl
    have e3 : (alC how M t a (i + 1)).mem = M := by simp [alC]
    rw [resC, e1, e2, e3, if_neg hne, hf, ha]
    cases hcc : condC (alC how M t a (i + 1)) a with
    | true => simp only [if_true]
    | false => simp only [Bool.false_eq_true, if_false]
  rw [er, hc]
  by_cases hl : i + 1 = M.length
  · have d1 : decide (i + 1 = M.length) = true := decide_eq_true hl
    have d2 : decide (M.length < 2 * (i + 1)) = true := decide_eq_true (by omega)
    rw [d1, d2]
    rcases hh with rfl | rfl | rfl <;> exact ⟨rfl, fun _ => rfl⟩
  · have d1 : decide (i + 1 = M.length) = false := decide_eq_false hl
    rw [d1]
    cases decide (M.length < 2 * (i + 1)) <;> (rcases hh with rfl | rfl | rfl <;> first | exact ⟨rfl, fun _ => rfl⟩ | exact ⟨rfl, fun h => by cases h⟩)

theorem awake_ret {m : Mem} {K : Value → Mem → Prop} (hK : ∀ m', Ext m m' → K (.bool true) m') : Ret Try.prog 7 [] m K := by
  refine ret_wp [] Try.func7 rfl (by decide) (by kernel_rfl) ?_
  simp only [evOp, evParts, okVal, ev1, evs, evOpt, envOf, List.lookup_nil, List.size_toArray, List.length_cons, List.length_nil, List.range, List.range.loop, Nat.zero_add, Nat.reduceAdd, Bool.not_false, Bool.not_true, Bool.true_or, if_true, if_false, reduceIte, Nat.reduceEqDiff, reduceCtorEq, List.getElem?_toArray, List.getElem?_cons_zero, List.getElem?_cons_succ, guardOf, constOk, constCell, evBuiltin, opLen, List.head?_cons, foldV, min2V, max2V, Int.reduceLT, Int.reduceEq, Kend, resOf, Bool.false_eq_true, Bool.true_eq_false, IntKind.signed, IntKind.max, opConvert, opIndexAddr, opLoad, aggOf, Option.some.injEq, Value.bool.injEq, exists_eq_left', true_and, forall_const, decide_eq_true_eq, decide_eq_false_iff_not, Int.natCast_nonneg, and_self, Int.toNat_natCast, Nat.mul_one, List.append_nil, beq_self_eq_true, Nat.lt_irrefl, Nat.zero_lt_succ, Nat.reduceLT, Option.bind_some, new_get_if, new_next, set_get_if, set_next, decide_true, decide_false, beq_tt, beq_tf, beq_ft, beq_ff, undef, Nat.left_eq_add, Nat.add_eq_left, List.drop_zero, List.drop_succ_cons, List.take_succ_cons, List.take_zero, List.drop_nil, opBox, Value.cells, opStore, setCells, List.length_append, Nat.reduceLeDiff, Nat.add_zero, Nat.add_assoc, Nat.add_right_cancel_iff, List.cons_append, List.nil_append, Array.toList, Option.isNone_none, Option.isNone_some, ne_eq, not_true_eq_false, not_false_eq_true, bin_cteq, bldT, bldA, bldV, no_ints, one_int, no_bytes, one_ans, wk0, fxC21b]
  refine cnew_ret fun m1 H1 x1 => ?_
  have two : opBuildSlice Try.prog 28 2 [(0, .int .i64 1), (1, .int .i64 2)] m1 = some (.slice (some ⟨m1.next, 0, none⟩) 2 1, m1.new (.cells [.int .i64 1, .int .i64 2] 3 true)) := by kernel_rfl
  have bv : ∀ a : Option Addr, opBuild Try.prog 31 [(1, .slice a 2 1)] = some (viewV 0 (.slice a 2 1)) := fun a => by kernel_rfl
  have ba : opBuild Try.prog 37 [(1, .int .i64 4)] = some (ansV 0 4 (.slice none 0 0)) := by kernel_rfl
  simp only [evOp, evParts, okVal, ev1, evs, evOpt, envOf, List.lookup_nil, List.size_toArray, List.length_cons, List.length_nil, List.range, List.range.loop, Nat.zero_add, Nat.reduceAdd, Bool.not_false, Bool.not_true, Bool.true_or, if_true, if_false, reduceIte, Nat.reduceEqDiff, reduceCtorEq, List.getElem?_toArray, List.getElem?_cons_zero, List.getElem?_cons_succ, guardOf, constOk, constCell, evBuiltin, opLen, List.head?_cons, foldV, min2V, max2V, Int.reduceLT, Int.reduceEq, Kend, resOf, Bool.false_eq_true, Bool.true_eq_false, IntKind.signed, IntKind.max, opConvert, opIndexAddr, opLoad, aggOf, Option.some.injEq, Value.bool.injEq, exists_eq_left', true_and, forall_const, decide_eq_true_eq, decide_eq_false_iff_not, Int.natCast_nonneg, and_self, Int.toNat_natCast, Nat.mul_one, List.append_nil, beq_self_eq_true, Nat.lt_irrefl, Nat.zero_lt_succ, Nat.reduceLT, Option.bind_some, new_get_if, new_next, set_get_if, set_next, decide_true, decide_false, beq_tt, beq_tf, beq_ft, beq_ff, undef, Nat.left_eq_add, Nat.add_eq_left, List.drop_zero, List.drop_succ_cons, List.take_succ_cons, List.take_zero, List.drop_nil, opBox, Value.cells, opStore, setCells, List.length_append, Nat.reduceLeDiff, Nat.add_zero, Nat.add_assoc, Nat.add_right_cancel_iff, List.cons_append, List.nil_append, Array.toList, Option.isNone_none, Option.isNone_some, ne_eq, not_true_eq_false, not_false_eq_true, bin_cteq, bldT, bldA, bldV, no_ints, one_int, no_bytes, one_ans, wk0, fxC21b, two, bv, ba]
  obtain ⟨m2, hm2⟩ : ∃ m2, m2 = ((m1.new (.cells [.int .i64 1, .int .i64 2] 3 true)).new (.cells [.int .i64 0, .slice none 0 0] 31 true)).set (m1.next + 1) (.cells [.int .i64 0, .slice (some ⟨m1.next, 0, none⟩) 2 1] 31 true) := ⟨_, rfl⟩
  have x2 : Ext m1 m2 := by rw [hm2]; exact ((Ext.new _ _).trans (Ext.new _ _)).set (by omega)
  have o2 : OwnI m1.next 3 1 m2 (.slice (some ⟨m1.next, 0, none⟩) 2 1) 2 (ints [1, 2]) := ⟨rfl, .inr ⟨by rw [hm2]; simp only [set_next, new_next]; omega, rfl, by
    rw [hm2, set_get_ne _ (by omega), new_get_ne _ (by simp only [new_next]; omega)]
    exact new_get _ _⟩⟩
  rw [← hm2]
  clear hm2
  obtain ⟨m3, z3, f3, n3, k3⟩ := o2.frz
  refine Ret.thaw z3 ?_
  obtain ⟨mv, nv, av, rn, ra, cs, H⟩ := H1
  have l1 := H.li
  have H3 : TcAt m3 m.next m.next ⟨0, 0, [], [], []⟩ := ⟨mv, nv, av, rn, ra, cs, H.keep (x2.pz.trans z3.pz) ((k3 _ (by omega)).trans (x2.2 _ (by omega))) (fun h => (k3 _ (by omega)).trans (x2.2 _ h)) (fun h => (k3 _ (by omega)).trans (x2.2 _ h))⟩
  refine cput_ret (l := [1, 2]) (a := ⟨0, 4, []⟩) H3 f3 FRow.nil (by decide) (by decide) (by decide) (by decide) (fun m4 x4 h => by cases h) fun m4 H4 z4 f4 _ _ => ?_
  simp only [evOp, evParts, okVal, ev1, evs, evOpt, envOf, List.lookup_nil, List.size_toArray, List.length_cons, List.length_nil, List.range, List.range.loop, Nat.zero_add, Nat.reduceAdd, Bool.not_false, Bool.not_true, Bool.true_or, if_true, if_false, reduceIte, Nat.reduceEqDiff, reduceCtorEq, List.getElem?_toArray, List.getElem?_cons_zero, List.getElem?_cons_succ, guardOf, constOk, constCell, evBuiltin, opLen, List.head?_cons, foldV, min2V, max2V, Int.reduceLT, Int.reduceEq, Kend, resOf, Bool.false_eq_true, Bool.true_eq_false, IntKind.signed, IntKind.max, opConvert, opIndexAddr, opLoad, aggOf, Option.some.injEq, Value.bool.injEq, exists_eq_left', true_and, forall_const, decide_eq_true_eq, decide_eq_false_iff_not, Int.natCast_nonneg, and_self, Int.toNat_natCast, Nat.mul_one, List.append_nil, beq_self_eq_true, Nat.lt_irrefl, Nat.zero_lt_succ, Nat.reduceLT, Option.bind_some, new_get_if, new_next, set_get_if, set_next, decide_true, decide_false, beq_tt, beq_tf, beq_ft, beq_ff, undef, Nat.left_eq_add, Nat.add_eq_left, List.drop_zero, List.drop_succ_cons, List.take_succ_cons, List.take_zero, List.drop_nil, opBox, Value.cells, opStore, setCells, List.length_append, Nat.reduceLeDiff, Nat.add_zero, Nat.add_assoc, Nat.add_right_cancel_iff, List.cons_append, List.nil_append, Array.toList, Option.isNone_none, Option.isNone_some, ne_eq, not_true_eq_false, not_false_eq_true, bin_cteq, bldT, bldA, bldV, no_ints, one_int, no_bytes, one_ans, wk0, fxC21b]
  have x14 : Ext m m4 := ⟨by have := z4.1; have := x1.1; have := x2.1; omega, fun j hj => by rw [f4 j hj, k3 j (by have := x1.1; omega), x2.2 j (by have := x1.1; omega), x1.2 j hj]⟩
  refine result_ret H4 (by decide) (by decide) (fun a ha => by
    simp only [putC, List.nil_append, List.mem_singleton] at ha
    subst ha
    decide) fun m5 w r x5 o5 _ => ?_
  have er : resC (putC ⟨0, 0, [], [], []⟩ 1 0 [1, 2] ⟨0, 4, []⟩) = (⟨0, 4, []⟩, true) := by rfl
  rw [er]
  simp only [evOp, evParts, okVal, ev1, evs, evOpt, envOf, List.lookup_nil, List.size_toArray, List.length_cons, List.length_nil, List.range, List.range.loop, Nat.zero_add, Nat.reduceAdd, Bool.not_false, Bool.not_true, Bool.true_or, if_true, if_false, reduceIte, Nat.reduceEqDiff, reduceCtorEq, List.getElem?_toArray, List.getElem?_cons_zero, List.getElem?_cons_succ, guardOf, constOk, constCell, evBuiltin, opLen, List.head?_cons, foldV, min2V, max2V, Int.reduceLT, Int.reduceEq, Kend, resOf, Bool.false_eq_true, Bool.true_eq_false, IntKind.signed, IntKind.max, opConvert, opIndexAddr, opLoad, aggOf, Option.some.injEq, Value.bool.injEq, exists_eq_left', true_and, forall_const, decide_eq_true_eq, decide_eq_false_iff_not, Int.natCast_nonneg, and_self, Int.toNat_natCast, Nat.mul_one, List.append_nil, beq_self_eq_true, Nat.lt_irrefl, Nat.zero_lt_succ, Nat.reduceLT, Option.bind_some, new_get_if, new_next, set_get_if, set_next, decide_true, decide_false, beq_tt, beq_tf, beq_ft, beq_ff, undef, Nat.left_eq_add, Nat.add_eq_left, List.drop_zero, List.drop_succ_cons, List.take_succ_cons, List.take_zero, List.drop_nil, opBox, Value.cells, opStore, setCells, List.length_append, Nat.reduceLeDiff, Nat.add_zero, Nat.add_assoc, Nat.add_right_cancel_iff, List.cons_append, List.nil_append, Array.toList, Option.isNone_none, Option.isNone_some, ne_eq, not_true_eq_false, not_false_eq_true, bin_cteq, bldT, bldA, bldV, no_ints, one_int, no_bytes, one_ans, wk0, fxC21b]
  exact hK _ ((x14.trans x5).trans ((Ext.new _ _).set (Nat.le_refl _)))
theorem reply_of {H : Type} {m : Mem} {d : DataW H} {v : Value} (hi : IsD Try.prog 8 25 d) (hl : Lies Try.prog m 25 d v) : ∃ (t n : Int) (va : Value) (zs : List Int), v = repV t n va ∧ (0 ≤ t ∧ t < 65536) ∧ (0 ≤ n ∧ n < 65536) ∧ Bytes zs ∧ FRow m va 1 zs.length (byteCells zs) := by
  obtain ⟨ps, cs, rfl, rfl, hp⟩ := lies_struct (k := 7) Try.underlying25 hi hl
  obtain ⟨p0, pr, c1, c2, rfl, rfl, i1, l1, hp⟩ := partsC_cons hp
  obtain ⟨p1, pr, c3, c4, rfl, rfl, i2, l2, hp⟩ := partsC_cons hp
  obtain ⟨p3, pr, c7, c8, rfl, rfl, i4, l4, hp⟩ := partsC_cons hp
  obtain ⟨rfl, rfl⟩ := partsC_nil hp
  obtain ⟨t, rfl, w1⟩ := liesC_int (k := 6) Try.underlying22 i1 l1
  obtain ⟨n, rfl, w2⟩ := liesC_int (k := 6) Try.underlying22 i2 l2
  obtain ⟨va, zs, rfl, hb, _, hs⟩ := liesC_nums (k := 5) Try.underlying23 Try.underlying5 (by kernel_rfl) i4 l4
  exact ⟨t, n, va, zs, rfl, wf_u16 w1, wf_u16 w2, fun b h => wf_u8 (hb b h), hs⟩
end Go.Proofs.Ythngclljebepkaa
