/- A text of the abstract machine. -/


/- What answers come to. -/
import Derived.Test.YtimjcfaciiimmaaAmC22o
import Derived.Test.YtimjcfaciiimmaaAmBun
set_option linter.unusedSimpArgs false
set_option linter.unusedVariables false
set_option maxRecDepth 100000
set_option maxHeartbeats 4000000
namespace Go.Proofs.Ytimjcfaciiimmaa
open Go Go.AM Go.AM.Crc Go.AM.Wire
theorem fxC22p : type_of% (And.intro (And.intro (And.intro (And.intro (And.intro (And.intro @Try.underlying3 @Try.underlying4) (And.intro @Try.underlying5 (And.intro @Try.underlying9 @Try.underlying25))) (And.intro (And.intro @Try.underlying52 (And.intro @Try.underlying35 @Try.underlying107)) (And.intro @Try.underlying22 (And.intro @Try.underlying23 @Try.underlying39)))) (And.intro (And.intro (And.intro @Try.underlying101 @Try.underlying103) (And.intro @Try.underlying75 (And.intro @Try.underlying77 @Try.underlying49))) (And.intro (And.intro @ts3 (And.intro @ts4 @ts5)) (And.intro @ts9 (And.intro @ts25 @ts52))))) (And.intro (And.intro (And.intro (And.intro @ts35 @ts107) (And.intro @ts22 (And.intro @ts23 @ts39))) (And.intro (And.intro @ts101 (And.intro @ts103 @ts75)) (And.intro @ts77 (And.intro @ts49 @tz3)))) (And.intro (And.intro (And.intro @tz4 @tz5) (And.intro @tz9 (And.intro @tz25 @tz52))) (And.intro (And.intro @tz35 (And.intro @tz107 @tz22)) (And.intro @tz23 (And.intro @tz39 @tz101)))))) (And.intro (And.intro (And.intro (And.intro (And.intro @tz103 @tz75) (And.intro @tz77 (And.intro @tz49 @tb3))) (And.intro (And.intro @tb4 (And.intro @tb5 @tb9)) (And.intro @tb25 (And.intro @tb52 @tb35)))) (And.intro (And.intro (And.intro @tb107 @tb22) (And.intro @tb23 (And.intro @tb39 @tb101))) (And.intro (And.intro @tb103 (And.intro @tb75 @tb77)) (And.intro @tb49 (And.intro @fr18 @fr21))))) (And.intro (And.intro (And.intro (And.intro @fr16 @fr22) (And.intro @fr17 (And.intro @fr0 @fr33))) (And.intro (And.intro @fr34 (And.intro @bz52 @al52)) (And.intro @fa52_0 (And.intro @fa52_1 @bz39)))) (And.intro (And.intro (And.intro @al39 (And.intro @bz103 @fa39_0)) (And.intro @fa39_1 (And.intro @fa39_2 @fa103_0))) (And.intro (And.intro @fa103_1 (And.intro @fa103_2 @fa103_3)) (And.intro @fa49_0 (And.intro @fa49_1 @fa49_2))))))) := (And.intro (And.intro (And.intro (And.intro (And.intro (And.intro @Try.underlying3 @Try.underlying4) (And.intro @Try.underlying5 (And.intro @Try.underlying9 @Try.underlying25))) (And.intro (And.intro @Try.underlying52 (And.intro @Try.underlying35 @Try.underlying107)) (And.intro @Try.underlying22 (And.intro @Try.underlying23 @Try.underlying39)))) (And.intro (And.intro (And.intro @Try.underlying101 @Try.underlying103) (And.intro @Try.underlying75 (And.intro @Try.underlying77 @Try.underlying49))) (And.intro (And.intro @ts3 (And.intro @ts4 @ts5)) (And.intro @ts9 (And.intro @ts25 @ts52))))) (And.intro (And.intro (And.intro (And.intro @ts35 @ts107) (And.intro @ts22 (And.intro @ts23 @ts39))) (And.intro (And.intro @ts101 (And.intro @ts103 @ts75)) (And.intro @ts77 (And.intro @ts49 @tz3)))) (And.intro (And.intro (And.intro @tz4 @tz5) (And.intro @tz9 (And.intro @tz25 @tz52))) (And.intro (And.intro @tz35 (And.intro @tz107 @tz22)) (And.intro @tz23 (And.intro @tz39 @tz101)))))) (And.intro (And.intro (And.intro (And.intro (And.intro @tz103 @tz75) (And.intro @tz77 (And.intro @tz49 @tb3))) (And.intro (And.intro @tb4 (And.intro @tb5 @tb9)) (And.intro @tb25 (And.intro @tb52 @tb35)))) (And.intro (And.intro (And.intro @tb107 @tb22) (And.intro @tb23 (And.intro @tb39 @tb101))) (And.intro (And.intro @tb103 (And.intro @tb75 @tb77)) (And.intro @tb49 (And.intro @fr18 @fr21))))) (And.intro (And.intro (And.intro (And.intro @fr16 @fr22) (And.intro @fr17 (And.intro @fr0 @fr33))) (And.intro (And.intro @fr34 (And.intro @bz52 @al52)) (And.intro @fa52_0 (And.intro @fa52_1 @bz39)))) (And.intro (And.intro (And.intro @al39 (And.intro @bz103 @fa39_0)) (And.intro @fa39_1 (And.intro @fa39_2 @fa103_0))) (And.intro (And.intro @fa103_1 (And.intro @fa103_2 @fa103_3)) (And.intro @fa49_0 (And.intro @fa49_1 @fa49_2)))))))
/-- The nodes that answered as one did. -/
def alikeN (ans : List Ans) (nodes : List Int) (a : Ans) : List Int := ((ans.zip nodes).filter (fun p => alikeB a p.1)).map (·.2)
theorem alikeN_len (ans : List Ans) (nodes : List Int) (a : Ans) : (alikeN ans nodes a).length ≤ ans.length := by
  rw [alikeN, List.length_map]
  refine Nat.le_trans (List.length_filter_le _ _) ?_
  rw [List.length_zip]
  omega
theorem alikeN_take {ans : List Ans} {nodes : List Int} {a : Ans} {j : Nat} (h1 : j < ans.length) (h2 : j < nodes.length) : alikeN (ans.take (j + 1)) (nodes.take (j + 1)) a = alikeN (ans.take j) (nodes.take j) a ++ if alikeB a ans[j] then [nodes[j]] else [] := by
  have hz : (ans.take (j + 1)).zip (nodes.take (j + 1)) = (ans.take j).zip (nodes.take j) ++ [(ans[j], nodes[j])] := by
    rw [List.take_succ_eq_append_getElem h1, List.take_succ_eq_append_getElem h2, List.zip_append (by rw [List.length_take, List.length_take]; omega)]
    rfl
  simp only [alikeN, hz, List.filter_append, List.map_append]
  cases h : alikeB a ans[j] <;> simp [h]
theorem ld_ans (μ : Mem) (Z : Blk) (e q : Int) (w : Value) : opLoad Try.prog 39 (.pointer (some ⟨μ.next, 0, none⟩)) ((μ.new Z).set μ.next (.cells [.int .i64 e, .int .i64 q, w] 39 true)) = some (ansV e q w) := by
  simp only [opLoad, set_get, aggOf, Try.underlying39, ts39]
  rfl
theorem st_ans (μ : Mem) (e q : Int) (w : Value) (hw : okVal w = true) : opStore Try.prog 39 (.pointer (some ⟨μ.next, 0, none⟩)) (ansV e q w) (μ.new (.cells [.int .i64 0, .int .i64 0, .slice none 0 0] 39 true)) = some ((μ.new (.cells [.int .i64 0, .int .i64 0, .slice none 0 0] 39 true)).set μ.next (.cells [.int .i64 e, .int .i64 q, w] 39 true)) := by
  simp only [opStore, new_get, ts39, Value.cells]
  rfl
/-- Answer j of a table, read. -/
theorem ans_at {m μ : Mem} {k i : Nat} {C : Tc} {mv nv av : Value} {rn ra : Nat} {cs : List Value} (H : TcIs m k i C mv nv av rn ra cs) (x : Ext m μ) {j : Nat} (hj : j < C.ans.length) :
    ∃ p w, opIndexAddr Try.prog 101 av (.int .i64 j) = some (.pointer (some p)) ∧ opLoad Try.prog 39 (.pointer (some p)) μ = some (ansV C.ans[j].e C.ans[j].q w) ∧ FRow μ w 1 C.ans[j].s.length (byteCells C.ans[j].s) := by
  have o := H.oa.ext x
  have h1 := o.index (P := Try.prog) Try.underlying101 ts39 (j := j) rfl hj
  have h2 := o.load (P := Try.prog) ts39 (by simp only [aggOf, Try.underlying39]) hj
  obtain ⟨w, h3, h4⟩ := H.rows.at (sz := 3) AnsC.len hj
  rw [h3] at h2
  exact ⟨_, w, h1, h2, h4.pz x.pz⟩
theorem two_of (a b : Value) : oneOf [a, b] = .tuple #[a, b] := rfl
theorem ld37 {M : Mem} {c : Nat} {e q : Int} {w : Value} (g : M.get c = some (.cells [.int .i64 e, .int .i64 q, w] 39 true)) : opLoad Try.prog 39 (.pointer (some ⟨c, 0, none⟩)) M = some (ansV e q w) := by
  simp only [opLoad, g, aggOf, Try.underlying39, ts39]
  rfl
theorem st37 {M : Mem} {c : Nat} {e q e' q' : Int} {w w' : Value} (g : M.get c = some (.cells [.int .i64 e, .int .i64 q, w] 39 true)) (hw : okVal w' = true) : opStore Try.prog 39 (.pointer (some ⟨c, 0, none⟩)) (ansV e' q' w') M = some (M.set c (.cells [.int .i64 e', .int .i64 q', w'] 39 true)) := by
  simp only [opStore, g, ts39, Value.cells]
  rfl
theorem alikes_ret {m : Mem} {k i : Nat} {C : Tc} {mv nv av : Value} {rn ra : Nat} {cs : List Value} {a : Ans} {v : Value} (H : TcIs m k i C mv nv av rn ra cs) (hl : C.nodes.length < 2 ^ 40) (fv : FRow m v 1 a.s.length (byteCells a.s)) {K : Value → Mem → Prop}
    (hK : ∀ m' w r, Ext m m' → OwnI r 3 1 m' w (alikeN C.ans C.nodes a).length (ints (alikeN C.ans C.nodes a)) → K w m') : Ret Try.prog 34 [.pointer (some ⟨i, 0, none⟩), ansV a.e a.q v] m K := by
  refine ret_wp [] Try.func34 rfl (by decide) (by kernel_rfl) ?_
  have x0 := Ext.new m (.cells [.int .i64 a.e, .int .i64 a.q, v] 39 true)
  have H0 := H.ext x0
  have f0 := fv.pz x0.pz
  have g0 := new_get m (.cells [.int .i64 a.e, .int .i64 a.q, v] 39 true)
  have n0 : m.next < (m.new (.cells [.int .i64 a.e, .int .i64 a.q, v] 39 true)).next := Nat.lt_succ_self _
  have gi := H0.gi
  have la := H0.oa.len (P := Try.prog) Try.underlying101
  simp only [Nat.reduceAdd, reduceIte, Nat.reduceEqDiff, reduceCtorEq, Int.reduceLT, Int.reduceEq, opConvert, opIndexAddr, opLoad, Nat.reduceLT, new_next, set_get_if, set_next, decide_true, decide_false, beq_tt, beq_tf, beq_ft, beq_ff, undef, Nat.left_eq_add, Nat.add_eq_left, List.drop_zero, List.drop_succ_cons, List.take_succ_cons, List.take_zero, List.drop_nil, List.length_append, Nat.reduceLeDiff, Nat.add_zero, Nat.add_assoc, Nat.add_right_cancel_iff, List.cons_append, List.nil_append, Array.toList, Option.isNone_none, Option.isNone_some, ne_eq, not_true_eq_false, not_false_eq_true, bin_cteq, bldT, bldA, bldV, no_ints, one_int, no_bytes, one_ans, wk4, wk0, fxC22p, gi, la]
  generalize m.new (.cells [.int .i64 a.e, .int .i64 a.q, v] 39 true) = m0 at x0 H0 f0 g0 n0 gi ⊢
  have hlen := H.len
  refine loop_wp [] (by kernel_rfl) (fun q env μ => ∃ (j r : Nat) (pv : Value), q + j = C.ans.length ∧ Ext m0 μ ∧ OwnI r 3 1 μ pv (alikeN (C.ans.take j) (C.nodes.take j) a).length (ints (alikeN (C.ans.take j) (C.nodes.take j) a)) ∧ m0.next ≤ r ∧ env 0 = some (.pointer (some ⟨i, 0, none⟩)) ∧ env 3 = some (.pointer (some ⟨m.next, 0, none⟩)) ∧ env 5 = some pv ∧ env 11 = some av ∧ env 12 = some (.int .i64 C.ans.length) ∧ env 13 = some (.int .i64 j)) ?_ C.ans.length ⟨0, m0.next, .slice none 0 0, rfl, Ext.refl m0, OwnI.nil, Nat.le_refl _, rfl, rfl, rfl, rfl, rfl, rfl⟩
  rintro q env μ ⟨j, r, pv, hk, xμ, o, hr, e0, e3, e5, e11, e12, e13⟩
  simp only [Nat.reduceAdd, reduceIte, Nat.reduceEqDiff, reduceCtorEq, opLen, Int.reduceLT, Int.reduceEq, opConvert, opIndexAddr, opLoad, Nat.reduceLT, undef, Nat.reduceLeDiff, Array.toList, bin_cteq, bldT, bldA, bldV, no_ints, one_int, no_bytes, one_ans, wk4, wk5, wk0, fxC22p, e12, e13]
  refine cond_by (fun hlt => ?_) (fun hge => ?_)
  · have hj : j < C.ans.length := by omega
    have hjn : j < C.nodes.length := by omega
    obtain ⟨p, w, h1, h2, h3⟩ := ans_at H0 xμ hj
    have w1 : IntKind.i64.wrap ((j : Int) + 1) = ((j + 1 : Nat) : Int) := by rw [wrap_i64 (by omega) (by omega)]; rfl
    have sa := st_ans μ C.ans[j].e C.ans[j].q w h3.cell.2.1
    have xs : Ext μ ((μ.new (.cells [.int .i64 0, .int .i64 0, .slice none 0 0] 39 true)).set μ.next (.cells [.int .i64 C.ans[j].e, .int .i64 C.ans[j].q, w] 39 true)) := (Ext.new _ _).set (Nat.le_refl _)
    have lda := ld_ans μ (.cells [.int .i64 0, .int .i64 0, .slice none 0 0] 39 true) C.ans[j].e C.ans[j].q w
    have l0 : ∀ M, Ext m0 M → opLoad Try.prog 39 (.pointer (some ⟨m.next, 0, none⟩)) M = some (ansV a.e a.q v) := fun M y => by
      simp only [opLoad, y.2 m.next n0, g0, aggOf, Try.underlying39, ts39]
      rfl
    have l0' := l0 _ (xμ.trans xs)
    simp only [evOp, evParts, okVal, ev1, evs, evOpt, envOf, List.lookup_nil, List.size_toArray, List.length_cons, List.length_nil, List.range, List.range.loop, Nat.zero_add, Nat.reduceAdd, Bool.not_false, Bool.not_true, Bool.true_or, if_true, if_false, reduceIte, Nat.reduceEqDiff, reduceCtorEq, List.getElem?_toArray, List.getElem?_cons_zero, List.getElem?_cons_succ, guardOf, constOk, constCell, evBuiltin, opLen, List.head?_cons, foldV, min2V, max2V, Int.reduceLT, Int.reduceEq, Kend, resOf, Bool.false_eq_true, Bool.true_eq_false, IntKind.signed, IntKind.max, opConvert, aggOf, Option.some.injEq, Value.bool.injEq, exists_eq_left', true_and, forall_const, decide_eq_true_eq, decide_eq_false_iff_not, Int.natCast_nonneg, and_self, Int.toNat_natCast, Nat.mul_one, List.append_nil, beq_self_eq_true, Nat.lt_irrefl, Nat.zero_lt_succ, Nat.reduceLT, Option.bind_some, undef, opBox, Value.cells, setCells, Nat.reduceLeDiff, Array.toList, bin_cteq, bldT, bldA, bldV, no_ints, one_int, no_bytes, one_ans, wk5, wk0, fxC22p, e0, e3, e5, e11, e12, e13, h1, h2, sa, l0', lda]
    refine alike_ret (f0.pz (xμ.trans xs).pz) (h3.pz xs.pz) fun m1 x1 => ?_
    have x1' := (xμ.trans xs).trans x1
    have xμ1 := xs.trans x1
    have et := alikeN_take (a := a) hj hjn
    cases hb : alikeB a C.ans[j] with
    | false =>
      rw [hb, if_neg (by decide), List.append_nil] at et
      simp only [Nat.reduceAdd, reduceIte, Nat.reduceEqDiff, reduceCtorEq, opLen, Int.reduceLT, Int.reduceEq, opConvert, opIndexAddr, opLoad, Nat.reduceLT, undef, Nat.reduceLeDiff, Array.toList, bin_cteq, bldT, bldA, bldV, no_ints, one_int, no_bytes, one_ans, wk4, wk5, wk0, fxC22p, e0, e3, e5, e11, e12, e13]
      refine ⟨q - 1, by omega, j + 1, r, _, by omega, x1', by rw [et]; exact o.ext xμ1, hr, rfl, by rw [w1]⟩
    | true =>
      rw [hb, if_pos rfl] at et
      have H1 := H0.ext x1'
      have gi1 := H1.gi
      obtain ⟨p2, h4, h5⟩ := RdI.at (l := C.nodes) H1.on.rd hjn
      obtain ⟨pa, pq, hpv⟩ := o.is
      have hbnd := alikeN_len (C.ans.take j) (C.nodes.take j) a
      rw [List.length_take] at hbnd
      have sn : ShowsR 1 (m1.new (.cells [.int .i64 C.nodes[j]] 3 true)) (.slice (some ⟨m1.next, 0, none⟩) 1 1) 1 [.int .i64 C.nodes[j]] := ⟨_, _, rfl, by simp [shown, new_get], rfl⟩
      obtain ⟨a', q', m2, r', p1, p2', p3, p4, p5⟩ := ((o.ext xμ1).ext (Ext.new m1 (.cells [.int .i64 C.nodes[j]] 3 true))).push (P := Try.prog) (tx := 25) Try.underlying25 ⟨_, Try.underlying25⟩ ts3 (by decide) tz3 tb3 (by decide) rfl rfl sn (by omega)
      simp only [new_next] at p3 p4 p5
      rw [hpv] at p1 e5
      have hx := x1'.1
      have lgi : opLoad Try.prog 25 (.pointer (some ⟨i, 3, none⟩)) m1 = some nv := load_cell gi1 (by simp only [aggOf, Try.underlying25]) rfl
      simp only [Nat.reduceAdd, reduceIte, Nat.reduceEqDiff, reduceCtorEq, opLen, Int.reduceLT, Int.reduceEq, opConvert, Nat.reduceLT, undef, Nat.reduceLeDiff, Array.toList, bin_cteq, bldT, bldA, bldV, no_ints, one_int, no_bytes, one_ans, wk4, wk5, wk0, fxC22p, e0, e3, e5, e11, e12, e13, lgi, h4, h5, p1]
      refine ⟨q - 1, by omega, j + 1, r', _, by omega, ⟨by omega, fun y hy => ?_⟩, ?_, by omega, rfl, by rw [w1]⟩
      · rw [p5 y (by omega) (fun h => by omega), new_get_ne _ (by omega), x1'.2 y hy]
      · rw [et, List.length_append]
        have : ints (alikeN (C.ans.take j) (C.nodes.take j) a ++ [C.nodes[j]]) = ints (alikeN (C.ans.take j) (C.nodes.take j) a) ++ [.int .i64 C.nodes[j]] := by simp
        rw [this]
        exact p2'
  · obtain rfl : j = C.ans.length := by omega
    have e1 : C.ans.take C.ans.length = C.ans := List.take_length
    have e2 : C.nodes.take C.ans.length = C.nodes := by rw [← hlen]; exact List.take_length
    rw [e1, e2] at o
    simp only [Nat.reduceAdd, reduceIte, Nat.reduceEqDiff, reduceCtorEq, opLen, Int.reduceLT, Int.reduceEq, opConvert, opIndexAddr, opLoad, Nat.reduceLT, undef, Nat.reduceLeDiff, Array.toList, bin_cteq, bldT, bldA, bldV, no_ints, one_int, no_bytes, one_ans, wk4, wk5, wk0, fxC22p, e5, e12, e13]
    exact hK μ pv r (x0.trans xμ) o
/-- Whether an answer is what is wanted. -/
def condC (C : Tc) (a : Ans) : Bool :=
  decide (C.how = 0) || ((decide (C.how = 1) && decide (C.mem.length < 2 * manyIn C.mem (alikeN C.ans C.nodes a))) || (decide (C.how = 2) && allIn C.mem (alikeN C.ans C.nodes a)))
/-- What a table comes to. -/
def resC (C : Tc) : Ans × Bool :=
  if C.nodes = [] then (⟨0, 0, []⟩, false) else match C.ans.find? (condC C) with
    | some a => (a, true)
    | none => if allIn C.mem C.nodes then (⟨19, 0, []⟩, true) else (⟨0, 0, []⟩, false)
theorem find_take_succ {C : Tc} {j : Nat} (hj : j < C.ans.length) (h : (C.ans.take j).find? (condC C) = none) : (C.ans.take (j + 1)).find? (condC C) = if condC C C.ans[j] then some C.ans[j] else none := by
  rw [List.take_succ_eq_append_getElem hj, List.find?_append, h]
  simp [List.find?_cons]
  cases condC C C.ans[j] <;> simp
theorem find_of_take {C : Tc} {j : Nat} {a : Ans} (h : (C.ans.take j).find? (condC C) = some a) : C.ans.find? (condC C) = some a := by
  have e : C.ans = C.ans.take j ++ C.ans.drop j := (List.take_append_drop _ _).symm
  rw [e, List.find?_append, h]
  rfl
theorem result_ret {m : Mem} {k i : Nat} {C : Tc} (H : TcAt m k i C) (hl : C.nodes.length < 2 ^ 40) (hm : C.mem.length < 2 ^ 40) (hs : ∀ a ∈ C.ans, a.s.length < 2 ^ 46) {K : Value → Mem → Prop}
    (hK : ∀ m' w r, Ext m m' → OwnI r 5 1 m' w (resC C).1.s.length (byteCells (resC C).1.s) → m.next ≤ r → K (.tuple #[ansV (resC C).1.e (resC C).1.q w, .bool (resC C).2]) m') : Ret Try.prog 22 [.pointer (some ⟨i, 0, none⟩)] m K := by
  obtain ⟨mv, nv, av, rn, ra, cs, H⟩ := H
  refine ret_wp [] Try.func22 rfl (by decide) (by kernel_rfl) ?_
  have x0 := Ext.new m (.cells [.int .i64 0, .int .i64 0, .slice none 0 0] 39 true)
  have H0 := H.ext x0
  have g0 := new_get m (.cells [.int .i64 0, .int .i64 0, .slice none 0 0] 39 true)
  have n0 : m.next < (m.new (.cells [.int .i64 0, .int .i64 0, .slice none 0 0] 39 true)).next := Nat.lt_succ_self _
  have gi := H0.gi
  have la := H0.oa.len (P := Try.prog) Try.underlying101
  have ln := H0.on.len (P := Try.prog) Try.underlying25
  have lgn : ∀ M, Ext (m.new (.cells [.int .i64 0, .int .i64 0, .slice none 0 0] 39 true)) M → opLoad Try.prog 25 (.pointer (some ⟨i, 3, none⟩)) M = some nv := fun M y => load_cell (H0.ext y).gi (by simp only [aggOf, Try.underlying25]) rfl
  have lga : opLoad Try.prog 101 (.pointer (some ⟨i, 4, none⟩)) (m.new (.cells [.int .i64 0, .int .i64 0, .slice none 0 0] 39 true)) = some av := load_cell gi (by simp only [aggOf, Try.underlying101]) rfl
  have lgh : ∀ M, Ext (m.new (.cells [.int .i64 0, .int .i64 0, .slice none 0 0] 39 true)) M → opLoad Try.prog 77 (.pointer (some ⟨i, 0, none⟩)) M = some (.int .u8 C.how) := fun M y => load_cell (H0.ext y).gi (by simp only [aggOf, Try.underlying77, Try.underlying5]) rfl
  have lgv : ∀ M, Ext (m.new (.cells [.int .i64 0, .int .i64 0, .slice none 0 0] 39 true)) M → opLoad Try.prog 52 (.pointer (some ⟨i, 1, none⟩)) M = some (viewV C.vn mv) := fun M y => by
    have := load_agg (P := Try.prog) (t := 52) (sz := 2) (off := 1) (H0.ext y).gi (by simp only [aggOf, Try.underlying52]) ts52 (by simp)
    exact this
  have lgn0 := lgn _ (Ext.refl _)
  by_cases c0 : C.nodes = []
  · have er : resC C = (⟨0, 0, []⟩, false) := by rw [resC, if_pos c0]
    rw [er] at hK
    have l0 : (C.nodes.length : Int) = 0 := by rw [c0]; rfl
    have d0 : decide ((C.nodes.length : Int) = 0) = true := decide_eq_true l0
    simp only [Nat.reduceAdd, reduceIte, Nat.reduceEqDiff, reduceCtorEq, Int.reduceLT, Int.reduceEq, opConvert, opIndexAddr, Nat.reduceLT, undef, Nat.reduceLeDiff, Array.toList, bin_cteq, bldT, bldA, bldV, no_ints, one_int, no_bytes, one_ans, wk4, wk5, wk0, fxC22p, lgn0, ln, d0, ld_ans, two_of]
    exact hK _ _ m.next (x0.set (Nat.le_refl _)) OwnI.nil (Nat.le_refl _)
  have c0' : decide ((C.nodes.length : Int) = 0) = false := decide_eq_false fun h => c0 (List.eq_nil_of_length_eq_zero (by omega))
  have er : resC C = match C.ans.find? (condC C) with
    | some a => (a, true)
    | none => if allIn C.mem C.nodes then (⟨19, 0, []⟩, true) else (⟨0, 0, []⟩, false) := by rw [resC, if_neg c0]
  simp only [Nat.reduceAdd, reduceIte, Nat.reduceEqDiff, reduceCtorEq, Int.reduceLT, Int.reduceEq, opConvert, opIndexAddr, Nat.reduceLT, new_next, set_get_if, set_next, decide_true, decide_false, beq_tt, beq_tf, beq_ft, beq_ff, undef, Nat.left_eq_add, Nat.add_eq_left, List.drop_zero, List.drop_succ_cons, List.take_succ_cons, List.take_zero, List.drop_nil, List.length_append, Nat.reduceLeDiff, Nat.add_zero, Nat.add_assoc, Nat.add_right_cancel_iff, List.cons_append, List.nil_append, Array.toList, Option.isNone_none, Option.isNone_some, ne_eq, not_true_eq_false, not_false_eq_true, bin_cteq, bldT, bldA, bldV, no_ints, one_int, no_bytes, one_ans, wk4, wk0, fxC22p, lgn0, ln, c0', lga, la]
  generalize m.new (.cells [.int .i64 0, .int .i64 0, .slice none 0 0] 39 true) = m0 at x0 H0 g0 n0 gi lgn lgh lgv ⊢
  clear lgn0 lga
  have hlen := H.len
  refine loop_wp [] (by kernel_rfl) (fun q env μ => ∃ j : Nat, q + j = C.ans.length ∧ Ext m0 μ ∧ (C.ans.take j).find? (condC C) = none ∧ env 0 = some (.pointer (some ⟨i, 0, none⟩)) ∧ env 2 = some (.pointer (some ⟨m.next, 0, none⟩)) ∧ env 21 = some av ∧ env 22 = some (.int .i64 C.ans.length) ∧ env 23 = some (.int .i64 j)) ?_ C.ans.length ⟨0, rfl, Ext.refl m0, rfl, rfl, rfl, rfl, rfl, rfl⟩
  rintro q env μ ⟨j, hk, xμ, hf, e0, e2, e21, e22, e23⟩
  simp only [Nat.reduceAdd, reduceIte, Nat.reduceEqDiff, reduceCtorEq, opLen, Int.reduceLT, Int.reduceEq, opConvert, opIndexAddr, opLoad, Nat.reduceLT, undef, Nat.reduceLeDiff, Array.toList, bin_cteq, bldT, bldA, bldV, no_ints, one_int, no_bytes, one_ans, wk4, wk5, wk0, fxC22p, e22, e23]
  refine cond_by (fun hlt => ?_) (fun hge => ?_)
  · have hj : j < C.ans.length := by omega
    have fsucc := find_take_succ hj hf
    have hsa := hs C.ans[j] (List.getElem_mem _)
    obtain ⟨p, w, h1, h2, h3⟩ := ans_at H0 xμ hj
    generalize C.ans[j] = a at fsucc hsa h1 h2 h3 ⊢
    have w1 : IntKind.i64.wrap ((j : Int) + 1) = ((j + 1 : Nat) : Int) := by rw [wrap_i64 (by omega) (by omega)]; rfl
    have sa := st_ans μ a.e a.q w h3.cell.2.1
    obtain ⟨m1, hm1⟩ : ∃ m1, m1 = (μ.new (.cells [.int .i64 0, .int .i64 0, .slice none 0 0] 39 true)).set μ.next (.cells [.int .i64 a.e, .int .i64 a.q, w] 39 true) := ⟨_, rfl⟩
    have x1 : Ext μ m1 := by rw [hm1]; exact (Ext.new _ _).set (Nat.le_refl _)
    have g1 : m1.get μ.next = some (.cells [.int .i64 a.e, .int .i64 a.q, w] 39 true) := by rw [hm1]; exact set_get _ _ _
    have n1 : μ.next < m1.next := by rw [hm1]; exact Nat.lt_succ_self _
    have lda : opLoad Try.prog 39 (.pointer (some ⟨μ.next, 0, none⟩)) m1 = some (ansV a.e a.q w) := by rw [hm1]; exact ld_ans _ _ _ _ _
    rw [← hm1] at sa
    clear hm1
    simp only [evOp, evParts, okVal, ev1, evs, evOpt, envOf, List.lookup_nil, List.size_toArray, List.length_cons, List.length_nil, List.range, List.range.loop, Nat.zero_add, Nat.reduceAdd, Bool.not_false, Bool.not_true, Bool.true_or, if_true, if_false, reduceIte, Nat.reduceEqDiff, reduceCtorEq, List.getElem?_toArray, List.getElem?_cons_zero, List.getElem?_cons_succ, guardOf, constOk, constCell, evBuiltin, opLen, List.head?_cons, foldV, min2V, max2V, Int.reduceLT, Int.reduceEq, Kend, resOf, Bool.false_eq_true, Bool.true_eq_false, IntKind.signed, IntKind.max, opConvert, aggOf, Option.some.injEq, Value.bool.injEq, exists_eq_left', true_and, forall_const, decide_eq_true_eq, decide_eq_false_iff_not, Int.natCast_nonneg, and_self, Int.toNat_natCast, Nat.mul_one, List.append_nil, beq_self_eq_true, Nat.lt_irrefl, Nat.zero_lt_succ, Nat.reduceLT, Option.bind_some, undef, opBox, Value.cells, setCells, Nat.reduceLeDiff, Array.toList, bin_cteq, bldT, bldA, bldV, no_ints, one_int, no_bytes, one_ans, wk5, wk0, fxC22p, e0, e2, e21, e22, e23, h1, h2, sa, lda]
    have x01 := xμ.trans x1
    have H1 := H0.ext x01
    refine alikes_ret H1 hl (h3.pz x1.pz) fun m2 lw lr x2 lo => ?_
    have x02 := x01.trans x2
    have H2 := H1.ext x2
    have hbl := alikeN_len C.ans C.nodes a
    obtain ⟨la', lq', rfl⟩ := lo.is
    have lh2 := lgh m2 x02
    by_cases hh0 : C.how = 0
    · have d0 : decide (C.how = 0) = true := decide_eq_true hh0
      have hc : condC C a = true := by rw [condC, d0]; rfl
      obtain ⟨m3, y3, hm3⟩ : ∃ m3, Ext m2 m3 ∧ m2 = m3 := ⟨m2, Ext.refl m2, rfl⟩
      rw [hm3] at lh2 ⊢
      have lw3 : opLoad Try.prog 23 (.pointer (some ⟨μ.next, 2, none⟩)) (m3.new (.cells [] 5 true)) = some w := load_cell (((x2.trans y3).trans (Ext.new _ _)).2 μ.next n1 |>.trans g1) (by simp only [aggOf, Try.underlying23]) rfl
      have sh : Shows (m3.new (.cells [] 5 true)) w (byteCells a.s) := (h3.pz (((x1.trans x2).trans y3).pz.trans (Pz.new _ _))).shows
      obtain ⟨m4, r4, q1, q2, q3, q4, q5⟩ := copy_row (P := Try.prog) wtc (added_bytes wtc sh) (by omega)
      have y4 := (x2.trans y3).trans q5
      have g4 := (y4.2 μ.next n1).trans g1
      have x04 := x01.trans y4
      have g40 := (x04.2 m.next n0).trans g0
      have st3 : opStore Try.prog 23 (.pointer (some ⟨μ.next, 2, none⟩)) (.slice (some ⟨r4, 0, none⟩) a.s.length 1) m4 = some (m4.set μ.next (.cells [.int .i64 a.e, .int .i64 a.q, .slice (some ⟨r4, 0, none⟩) a.s.length 1] 39 true)) := store_one (P := Try.prog) g4 ts23 rfl (by simp)
      obtain ⟨m5, hm5⟩ : ∃ m5, m5 = m4.set μ.next (.cells [.int .i64 a.e, .int .i64 a.q, .slice (some ⟨r4, 0, none⟩) a.s.length 1] 39 true) := ⟨_, rfl⟩
      have g5 : m5.get μ.next = some (.cells [.int .i64 a.e, .int .i64 a.q, .slice (some ⟨r4, 0, none⟩) a.s.length 1] 39 true) := by rw [hm5]; exact set_get _ _ _
      have hxμ := xμ.1
      have k5 : ∀ j, j ≠ μ.next → m5.get j = m4.get j := fun j hj => by rw [hm5]; exact set_get_ne _ hj
      have N5 : m5.next = m4.next := by rw [hm5]; rfl
      rw [← hm5] at st3
      clear hm5
      have g50 := (k5 m.next (by omega)).trans g40
      have ld5 := ld37 g5
      have st5 := st37 (e' := a.e) (q' := a.q) (w' := .slice (some ⟨r4, 0, none⟩) a.s.length 1) g50 rfl
      have ld6 := ld37 (set_get m5 m.next (.cells [.int .i64 a.e, .int .i64 a.q, .slice (some ⟨r4, 0, none⟩) a.s.length 1] 39 true))
      have hn4 := y4.1
      have hy3 := y3.1
      have hx2 := x2.1
      have hx0 := x0.1
      have done : condC C a = true → K (.tuple #[ansV a.e a.q (.slice (some ⟨r4, 0, none⟩) a.s.length 1), .bool true]) (m5.set m.next (.cells [.int .i64 a.e, .int .i64 a.q, .slice (some ⟨r4, 0, none⟩) a.s.length 1] 39 true)) := fun hc => by
        have er2 : resC C = (a, true) := by rw [er, find_of_take (by rw [fsucc, if_pos hc])]
        rw [er2] at hK
        refine hK _ _ r4 ⟨by simp only [set_next]; omega, fun z hz => ?_⟩ (Brow.own (TB := 5) ⟨by simp only [set_next]; omega, ?_⟩) (by omega)
        · rw [set_get_ne _ (by omega), k5 z (by omega), x04.2 z (by omega), x0.2 z hz]
        · rw [set_get_ne _ (by omega), k5 r4 (by omega)]
          exact q2
      simp only [evOp, evParts, okVal, ev1, evs, evOpt, envOf, List.lookup_nil, List.size_toArray, List.length_cons, List.length_nil, List.range, List.range.loop, Nat.zero_add, Nat.reduceAdd, Bool.not_false, Bool.not_true, Bool.true_or, if_true, if_false, reduceIte, Nat.reduceEqDiff, reduceCtorEq, List.getElem?_toArray, List.getElem?_cons_zero, List.getElem?_cons_succ, guardOf, constOk, constCell, evBuiltin, opLen, List.head?_cons, foldV, min2V, max2V, Int.reduceLT, Int.reduceEq, Kend, resOf, Bool.false_eq_true, Bool.true_eq_false, IntKind.signed, IntKind.max, opConvert, aggOf, Option.some.injEq, Value.bool.injEq, exists_eq_left', true_and, forall_const, decide_eq_true_eq, decide_eq_false_iff_not, Int.natCast_nonneg, and_self, Int.toNat_natCast, Nat.mul_one, List.append_nil, beq_self_eq_true, Nat.lt_irrefl, Nat.zero_lt_succ, Nat.reduceLT, Option.bind_some, undef, opBox, Value.cells, setCells, Nat.reduceLeDiff, Array.toList, bin_cteq, bldT, bldA, bldV, no_ints, one_int, no_bytes, one_ans, wk5, wk0, fxC22p, e0, e2, e21, e22, e23, lh2, d0, no_bytes, lw3, q1, st3, ld5, st5, ld6, two_of]
      exact done hc
    have d0 : decide (C.how = 0) = false := decide_eq_false hh0
    by_cases hh1 : C.how = 1
    · have d1 : decide (C.how = 1) = true := decide_eq_true hh1
      have d2 : decide (C.how = 2) = false := decide_eq_false (by omega)
      have lv2 := lgv m2 x02
      simp only [evOp, evParts, okVal, ev1, evs, evOpt, envOf, List.lookup_nil, List.size_toArray, List.length_cons, List.length_nil, List.range, List.range.loop, Nat.zero_add, Nat.reduceAdd, Bool.not_false, Bool.not_true, Bool.true_or, if_true, if_false, reduceIte, Nat.reduceEqDiff, reduceCtorEq, List.getElem?_toArray, List.getElem?_cons_zero, List.getElem?_cons_succ, guardOf, constOk, constCell, evBuiltin, opLen, List.head?_cons, foldV, min2V, max2V, Int.reduceLT, Int.reduceEq, Kend, resOf, Bool.false_eq_true, Bool.true_eq_false, IntKind.signed, IntKind.max, opConvert, aggOf, Option.some.injEq, Value.bool.injEq, exists_eq_left', true_and, forall_const, decide_eq_true_eq, decide_eq_false_iff_not, Int.natCast_nonneg, and_self, Int.toNat_natCast, Nat.mul_one, List.append_nil, beq_self_eq_true, Nat.lt_irrefl, Nat.zero_lt_succ, Nat.reduceLT, Option.bind_some, undef, opBox, Value.cells, setCells, Nat.reduceLeDiff, Array.toList, bin_cteq, bldT, bldA, bldV, no_ints, one_int, no_bytes, one_ans, wk5, wk0, fxC22p, e0, e2, e21, e22, e23, lh2, d0, d1, lv2]
      refine most_ret H2.fm.rd lo.rd hm (by omega) fun m3 y3 => ?_
      have lh3 := lgh m3 (x02.trans y3)
      by_cases hc : C.mem.length < 2 * manyIn C.mem (alikeN C.ans C.nodes a)
      · have dc : decide (C.mem.length < 2 * manyIn C.mem (alikeN C.ans C.nodes a)) = true := decide_eq_true hc
        have hc' : condC C a = true := by rw [condC, d0, d1, d2, dc]; rfl
        have lw3 : opLoad Try.prog 23 (.pointer (some ⟨μ.next, 2, none⟩)) (m3.new (.cells [] 5 true)) = some w := load_cell (((x2.trans y3).trans (Ext.new _ _)).2 μ.next n1 |>.trans g1) (by simp only [aggOf, Try.underlying23]) rfl
        have sh : Shows (m3.new (.cells [] 5 true)) w (byteCells a.s) := (h3.pz (((x1.trans x2).trans y3).pz.trans (Pz.new _ _))).shows
        obtain ⟨m4, r4, q1, q2, q3, q4, q5⟩ := copy_row (P := Try.prog) wtc (added_bytes wtc sh) (by omega)
        have y4 := (x2.trans y3).trans q5
        have g4 := (y4.2 μ.next n1).trans g1
        have x04 := x01.trans y4
        have g40 := (x04.2 m.next n0).trans g0
        have st3 : opStore Try.prog 23 (.pointer (some ⟨μ.next, 2, none⟩)) (.slice (some ⟨r4, 0, none⟩) a.s.length 1) m4 = some (m4.set μ.next (.cells [.int .i64 a.e, .int .i64 a.q, .slice (some ⟨r4, 0, none⟩) a.s.length 1] 39 true)) := store_one (P := Try.prog) g4 ts23 rfl (by simp)
        obtain ⟨m5, hm5⟩ : ∃ m5, m5 = m4.set μ.next (.cells [.int .i64 a.e, .int .i64 a.q, .slice (some ⟨r4, 0, none⟩) a.s.length 1] 39 true) := ⟨_, rfl⟩
        have g5 : m5.get μ.next = some (.cells [.int .i64 a.e, .int .i64 a.q, .slice (some ⟨r4, 0, none⟩) a.s.length 1] 39 true) := by rw [hm5]; exact set_get _ _ _
        have hxμ := xμ.1
        have k5 : ∀ j, j ≠ μ.next → m5.get j = m4.get j := fun j hj => by rw [hm5]; exact set_get_ne _ hj
        have N5 : m5.next = m4.next := by rw [hm5]; rfl
        rw [← hm5] at st3
        clear hm5
        have g50 := (k5 m.next (by omega)).trans g40
        have ld5 := ld37 g5
        have st5 := st37 (e' := a.e) (q' := a.q) (w' := .slice (some ⟨r4, 0, none⟩) a.s.length 1) g50 rfl
        have ld6 := ld37 (set_get m5 m.next (.cells [.int .i64 a.e, .int .i64 a.q, .slice (some ⟨r4, 0, none⟩) a.s.length 1] 39 true))
        have hn4 := y4.1
        have hy3 := y3.1
        have hx2 := x2.1
        have hx0 := x0.1
        have done : condC C a = true → K (.tuple #[ansV a.e a.q (.slice (some ⟨r4, 0, none⟩) a.s.length 1), .bool true]) (m5.set m.next (.cells [.int .i64 a.e, .int .i64 a.q, .slice (some ⟨r4, 0, none⟩) a.s.length 1] 39 true)) := fun hc => by
          have er2 : resC C = (a, true) := by rw [er, find_of_take (by rw [fsucc, if_pos hc])]
          rw [er2] at hK
          refine hK _ _ r4 ⟨by simp only [set_next]; omega, fun z hz => ?_⟩ (Brow.own (TB := 5) ⟨by simp only [set_next]; omega, ?_⟩) (by omega)
          · rw [set_get_ne _ (by omega), k5 z (by omega), x04.2 z (by omega), x0.2 z hz]
          · rw [set_get_ne _ (by omega), k5 r4 (by omega)]
            exact q2
        simp only [evOp, evParts, okVal, ev1, evs, evOpt, envOf, List.lookup_nil, List.size_toArray, List.length_cons, List.length_nil, List.range, List.range.loop, Nat.zero_add, Nat.reduceAdd, Bool.not_false, Bool.not_true, Bool.true_or, if_true, if_false, reduceIte, Nat.reduceEqDiff, reduceCtorEq, List.getElem?_toArray, List.getElem?_cons_zero, List.getElem?_cons_succ, guardOf, constOk, constCell, evBuiltin, opLen, List.head?_cons, foldV, min2V, max2V, Int.reduceLT, Int.reduceEq, Kend, resOf, Bool.false_eq_true, Bool.true_eq_false, IntKind.signed, IntKind.max, opConvert, aggOf, Option.some.injEq, Value.bool.injEq, exists_eq_left', true_and, forall_const, decide_eq_true_eq, decide_eq_false_iff_not, Int.natCast_nonneg, and_self, Int.toNat_natCast, Nat.mul_one, List.append_nil, beq_self_eq_true, Nat.lt_irrefl, Nat.zero_lt_succ, Nat.reduceLT, Option.bind_some, undef, opBox, Value.cells, setCells, Nat.reduceLeDiff, Array.toList, bin_cteq, bldT, bldA, bldV, no_ints, one_int, no_bytes, one_ans, wk5, wk0, fxC22p, dc, e0, e2, e21, e22, e23, lh3, no_bytes, lw3, q1, st3, ld5, st5, ld6, two_of]
        exact done hc'
      · have dc : decide (C.mem.length < 2 * manyIn C.mem (alikeN C.ans C.nodes a)) = false := decide_eq_false hc
        have hc' : condC C a = false := by rw [condC, d0, d1, d2, dc]; rfl
        simp only [evOp, evParts, okVal, ev1, evs, evOpt, envOf, List.lookup_nil, List.size_toArray, List.length_cons, List.length_nil, List.range, List.range.loop, Nat.zero_add, Nat.reduceAdd, Bool.not_false, Bool.not_true, Bool.true_or, if_true, if_false, reduceIte, Nat.reduceEqDiff, reduceCtorEq, List.getElem?_toArray, List.getElem?_cons_zero, List.getElem?_cons_succ, guardOf, constOk, constCell, evBuiltin, opLen, List.head?_cons, foldV, min2V, max2V, Int.reduceLT, Int.reduceEq, Kend, resOf, Bool.false_eq_true, Bool.true_eq_false, IntKind.signed, IntKind.max, opConvert, aggOf, Option.some.injEq, Value.bool.injEq, exists_eq_left', true_and, forall_const, decide_eq_true_eq, decide_eq_false_iff_not, Int.natCast_nonneg, and_self, Int.toNat_natCast, Nat.mul_one, List.append_nil, beq_self_eq_true, Nat.lt_irrefl, Nat.zero_lt_succ, Nat.reduceLT, Option.bind_some, undef, opBox, Value.cells, setCells, Nat.reduceLeDiff, Array.toList, bin_cteq, bldT, bldA, bldV, no_ints, one_int, no_bytes, one_ans, wk5, wk0, fxC22p, dc, e0, e2, e21, e22, e23, lh3, d2]
        exact ⟨q - 1, by omega, j + 1, by omega, x02.trans y3, by rw [fsucc, hc']; rfl, by rw [w1]⟩
    have d1 : decide (C.how = 1) = false := decide_eq_false hh1
    by_cases hh2 : C.how = 2
    · have d2 : decide (C.how = 2) = true := decide_eq_true hh2
      have lv2 := lgv m2 x02
      simp only [evOp, evParts, okVal, ev1, evs, evOpt, envOf, List.lookup_nil, List.size_toArray, List.length_cons, List.length_nil, List.range, List.range.loop, Nat.zero_add, Nat.reduceAdd, Bool.not_false, Bool.not_true, Bool.true_or, if_true, if_false, reduceIte, Nat.reduceEqDiff, reduceCtorEq, List.getElem?_toArray, List.getElem?_cons_zero, List.getElem?_cons_succ, guardOf, constOk, constCell, evBuiltin, opLen, List.head?_cons, foldV, min2V, max2V, Int.reduceLT, Int.reduceEq, Kend, resOf, Bool.false_eq_true, Bool.true_eq_false, IntKind.signed, IntKind.max, opConvert, aggOf, Option.some.injEq, Value.bool.injEq, exists_eq_left', true_and, forall_const, decide_eq_true_eq, decide_eq_false_iff_not, Int.natCast_nonneg, and_self, Int.toNat_natCast, Nat.mul_one, List.append_nil, beq_self_eq_true, Nat.lt_irrefl, Nat.zero_lt_succ, Nat.reduceLT, Option.bind_some, undef, opBox, Value.cells, setCells, Nat.reduceLeDiff, Array.toList, bin_cteq, bldT, bldA, bldV, no_ints, one_int, no_bytes, one_ans, wk5, wk0, fxC22p, e0, e2, e21, e22, e23, lh2, d0, d1, d2, lv2]
      refine vall_ret H2.fm.rd lo.rd hm (by omega) fun m3 y3 => ?_
      cases hc : allIn C.mem (alikeN C.ans C.nodes a) with
      | true =>
        have hc' : condC C a = true := by rw [condC, d0, d1, d2, hc]; rfl
        have lw3 : opLoad Try.prog 23 (.pointer (some ⟨μ.next, 2, none⟩)) (m3.new (.cells [] 5 true)) = some w := load_cell (((x2.trans y3).trans (Ext.new _ _)).2 μ.next n1 |>.trans g1) (by simp only [aggOf, Try.underlying23]) rfl
        have sh : Shows (m3.new (.cells [] 5 true)) w (byteCells a.s) := (h3.pz (((x1.trans x2).trans y3).pz.trans (Pz.new _ _))).shows
        obtain ⟨m4, r4, q1, q2, q3, q4, q5⟩ := copy_row (P := Try.prog) wtc (added_bytes wtc sh) (by omega)
        have y4 := (x2.trans y3).trans q5
        have g4 := (y4.2 μ.next n1).trans g1
        have x04 := x01.trans y4
        have g40 := (x04.2 m.next n0).trans g0
        have st3 : opStore Try.prog 23 (.pointer (some ⟨μ.next, 2, none⟩)) (.slice (some ⟨r4, 0, none⟩) a.s.length 1) m4 = some (m4.set μ.next (.cells [.int .i64 a.e, .int .i64 a.q, .slice (some ⟨r4, 0, none⟩) a.s.length 1] 39 true)) := store_one (P := Try.prog) g4 ts23 rfl (by simp)
        obtain ⟨m5, hm5⟩ : ∃ m5, m5 = m4.set μ.next (.cells [.int .i64 a.e, .int .i64 a.q, .slice (some ⟨r4, 0, none⟩) a.s.length 1] 39 true) := ⟨_, rfl⟩
        have g5 : m5.get μ.next = some (.cells [.int .i64 a.e, .int .i64 a.q, .slice (some ⟨r4, 0, none⟩) a.s.length 1] 39 true) := by rw [hm5]; exact set_get _ _ _
        have hxμ := xμ.1
        have k5 : ∀ j, j ≠ μ.next → m5.get j = m4.get j := fun j hj => by rw [hm5]; exact set_get_ne _ hj
        have N5 : m5.next = m4.next := by rw [hm5]; rfl
        rw [← hm5] at st3
        clear hm5
        have g50 := (k5 m.next (by omega)).trans g40
        have ld5 := ld37 g5
        have st5 := st37 (e' := a.e) (q' := a.q) (w' := .slice (some ⟨r4, 0, none⟩) a.s.length 1) g50 rfl
        have ld6 := ld37 (set_get m5 m.next (.cells [.int .i64 a.e, .int .i64 a.q, .slice (some ⟨r4, 0, none⟩) a.s.length 1] 39 true))
        have hn4 := y4.1
        have hy3 := y3.1
        have hx2 := x2.1
        have hx0 := x0.1
        have done : condC C a = true → K (.tuple #[ansV a.e a.q (.slice (some ⟨r4, 0, none⟩) a.s.length 1), .bool true]) (m5.set m.next (.cells [.int .i64 a.e, .int .i64 a.q, .slice (some ⟨r4, 0, none⟩) a.s.length 1] 39 true)) := fun hc => by
          have er2 : resC C = (a, true) := by rw [er, find_of_take (by rw [fsucc, if_pos hc])]
          rw [er2] at hK
          refine hK _ _ r4 ⟨by simp only [set_next]; omega, fun z hz => ?_⟩ (Brow.own (TB := 5) ⟨by simp only [set_next]; omega, ?_⟩) (by omega)
          · rw [set_get_ne _ (by omega), k5 z (by omega), x04.2 z (by omega), x0.2 z hz]
          · rw [set_get_ne _ (by omega), k5 r4 (by omega)]
            exact q2
        simp only [evOp, evParts, okVal, ev1, evs, evOpt, envOf, List.lookup_nil, List.size_toArray, List.length_cons, List.length_nil, List.range, List.range.loop, Nat.zero_add, Nat.reduceAdd, Bool.not_false, Bool.not_true, Bool.true_or, if_true, if_false, reduceIte, Nat.reduceEqDiff, reduceCtorEq, List.getElem?_toArray, List.getElem?_cons_zero, List.getElem?_cons_succ, guardOf, constOk, constCell, evBuiltin, opLen, List.head?_cons, foldV, min2V, max2V, Int.reduceLT, Int.reduceEq, Kend, resOf, Bool.false_eq_true, Bool.true_eq_false, IntKind.signed, IntKind.max, opConvert, aggOf, Option.some.injEq, Value.bool.injEq, exists_eq_left', true_and, forall_const, decide_eq_true_eq, decide_eq_false_iff_not, Int.natCast_nonneg, and_self, Int.toNat_natCast, Nat.mul_one, List.append_nil, beq_self_eq_true, Nat.lt_irrefl, Nat.zero_lt_succ, Nat.reduceLT, Option.bind_some, undef, opBox, Value.cells, setCells, Nat.reduceLeDiff, Array.toList, bin_cteq, bldT, bldA, bldV, no_ints, one_int, no_bytes, one_ans, wk5, wk0, fxC22p, e0, e2, e21, e22, e23, no_bytes, lw3, q1, st3, ld5, st5, ld6, two_of]
        exact done hc'
      | false =>
        have hc' : condC C a = false := by rw [condC, d0, d1, d2, hc]; rfl
        simp only [evOp, evParts, okVal, ev1, evs, evOpt, envOf, List.lookup_nil, List.size_toArray, List.length_cons, List.length_nil, List.range, List.range.loop, Nat.zero_add, Nat.reduceAdd, Bool.not_false, Bool.not_true, Bool.true_or, if_true, if_false, reduceIte, Nat.reduceEqDiff, reduceCtorEq, List.getElem?_toArray, List.getElem?_cons_zero, List.getElem?_cons_succ, guardOf, constOk, constCell, evBuiltin, opLen, List.head?_cons, foldV, min2V, max2V, Int.reduceLT, Int.reduceEq, Kend, resOf, Bool.false_eq_true, Bool.true_eq_false, IntKind.signed, IntKind.max, opConvert, aggOf, Option.some.injEq, Value.bool.injEq, exists_eq_left', true_and, forall_const, decide_eq_true_eq, decide_eq_false_iff_not, Int.natCast_nonneg, and_self, Int.toNat_natCast, Nat.mul_one, List.append_nil, beq_self_eq_true, Nat.lt_irrefl, Nat.zero_lt_succ, Nat.reduceLT, Option.bind_some, undef, opBox, Value.cells, setCells, Nat.reduceLeDiff, Array.toList, bin_cteq, bldT, bldA, bldV, no_ints, one_int, no_bytes, one_ans, wk5, wk0, fxC22p, e0, e2, e21, e22, e23]
        exact ⟨q - 1, by omega, j + 1, by omega, x02.trans y3, by rw [fsucc, hc']; rfl, by rw [w1]⟩
    have d2 : decide (C.how = 2) = false := decide_eq_false hh2
    have hc' : condC C a = false := by rw [condC, d0, d1, d2]; rfl
    simp only [evOp, evParts, okVal, ev1, evs, evOpt, envOf, List.lookup_nil, List.size_toArray, List.length_cons, List.length_nil, List.range, List.range.loop, Nat.zero_add, Nat.reduceAdd, Bool.not_false, Bool.not_true, Bool.true_or, if_true, if_false, reduceIte, Nat.reduceEqDiff, reduceCtorEq, List.getElem?_toArray, List.getElem?_cons_zero, List.getElem?_cons_succ, guardOf, constOk, constCell, evBuiltin, opLen, List.head?_cons, foldV, min2V, max2V, Int.reduceLT, Int.reduceEq, Kend, resOf, Bool.false_eq_true, Bool.true_eq_false, IntKind.signed, IntKind.max, opConvert, aggOf, Option.some.injEq, Value.bool.injEq, exists_eq_left', true_and, forall_const, decide_eq_true_eq, decide_eq_false_iff_not, Int.natCast_nonneg, and_self, Int.toNat_natCast, Nat.mul_one, List.append_nil, beq_self_eq_true, Nat.lt_irrefl, Nat.zero_lt_succ, Nat.reduceLT, Option.bind_some, undef, opBox, Value.cells, setCells, Nat.reduceLeDiff, Array.toList, bin_cteq, bldT, bldA, bldV, no_ints, one_int, no_bytes, one_ans, wk5, wk0, fxC22p, e0, e2, e21, e22, e23, lh2, d0, d1, d2]
    exact ⟨q - 1, by omega, j + 1, by omega, x02, by rw [fsucc, hc']; rfl, by rw [w1]⟩
  · obtain rfl : j = C.ans.length := by omega
    rw [List.take_length] at hf
    have Hμ := H0.ext xμ
    have lnμ := lgn μ xμ
    have lvμ := lgv μ xμ
    simp only [evOp, evParts, okVal, ev1, evs, evOpt, envOf, List.lookup_nil, List.size_toArray, List.length_cons, List.length_nil, List.range, List.range.loop, Nat.zero_add, Nat.reduceAdd, Bool.not_false, Bool.not_true, Bool.true_or, if_true, if_false, reduceIte, Nat.reduceEqDiff, reduceCtorEq, List.getElem?_toArray, List.getElem?_cons_zero, List.getElem?_cons_succ, guardOf, constOk, constCell, evBuiltin, opLen, List.head?_cons, foldV, min2V, max2V, Int.reduceLT, Int.reduceEq, Kend, resOf, Bool.false_eq_true, Bool.true_eq_false, IntKind.signed, IntKind.max, opConvert, aggOf, Option.some.injEq, Value.bool.injEq, exists_eq_left', true_and, forall_const, decide_eq_true_eq, decide_eq_false_iff_not, Int.natCast_nonneg, and_self, Int.toNat_natCast, Nat.mul_one, List.append_nil, beq_self_eq_true, Nat.lt_irrefl, Nat.zero_lt_succ, Nat.reduceLT, Option.bind_some, undef, opBox, Value.cells, setCells, Nat.reduceLeDiff, Array.toList, bin_cteq, bldT, bldA, bldV, no_ints, one_int, no_bytes, one_ans, wk5, wk0, fxC22p, e0, e2, e21, e22, e23, lnμ, lvμ]
    refine vall_ret Hμ.fm.rd Hμ.on.rd hm hl fun m3 y3 => ?_
    have x3 := xμ.trans y3
    have g3 := (x3.2 m.next n0).trans g0
    have hx3 := x3.1
    have x03 := x0.trans x3
    cases hc : allIn C.mem C.nodes with
    | true =>
      have er2 : resC C = (⟨19, 0, []⟩, true) := by rw [er, hf]; simp only [hc, if_true]
      have st := st37 (e' := 19) (q' := 0) (w' := .slice none 0 0) g3 rfl
      have ld := ld37 (set_get m3 m.next (.cells [.int .i64 19, .int .i64 0, .slice none 0 0] 39 true))
      rw [er2] at hK
      simp only [evOp, evParts, okVal, ev1, evs, evOpt, envOf, List.lookup_nil, List.size_toArray, List.length_cons, List.length_nil, List.range, List.range.loop, Nat.zero_add, Nat.reduceAdd, Bool.not_false, Bool.not_true, Bool.true_or, if_true, if_false, reduceIte, Nat.reduceEqDiff, reduceCtorEq, List.getElem?_toArray, List.getElem?_cons_zero, List.getElem?_cons_succ, guardOf, constOk, constCell, evBuiltin, opLen, List.head?_cons, foldV, min2V, max2V, Int.reduceLT, Int.reduceEq, Kend, resOf, Bool.false_eq_true, Bool.true_eq_false, IntKind.signed, IntKind.max, opConvert, aggOf, Option.some.injEq, Value.bool.injEq, exists_eq_left', true_and, forall_const, decide_eq_true_eq, decide_eq_false_iff_not, Int.natCast_nonneg, and_self, Int.toNat_natCast, Nat.mul_one, List.append_nil, beq_self_eq_true, Nat.lt_irrefl, Nat.zero_lt_succ, Nat.reduceLT, Option.bind_some, undef, opBox, Value.cells, setCells, Nat.reduceLeDiff, Array.toList, bin_cteq, bldT, bldA, bldV, no_ints, one_int, no_bytes, one_ans, wk5, wk0, fxC22p, e0, e2, e21, e22, e23, bldE, st, ld, two_of]
      exact hK _ _ m.next (x03.set (Nat.le_refl _)) OwnI.nil (Nat.le_refl _)
    | false =>
      have er2 : resC C = (⟨0, 0, []⟩, false) := by rw [er, hf]; simp only [hc, Bool.false_eq_true, if_false]
      have st := st37 (e' := 0) (q' := 0) (w' := .slice none 0 0) g3 rfl
      have ld := ld37 (set_get m3 m.next (.cells [.int .i64 0, .int .i64 0, .slice none 0 0] 39 true))
      rw [er2] at hK
      simp only [evOp, evParts, okVal, ev1, evs, evOpt, envOf, List.lookup_nil, List.size_toArray, List.length_cons, List.length_nil, List.range, List.range.loop, Nat.zero_add, Nat.reduceAdd, Bool.not_false, Bool.not_true, Bool.true_or, if_true, if_false, reduceIte, Nat.reduceEqDiff, reduceCtorEq, List.getElem?_toArray, List.getElem?_cons_zero, List.getElem?_cons_succ, guardOf, constOk, constCell, evBuiltin, opLen, List.head?_cons, foldV, min2V, max2V, Int.reduceLT, Int.reduceEq, Kend, resOf, Bool.false_eq_true, Bool.true_eq_false, IntKind.signed, IntKind.max, opConvert, aggOf, Option.some.injEq, Value.bool.injEq, exists_eq_left', true_and, forall_const, decide_eq_true_eq, decide_eq_false_iff_not, Int.natCast_nonneg, and_self, Int.toNat_natCast, Nat.mul_one, List.append_nil, beq_self_eq_true, Nat.lt_irrefl, Nat.zero_lt_succ, Nat.reduceLT, Option.bind_some, undef, opBox, Value.cells, setCells, Nat.reduceLeDiff, Array.toList, bin_cteq, bldT, bldA, bldV, no_ints, one_int, no_bytes, one_ans, wk5, wk0, fxC22p, e0, e2, e21, e22, e23, st, ld, two_of]
      exact hK _ _ m.next (x03.set (Nat.le_refl _)) OwnI.nil (Nat.le_refl _)
theorem result_nil {m : Mem} {K : Value → Mem → Prop} (hK : ∀ m', Ext m m' → K (.tuple #[ansV 0 0 (.slice none 0 0), .bool false]) m') : Ret Try.prog 22 [.pointer none] m K := by
  refine ret_wp [] Try.func22 rfl (by decide) (by kernel_rfl) ?_
  have st := st37 (e' := 0) (q' := 0) (w' := .slice none 0 0) (new_get m (.cells [.int .i64 0, .int .i64 0, .slice none 0 0] 39 true)) rfl
  have ld := ld37 (set_get (m.new (.cells [.int .i64 0, .int .i64 0, .slice none 0 0] 39 true)) m.next (.cells [.int .i64 0, .int .i64 0, .slice none 0 0] 39 true))
  simp only [evOp, evParts, okVal, ev1, evs, evOpt, envOf, List.lookup_nil, List.size_toArray, List.length_cons, List.length_nil, List.range, List.range.loop, Nat.zero_add, Nat.reduceAdd, Bool.not_false, Bool.not_true, Bool.true_or, if_true, if_false, reduceIte, Nat.reduceEqDiff, reduceCtorEq, List.getElem?_toArray, List.getElem?_cons_zero, List.getElem?_cons_succ, guardOf, constOk, constCell, evBuiltin, opLen, List.head?_cons, foldV, min2V, max2V, Int.reduceLT, Int.reduceEq, Kend, resOf, Bool.false_eq_true, Bool.true_eq_false, IntKind.signed, IntKind.max, opConvert, opIndexAddr, aggOf, Option.some.injEq, Value.bool.injEq, exists_eq_left', true_and, forall_const, decide_eq_true_eq, decide_eq_false_iff_not, Int.natCast_nonneg, and_self, Int.toNat_natCast, Nat.mul_one, List.append_nil, beq_self_eq_true, Nat.lt_irrefl, Nat.zero_lt_succ, Nat.reduceLT, Option.bind_some, undef, opBox, Value.cells, setCells, Nat.reduceLeDiff, Array.toList, bin_cteq, bldT, bldA, bldV, no_ints, one_int, no_bytes, one_ans, wk5, wk0, fxC22p, st, ld, two_of]
  exact hK _ ((Ext.new _ _).set (Nat.le_refl _))
end Go.Proofs.Ytimjcfaciiimmaa
