/- A text of the abstract machine. -/

/- LexJoins comes to true on all arguments. -/
import Derived.Test.YtbaohgjammpgjaaAmC04LexComments
set_option linter.unusedSimpArgs false
set_option linter.unusedVariables false
set_option maxRecDepth 100000
set_option maxHeartbeats 4000000
namespace Go.Proofs.Ytbaohgjammpgjaa
open Go Go.AM Go.AM.Crc Go.AM.Lex

theorem bin_tkne (a b : Int) (s : ByteArray) : binV Try.prog .neq 37 (.agg #[.int .u8 a, .int .i64 b, .string s]) (.agg #[.int .u8 a, .int .i64 b, .string s]) = some (.bool false) := by
  have h : Try.prog.eqGuardType Try.prog.depth 37 = false := by kernel_rfl
  have hs : Try.prog.stoodInHeld 37 = false := by kernel_rfl
  have e : eqIn Try.prog 40 37 (.agg #[.int .u8 a, .int .i64 b, .string s]) (.agg #[.int .u8 a, .int .i64 b, .string s]) = some true := by
    rw [show (40 : Nat) = 38 + 1 + 1 from rfl]
    simp only [eqIn, Try.underlying37, hs, eqFields, partOf, aggOf, Try.underlying3, Try.underlying9, Try.underlying35, eqCell]
    have q : (s == s) = true := by
      cases s with
      | mk d =>
        show (d == d) = true
        simp
    simp [q]
  simp only [binV, h, e]
  rfl
theorem err_place : ∀ (n : Nat) (l : List Int) (i : Nat), l.length ≤ n → ∀ e, (tokens i l).2 = some e → i ≤ e.1 ∧ e.1 < i + l.length
  | n, [], i, h, e, he => by simp [tokens_nil] at he
  | 0, c :: r, i, h, e, he => by simp at h
  | n + 1, c :: r, i, h, e, he => by
    rw [List.length_cons] at h ⊢
    have ih1 : ∀ (p : Int → Bool), (tokens (i + 1 + span p r) (r.drop (span p r))).2 = some e → i ≤ e.1 ∧ e.1 < i + (r.length + 1) := fun p he => by
      have := err_place n _ _ (by rw [List.length_drop]; omega) e he
      have hl := span_le p r
      rw [List.length_drop] at this
      omega
    have ih0 : (tokens (i + 1) r).2 = some e → i ≤ e.1 ∧ e.1 < i + (r.length + 1) := fun he => by
      have := err_place n r (i + 1) (by omega) e he
      omega
    rw [tokens_cons] at he
    split at he
    · exact ih0 he
    · split at he
      · exact ih1 noteB he
      · split at he
        · exact ih1 wordB he
        · split at he
          · split at he
            · simp at he; rw [← he]; simp
            · exact ih1 digitB he
          · split at he
            · exact ih0 he
            · simp at he; rw [← he]; simp
theorem split_err {bs : List Int} (h : ¬ (splitOf bs).2.2 = 0) (hl : bs.length ≤ 4000) : ∃ p c, splitOf bs = ([], p, c) ∧ (tokens 0 bs).2 = some (p, c) := by
  unfold splitOf at h ⊢
  rw [if_neg (by omega)] at h ⊢
  split
  · rename_i l he
    rw [he] at h
    exact (h rfl).elim
  · rename_i l p c he
    exact ⟨p, c, rfl, by rw [he]⟩
theorem split_of_err {bs : List Int} {p : Nat} {c : Int} (h : (tokens 0 bs).2 = some (p, c)) (hl : bs.length ≤ 4000) : splitOf bs = ([], p, c) := by
  have : tokens 0 bs = ((tokens 0 bs).1, some (p, c)) := by rw [← h]
  rw [splitOf, if_neg (by omega), this]
theorem split_of_ok {bs : List Int} {T : List Tk} (h : tokens 0 bs = (T, none)) (hl : bs.length ≤ 4000) : splitOf bs = (T ++ [endTk bs.length], 0, 0) := by
  rw [splitOf, if_neg (by omega), h]

theorem joins_ret {m : Mem} {v w : Value} {ks os : List Int} (hv : FB m v ks) (hk : Bytes ks) (hw : FB m w os) (ho : Bytes os) (hl : ks.length < 2 ^ 50) (hol : os.length < 2 ^ 50) : Ret Try.prog 4 [v, w] m fun v _ => v = .bool true := by
  refine ret_wp [] Try.func4 rfl (by decide) (by kernel_rfl) ?_
  simp only [optV_some, guardV_true, guardV_false, condV_true, condV_false, wpc_skip, wpc_label, wpc_exit, wpc_ret, wpc_region, wpc_seq, wpc_cond, wpc_block, wpc_scope, wpc_loop, wpo_nil, wpo_cons, wps_open, evOp, evParts, okVal, ev1, evs, evOpt, put_get, put_none, envOf, keep_some, List.lookup_nil, List.size_toArray, List.length_cons, List.length_nil, List.range, List.range.loop, Nat.zero_add, Nat.reduceAdd, Bool.not_false, Bool.not_true, Bool.true_or, if_true, if_false, reduceIte, Nat.reduceEqDiff, reduceCtorEq, List.getElem?_toArray, List.getElem?_cons_zero, List.getElem?_cons_succ, guardOf, constOk, constCell, evBuiltin, opLen, List.head?_cons, foldV, min2V, max2V, bin_add, bin_sub, bin_mul, bin_quo, bin_rem, bin_and, bin_or, bin_xor, bin_shl, bin_shr, bin_lss, bin_leq, bin_gtr, bin_geq, bin_eql, bin_neq, bin_seql, bin_beql, un_neg, un_xor, un_not, Int.reduceLT, Int.reduceEq, Kend, resOf, oneOf_one, Bool.false_eq_true, Bool.true_eq_false, IntKind.signed, IntKind.max, opConvert, opIndexAddr, opLoad, aggOf, Option.some.injEq, Value.bool.injEq, exists_eq_left', true_and, forall_const, decide_eq_true_eq, decide_eq_false_iff_not, Int.natCast_nonneg, and_self, Int.toNat_natCast, Nat.mul_one, List.append_nil, beq_self_eq_true, Nat.lt_irrefl, Nat.zero_lt_succ, Nat.reduceLT, Option.bind_some, Try.underlying3, Try.underlying4, Try.underlying5, Try.underlying9, Try.underlying22, Try.underlying25, Try.underlying26, Try.underlying27, Try.underlying30, Try.underlying34, Try.underlying35, Try.underlying37, ts3, ts4, ts5, ts9, ts22, ts25, ts26, ts27, ts30, ts34, ts35, ts37, tz3, tz4, tz5, tz9, tz22, tz25, tz26, tz27, tz30, tz34, tz35, tz37, tb3, tb4, tb5, tb9, tb22, tb25, tb26, tb27, tb30, tb34, tb35, tb37, fr3, fr4, fr5, fr6, fr7, fr8, fr9, fr10, fr11, fr12, fr13, fr14, fr15, fr16, fr17, fr18, new_get_if, new_next, set_get_if, set_next, decide_true, decide_false, beq_tt, beq_tf, beq_ft, beq_ff, undef, Nat.left_eq_add, Nat.add_eq_left, List.drop_zero, List.drop_succ_cons, List.take_succ_cons, List.take_zero, List.drop_nil, opBox, Value.cells, opStore, setCells, List.length_append, Nat.reduceLeDiff, Nat.add_zero, Nat.add_assoc, Nat.add_right_cancel_iff, List.cons_append, List.nil_append, Array.toList, Nat.reduceLT, Option.bind_some, Option.isNone_none, Option.isNone_some, al34, al37, fa34_0, fa34_1, fa34_2, fa37_0, fa37_1, fa37_2]
  refine awake_ret fun m1 x1 => ?_
  have hv := hv.pz x1.pz
  have hw := hw.pz x1.pz
  have lv := hv.len Try.underlying22
  have lw := hw.len Try.underlying22
  by_cases h1 : (60 : Int) < ks.length
  · simp only [optV_some, guardV_true, guardV_false, condV_true, condV_false, wpc_skip, wpc_label, wpc_exit, wpc_ret, wpc_region, wpc_seq, wpc_cond, wpc_block, wpc_scope, wpc_loop, wpo_nil, wpo_cons, wps_open, evOp, evParts, okVal, ev1, evs, evOpt, put_get, put_none, envOf, keep_some, List.lookup_nil, List.size_toArray, List.length_cons, List.length_nil, List.range, List.range.loop, Nat.zero_add, Nat.reduceAdd, Bool.not_false, Bool.not_true, Bool.true_or, if_true, if_false, reduceIte, Nat.reduceEqDiff, reduceCtorEq, List.getElem?_toArray, List.getElem?_cons_zero, List.getElem?_cons_succ, guardOf, constOk, constCell, evBuiltin, List.head?_cons, foldV, min2V, max2V, bin_add, bin_sub, bin_mul, bin_quo, bin_rem, bin_and, bin_or, bin_xor, bin_shl, bin_shr, bin_lss, bin_leq, bin_gtr, bin_geq, bin_eql, bin_neq, bin_seql, bin_beql, un_neg, un_xor, un_not, Int.reduceLT, Int.reduceEq, Kend, resOf, oneOf_one, Bool.false_eq_true, Bool.true_eq_false, IntKind.signed, IntKind.max, opConvert, opIndexAddr, opLoad, aggOf, Option.some.injEq, Value.bool.injEq, exists_eq_left', true_and, forall_const, decide_eq_true_eq, decide_eq_false_iff_not, Int.natCast_nonneg, and_self, Int.toNat_natCast, Nat.mul_one, List.append_nil, beq_self_eq_true, Nat.lt_irrefl, Nat.zero_lt_succ, Nat.reduceLT, Option.bind_some, Try.underlying3, Try.underlying4, Try.underlying5, Try.underlying9, Try.underlying22, Try.underlying25, Try.underlying26, Try.underlying27, Try.underlying30, Try.underlying34, Try.underlying35, Try.underlying37, ts3, ts4, ts5, ts9, ts22, ts25, ts26, ts27, ts30, ts34, ts35, ts37, tz3, tz4, tz5, tz9, tz22, tz25, tz26, tz27, tz30, tz34, tz35, tz37, tb3, tb4, tb5, tb9, tb22, tb25, tb26, tb27, tb30, tb34, tb35, tb37, fr3, fr4, fr5, fr6, fr7, fr8, fr9, fr10, fr11, fr12, fr13, fr14, fr15, fr16, fr17, fr18, new_get_if, new_next, set_get_if, set_next, decide_true, decide_false, beq_tt, beq_tf, beq_ft, beq_ff, undef, Nat.left_eq_add, Nat.add_eq_left, List.drop_zero, List.drop_succ_cons, List.take_succ_cons, List.take_zero, List.drop_nil, opBox, Value.cells, opStore, setCells, List.length_append, Nat.reduceLeDiff, Nat.add_zero, Nat.add_assoc, Nat.add_right_cancel_iff, List.cons_append, List.nil_append, Array.toList, Nat.reduceLT, Option.bind_some, Option.isNone_none, Option.isNone_some, al34, al37, fa34_0, fa34_1, fa34_2, fa37_0, fa37_1, fa37_2, lv, h1]
  by_cases h2 : (60 : Int) < os.length
  · simp only [optV_some, guardV_true, guardV_false, condV_true, condV_false, wpc_skip, wpc_label, wpc_exit, wpc_ret, wpc_region, wpc_seq, wpc_cond, wpc_block, wpc_scope, wpc_loop, wpo_nil, wpo_cons, wps_open, evOp, evParts, okVal, ev1, evs, evOpt, put_get, put_none, envOf, keep_some, List.lookup_nil, List.size_toArray, List.length_cons, List.length_nil, List.range, List.range.loop, Nat.zero_add, Nat.reduceAdd, Bool.not_false, Bool.not_true, Bool.true_or, if_true, if_false, reduceIte, Nat.reduceEqDiff, reduceCtorEq, List.getElem?_toArray, List.getElem?_cons_zero, List.getElem?_cons_succ, guardOf, constOk, constCell, evBuiltin, List.head?_cons, foldV, min2V, max2V, bin_add, bin_sub, bin_mul, bin_quo, bin_rem, bin_and, bin_or, bin_xor, bin_shl, bin_shr, bin_lss, bin_leq, bin_gtr, bin_geq, bin_eql, bin_neq, bin_seql, bin_beql, un_neg, un_xor, un_not, Int.reduceLT, Int.reduceEq, Kend, resOf, oneOf_one, Bool.false_eq_true, Bool.true_eq_false, IntKind.signed, IntKind.max, opConvert, opIndexAddr, opLoad, aggOf, Option.some.injEq, Value.bool.injEq, exists_eq_left', true_and, forall_const, decide_eq_true_eq, decide_eq_false_iff_not, Int.natCast_nonneg, and_self, Int.toNat_natCast, Nat.mul_one, List.append_nil, beq_self_eq_true, Nat.lt_irrefl, Nat.zero_lt_succ, Nat.reduceLT, Option.bind_some, Try.underlying3, Try.underlying4, Try.underlying5, Try.underlying9, Try.underlying22, Try.underlying25, Try.underlying26, Try.underlying27, Try.underlying30, Try.underlying34, Try.underlying35, Try.underlying37, ts3, ts4, ts5, ts9, ts22, ts25, ts26, ts27, ts30, ts34, ts35, ts37, tz3, tz4, tz5, tz9, tz22, tz25, tz26, tz27, tz30, tz34, tz35, tz37, tb3, tb4, tb5, tb9, tb22, tb25, tb26, tb27, tb30, tb34, tb35, tb37, fr3, fr4, fr5, fr6, fr7, fr8, fr9, fr10, fr11, fr12, fr13, fr14, fr15, fr16, fr17, fr18, new_get_if, new_next, set_get_if, set_next, decide_true, decide_false, beq_tt, beq_tf, beq_ft, beq_ff, undef, Nat.left_eq_add, Nat.add_eq_left, List.drop_zero, List.drop_succ_cons, List.take_succ_cons, List.take_zero, List.drop_nil, opBox, Value.cells, opStore, setCells, List.length_append, Nat.reduceLeDiff, Nat.add_zero, Nat.add_assoc, Nat.add_right_cancel_iff, List.cons_append, List.nil_append, Array.toList, Nat.reduceLT, Option.bind_some, Option.isNone_none, Option.isNone_some, al34, al37, fa34_0, fa34_1, fa34_2, fa37_0, fa37_1, fa37_2, lv, lw, h1, h2]
  simp only [optV_some, guardV_true, guardV_false, condV_true, condV_false, wpc_skip, wpc_label, wpc_exit, wpc_ret, wpc_region, wpc_seq, wpc_cond, wpc_block, wpc_scope, wpc_loop, wpo_nil, wpo_cons, wps_open, evOp, evParts, okVal, ev1, evs, evOpt, put_get, put_none, envOf, keep_some, List.lookup_nil, List.size_toArray, List.length_cons, List.length_nil, List.range, List.range.loop, Nat.zero_add, Nat.reduceAdd, Bool.not_false, Bool.not_true, Bool.true_or, if_true, if_false, reduceIte, Nat.reduceEqDiff, reduceCtorEq, List.getElem?_toArray, List.getElem?_cons_zero, List.getElem?_cons_succ, guardOf, constOk, constCell, evBuiltin, List.head?_cons, foldV, min2V, max2V, bin_add, bin_sub, bin_mul, bin_quo, bin_rem, bin_and, bin_or, bin_xor, bin_shl, bin_shr, bin_lss, bin_leq, bin_gtr, bin_geq, bin_eql, bin_neq, bin_seql, bin_beql, un_neg, un_xor, un_not, Int.reduceLT, Int.reduceEq, Kend, resOf, oneOf_one, Bool.false_eq_true, Bool.true_eq_false, IntKind.signed, IntKind.max, opConvert, opIndexAddr, opLoad, aggOf, Option.some.injEq, Value.bool.injEq, exists_eq_left', true_and, forall_const, decide_eq_true_eq, decide_eq_false_iff_not, Int.natCast_nonneg, and_self, Int.toNat_natCast, Nat.mul_one, List.append_nil, beq_self_eq_true, Nat.lt_irrefl, Nat.zero_lt_succ, Nat.reduceLT, Option.bind_some, Try.underlying3, Try.underlying4, Try.underlying5, Try.underlying9, Try.underlying22, Try.underlying25, Try.underlying26, Try.underlying27, Try.underlying30, Try.underlying34, Try.underlying35, Try.underlying37, ts3, ts4, ts5, ts9, ts22, ts25, ts26, ts27, ts30, ts34, ts35, ts37, tz3, tz4, tz5, tz9, tz22, tz25, tz26, tz27, tz30, tz34, tz35, tz37, tb3, tb4, tb5, tb9, tb22, tb25, tb26, tb27, tb30, tb34, tb35, tb37, fr3, fr4, fr5, fr6, fr7, fr8, fr9, fr10, fr11, fr12, fr13, fr14, fr15, fr16, fr17, fr18, new_get_if, new_next, set_get_if, set_next, decide_true, decide_false, beq_tt, beq_tf, beq_ft, beq_ff, undef, Nat.left_eq_add, Nat.add_eq_left, List.drop_zero, List.drop_succ_cons, List.take_succ_cons, List.take_zero, List.drop_nil, opBox, Value.cells, opStore, setCells, List.length_append, Nat.reduceLeDiff, Nat.add_zero, Nat.add_assoc, Nat.add_right_cancel_iff, List.cons_append, List.nil_append, Array.toList, Nat.reduceLT, Option.bind_some, Option.isNone_none, Option.isNone_some, al34, al37, fa34_0, fa34_1, fa34_2, fa37_0, fa37_1, fa37_2, lv, lw, h1, h2]
  refine text_ret (os := []) hv hk FRow.nil (by intro b h; simp at h) hl (by simp) fun m2 X x2 hX hXl => ?_
  have ct1 := cat_str (P := Try.prog) (t := 9) (x := X) (y := [10]) (by simp; omega)
  simp only [optV_some, guardV_true, guardV_false, condV_true, condV_false, wpc_skip, wpc_label, wpc_exit, wpc_ret, wpc_region, wpc_seq, wpc_cond, wpc_block, wpc_scope, wpc_loop, wpo_nil, wpo_cons, wps_open, evOp, evParts, okVal, ev1, evs, evOpt, put_get, put_none, envOf, keep_some, List.lookup_nil, List.size_toArray, List.length_cons, List.length_nil, List.range, List.range.loop, Nat.zero_add, Nat.reduceAdd, Bool.not_false, Bool.not_true, Bool.true_or, if_true, if_false, reduceIte, Nat.reduceEqDiff, reduceCtorEq, List.getElem?_toArray, List.getElem?_cons_zero, List.getElem?_cons_succ, guardOf, constOk, constCell, evBuiltin, opLen, List.head?_cons, foldV, min2V, max2V, bin_add, bin_sub, bin_mul, bin_quo, bin_rem, bin_and, bin_or, bin_xor, bin_shl, bin_shr, bin_lss, bin_leq, bin_gtr, bin_geq, bin_eql, bin_neq, bin_seql, bin_beql, un_neg, un_xor, un_not, Int.reduceLT, Int.reduceEq, Kend, resOf, oneOf_one, Bool.false_eq_true, Bool.true_eq_false, IntKind.signed, IntKind.max, opConvert, opIndexAddr, opLoad, aggOf, Option.some.injEq, Value.bool.injEq, exists_eq_left', true_and, forall_const, decide_eq_true_eq, decide_eq_false_iff_not, Int.natCast_nonneg, and_self, Int.toNat_natCast, Nat.mul_one, List.append_nil, beq_self_eq_true, Nat.lt_irrefl, Nat.zero_lt_succ, Nat.reduceLT, Option.bind_some, Try.underlying3, Try.underlying4, Try.underlying5, Try.underlying9, Try.underlying22, Try.underlying25, Try.underlying26, Try.underlying27, Try.underlying30, Try.underlying34, Try.underlying35, Try.underlying37, ts3, ts4, ts5, ts9, ts22, ts25, ts26, ts27, ts30, ts34, ts35, ts37, tz3, tz4, tz5, tz9, tz22, tz25, tz26, tz27, tz30, tz34, tz35, tz37, tb3, tb4, tb5, tb9, tb22, tb25, tb26, tb27, tb30, tb34, tb35, tb37, fr3, fr4, fr5, fr6, fr7, fr8, fr9, fr10, fr11, fr12, fr13, fr14, fr15, fr16, fr17, fr18, new_get_if, new_next, set_get_if, set_next, decide_true, decide_false, beq_tt, beq_tf, beq_ft, beq_ff, undef, Nat.left_eq_add, Nat.add_eq_left, List.drop_zero, List.drop_succ_cons, List.take_succ_cons, List.take_zero, List.drop_nil, opBox, Value.cells, opStore, setCells, List.length_append, Nat.reduceLeDiff, Nat.add_zero, Nat.add_assoc, Nat.add_right_cancel_iff, List.cons_append, List.nil_append, Array.toList, Nat.reduceLT, Option.bind_some, Option.isNone_none, Option.isNone_some, al34, al37, fa34_0, fa34_1, fa34_2, fa37_0, fa37_1, fa37_2, nl_eq, ct1]
  refine text_ret (os := []) (hw.pz x2.pz) ho FRow.nil (by intro b h; simp at h) hol (by simp) fun m3 Y x3 hY hYl => ?_
  have ct2 := cat_str (P := Try.prog) (t := 9) (x := X ++ [10]) (y := Y) (by simp; omega)
  have e2 : X ++ [10] ++ Y = X ++ 10 :: Y := by simp
  rw [e2] at ct2
  have b10 : (0 : Int) ≤ 10 ∧ (10 : Int) < 256 := by decide
  have hbx : Bytes (X ++ [10]) := bytes_app hX (bytes_cons b10 (by intro b h; simp at h))
  have lx := len_str (P := Try.prog) Try.underlying9 (bs := X ++ [10])
  have lxn : (X ++ [10]).length = X.length + 1 := by simp
  rw [lxn] at lx
  obtain ⟨D, hD⟩ : ∃ D, D = X.length + 1 := ⟨_, rfl⟩
  rw [← hD] at lx
  have j1 := tokens_join X.length X [] 0 (Nat.le_refl _)
  have j2 := tokens_join X.length X Y 0 (Nat.le_refl _)
  have j3 := tokens_shift D Y.length Y 0 (Nat.le_refl _)
  rw [Nat.zero_add] at j3
  have hlx : (X ++ [10]).length ≤ 4000 := by omega
  have hly : Y.length ≤ 4000 := by omega
  have hlxy : (X ++ 10 :: Y).length ≤ 4000 := by simp; omega
  simp only [optV_some, guardV_true, guardV_false, condV_true, condV_false, wpc_skip, wpc_label, wpc_exit, wpc_ret, wpc_region, wpc_seq, wpc_cond, wpc_block, wpc_scope, wpc_loop, wpo_nil, wpo_cons, wps_open, evOp, evParts, okVal, ev1, evs, evOpt, put_get, put_none, envOf, keep_some, List.lookup_nil, List.size_toArray, List.length_cons, List.length_nil, List.range, List.range.loop, Nat.zero_add, Nat.reduceAdd, Bool.not_false, Bool.not_true, Bool.true_or, if_true, if_false, reduceIte, Nat.reduceEqDiff, reduceCtorEq, List.getElem?_toArray, List.getElem?_cons_zero, List.getElem?_cons_succ, guardOf, constOk, constCell, evBuiltin, opLen, List.head?_cons, foldV, min2V, max2V, bin_add, bin_sub, bin_mul, bin_quo, bin_rem, bin_and, bin_or, bin_xor, bin_shl, bin_shr, bin_lss, bin_leq, bin_gtr, bin_geq, bin_eql, bin_neq, bin_seql, bin_beql, un_neg, un_xor, un_not, Int.reduceLT, Int.reduceEq, Kend, resOf, oneOf_one, Bool.false_eq_true, Bool.true_eq_false, IntKind.signed, IntKind.max, opConvert, opIndexAddr, opLoad, aggOf, Option.some.injEq, Value.bool.injEq, exists_eq_left', true_and, forall_const, decide_eq_true_eq, decide_eq_false_iff_not, Int.natCast_nonneg, and_self, Int.toNat_natCast, Nat.mul_one, List.append_nil, beq_self_eq_true, Nat.lt_irrefl, Nat.zero_lt_succ, Nat.reduceLT, Option.bind_some, Try.underlying3, Try.underlying4, Try.underlying5, Try.underlying9, Try.underlying22, Try.underlying25, Try.underlying26, Try.underlying27, Try.underlying30, Try.underlying34, Try.underlying35, Try.underlying37, ts3, ts4, ts5, ts9, ts22, ts25, ts26, ts27, ts30, ts34, ts35, ts37, tz3, tz4, tz5, tz9, tz22, tz25, tz26, tz27, tz30, tz34, tz35, tz37, tb3, tb4, tb5, tb9, tb22, tb25, tb26, tb27, tb30, tb34, tb35, tb37, fr3, fr4, fr5, fr6, fr7, fr8, fr9, fr10, fr11, fr12, fr13, fr14, fr15, fr16, fr17, fr18, new_get_if, new_next, set_get_if, set_next, decide_true, decide_false, beq_tt, beq_tf, beq_ft, beq_ff, undef, Nat.left_eq_add, Nat.add_eq_left, List.drop_zero, List.drop_succ_cons, List.take_succ_cons, List.take_zero, List.drop_nil, opBox, Value.cells, opStore, setCells, List.length_append, Nat.reduceLeDiff, Nat.add_zero, Nat.add_assoc, Nat.add_right_cancel_iff, Array.toList, Nat.reduceLT, Option.bind_some, Option.isNone_none, Option.isNone_some, al34, al37, fa34_0, fa34_1, fa34_2, fa37_0, fa37_1, fa37_2]
  refine split_ret hbx fun m4 l1 r1 T1 => ?_
  simp only [optV_some, guardV_true, guardV_false, condV_true, condV_false, wpc_skip, wpc_label, wpc_exit, wpc_ret, wpc_region, wpc_seq, wpc_cond, wpc_block, wpc_scope, wpc_loop, wpo_nil, wpo_cons, wps_open, evOp, evParts, okVal, ev1, evs, evOpt, put_get, put_none, envOf, keep_some, List.lookup_nil, List.size_toArray, List.length_cons, List.length_nil, List.range, List.range.loop, Nat.zero_add, Nat.reduceAdd, Bool.not_false, Bool.not_true, Bool.true_or, if_true, if_false, reduceIte, Nat.reduceEqDiff, reduceCtorEq, List.getElem?_toArray, List.getElem?_cons_zero, List.getElem?_cons_succ, guardOf, constOk, constCell, evBuiltin, opLen, List.head?_cons, foldV, min2V, max2V, bin_add, bin_sub, bin_mul, bin_quo, bin_rem, bin_and, bin_or, bin_xor, bin_shl, bin_shr, bin_lss, bin_leq, bin_gtr, bin_geq, bin_eql, bin_neq, bin_seql, bin_beql, un_neg, un_xor, un_not, Int.reduceLT, Int.reduceEq, Kend, resOf, oneOf_one, Bool.false_eq_true, Bool.true_eq_false, IntKind.signed, IntKind.max, opConvert, opIndexAddr, opLoad, aggOf, Option.some.injEq, Value.bool.injEq, exists_eq_left', true_and, forall_const, decide_eq_true_eq, decide_eq_false_iff_not, Int.natCast_nonneg, and_self, Int.toNat_natCast, Nat.mul_one, List.append_nil, beq_self_eq_true, Nat.lt_irrefl, Nat.zero_lt_succ, Nat.reduceLT, Option.bind_some, Try.underlying3, Try.underlying4, Try.underlying5, Try.underlying9, Try.underlying22, Try.underlying25, Try.underlying26, Try.underlying27, Try.underlying30, Try.underlying34, Try.underlying35, Try.underlying37, ts3, ts4, ts5, ts9, ts22, ts25, ts26, ts27, ts30, ts34, ts35, ts37, tz3, tz4, tz5, tz9, tz22, tz25, tz26, tz27, tz30, tz34, tz35, tz37, tb3, tb4, tb5, tb9, tb22, tb25, tb26, tb27, tb30, tb34, tb35, tb37, fr3, fr4, fr5, fr6, fr7, fr8, fr9, fr10, fr11, fr12, fr13, fr14, fr15, fr16, fr17, fr18, new_get_if, new_next, set_get_if, set_next, decide_true, decide_false, beq_tt, beq_tf, beq_ft, beq_ff, undef, Nat.left_eq_add, Nat.add_eq_left, List.drop_zero, List.drop_succ_cons, List.take_succ_cons, List.take_zero, List.drop_nil, opBox, Value.cells, opStore, setCells, List.length_append, Nat.reduceLeDiff, Nat.add_zero, Nat.add_assoc, Nat.add_right_cancel_iff, List.cons_append, List.nil_append, Array.toList, Nat.reduceLT, Option.bind_some, Option.isNone_none, Option.isNone_some, al34, al37, fa34_0, fa34_1, fa34_2, fa37_0, fa37_1, fa37_2]
  refine split_ret hY fun m5 l2 r2 T2 => ?_
  have T1 : Toks m3 m5 l1 r1 _ := GrowR.ext T1 T2.1
  simp only [optV_some, guardV_true, guardV_false, condV_true, condV_false, wpc_skip, wpc_label, wpc_exit, wpc_ret, wpc_region, wpc_seq, wpc_cond, wpc_block, wpc_scope, wpc_loop, wpo_nil, wpo_cons, wps_open, evOp, evParts, okVal, ev1, evs, evOpt, put_get, put_none, envOf, keep_some, List.lookup_nil, List.size_toArray, List.length_cons, List.length_nil, List.range, List.range.loop, Nat.zero_add, Nat.reduceAdd, Bool.not_false, Bool.not_true, Bool.true_or, if_true, if_false, reduceIte, Nat.reduceEqDiff, reduceCtorEq, List.getElem?_toArray, List.getElem?_cons_zero, List.getElem?_cons_succ, guardOf, constOk, constCell, evBuiltin, opLen, List.head?_cons, foldV, min2V, max2V, bin_add, bin_sub, bin_mul, bin_quo, bin_rem, bin_and, bin_or, bin_xor, bin_shl, bin_shr, bin_lss, bin_leq, bin_gtr, bin_geq, bin_eql, bin_neq, bin_seql, bin_beql, un_neg, un_xor, un_not, Int.reduceLT, Int.reduceEq, Kend, resOf, oneOf_one, Bool.false_eq_true, Bool.true_eq_false, IntKind.signed, IntKind.max, opConvert, opIndexAddr, opLoad, aggOf, Option.some.injEq, Value.bool.injEq, exists_eq_left', true_and, forall_const, decide_eq_true_eq, decide_eq_false_iff_not, Int.natCast_nonneg, and_self, Int.toNat_natCast, Nat.mul_one, List.append_nil, beq_self_eq_true, Nat.lt_irrefl, Nat.zero_lt_succ, Nat.reduceLT, Option.bind_some, Try.underlying3, Try.underlying4, Try.underlying5, Try.underlying9, Try.underlying22, Try.underlying25, Try.underlying26, Try.underlying27, Try.underlying30, Try.underlying34, Try.underlying35, Try.underlying37, ts3, ts4, ts5, ts9, ts22, ts25, ts26, ts27, ts30, ts34, ts35, ts37, tz3, tz4, tz5, tz9, tz22, tz25, tz26, tz27, tz30, tz34, tz35, tz37, tb3, tb4, tb5, tb9, tb22, tb25, tb26, tb27, tb30, tb34, tb35, tb37, fr3, fr4, fr5, fr6, fr7, fr8, fr9, fr10, fr11, fr12, fr13, fr14, fr15, fr16, fr17, fr18, new_get_if, new_next, set_get_if, set_next, decide_true, decide_false, beq_tt, beq_tf, beq_ft, beq_ff, undef, Nat.left_eq_add, Nat.add_eq_left, List.drop_zero, List.drop_succ_cons, List.take_succ_cons, List.take_zero, List.drop_nil, opBox, Value.cells, opStore, setCells, List.length_append, Nat.reduceLeDiff, Nat.add_zero, Nat.add_assoc, Nat.add_right_cancel_iff, List.cons_append, List.nil_append, Array.toList, Nat.reduceLT, Option.bind_some, Option.isNone_none, Option.isNone_some, al34, al37, fa34_0, fa34_1, fa34_2, fa37_0, fa37_1, fa37_2, ct2]
  refine split_ret (bytes_app hX (bytes_cons b10 hY)) fun m6 l3 r3 T3 => ?_
  have T1 : Toks m3 m6 l1 r1 _ := GrowR.ext T1 T3.1
  have T2 : Toks m4 m6 l2 r2 _ := GrowR.ext T2 T3.1
  have lt1 := T1.2.1.len (P := Try.prog) Try.underlying26
  have lt2 := T2.2.1.len (P := Try.prog) Try.underlying26
  have lt3 := T3.2.1.len (P := Try.prog) Try.underlying26
  by_cases hex : (tokens 0 X).2.isSome = true
  · rw [if_pos hex] at j1 j2
    obtain ⟨⟨p, c⟩, hpc⟩ := Option.isSome_iff_exists.1 hex
    have s1 := split_of_err (by rw [j1]; exact hpc) hlx
    have s3 := split_of_err (by rw [j2]; exact hpc) hlxy
    rw [s1, s3]
    have hc : ¬ c = 0 := fun h => by
      have := split_right (bs := X ++ [10]) (by rw [s1]; exact h) hlx
      obtain ⟨T, h1, h2⟩ := this
      rw [s1] at h1
      simp at h1
    simp only [optV_some, guardV_true, guardV_false, condV_true, condV_false, wpc_skip, wpc_label, wpc_exit, wpc_ret, wpc_region, wpc_seq, wpc_cond, wpc_block, wpc_scope, wpc_loop, wpo_nil, wpo_cons, wps_open, evOp, evParts, okVal, ev1, evs, evOpt, put_get, put_none, envOf, keep_some, List.lookup_nil, List.size_toArray, List.length_cons, List.length_nil, List.range, List.range.loop, Nat.zero_add, Nat.reduceAdd, Bool.not_false, Bool.not_true, Bool.true_or, if_true, if_false, reduceIte, Nat.reduceEqDiff, reduceCtorEq, List.getElem?_toArray, List.getElem?_cons_zero, List.getElem?_cons_succ, guardOf, constOk, constCell, evBuiltin, opLen, List.head?_cons, foldV, min2V, max2V, bin_add, bin_sub, bin_mul, bin_quo, bin_rem, bin_and, bin_or, bin_xor, bin_shl, bin_shr, bin_lss, bin_leq, bin_gtr, bin_geq, bin_eql, bin_neq, bin_seql, bin_beql, un_neg, un_xor, un_not, Int.reduceLT, Int.reduceEq, Kend, resOf, oneOf_one, Bool.false_eq_true, Bool.true_eq_false, IntKind.signed, IntKind.max, opConvert, opIndexAddr, opLoad, aggOf, Option.some.injEq, Value.bool.injEq, exists_eq_left', true_and, forall_const, decide_eq_true_eq, decide_eq_false_iff_not, Int.natCast_nonneg, and_self, Int.toNat_natCast, Nat.mul_one, List.append_nil, beq_self_eq_true, Nat.lt_irrefl, Nat.zero_lt_succ, Nat.reduceLT, Option.bind_some, Try.underlying3, Try.underlying4, Try.underlying5, Try.underlying9, Try.underlying22, Try.underlying25, Try.underlying26, Try.underlying27, Try.underlying30, Try.underlying34, Try.underlying35, Try.underlying37, ts3, ts4, ts5, ts9, ts22, ts25, ts26, ts27, ts30, ts34, ts35, ts37, tz3, tz4, tz5, tz9, tz22, tz25, tz26, tz27, tz30, tz34, tz35, tz37, tb3, tb4, tb5, tb9, tb22, tb25, tb26, tb27, tb30, tb34, tb35, tb37, fr3, fr4, fr5, fr6, fr7, fr8, fr9, fr10, fr11, fr12, fr13, fr14, fr15, fr16, fr17, fr18, new_get_if, new_next, set_get_if, set_next, decide_true, decide_false, beq_tt, beq_tf, beq_ft, beq_ff, undef, Nat.left_eq_add, Nat.add_eq_left, List.drop_zero, List.drop_succ_cons, List.take_succ_cons, List.take_zero, List.drop_nil, opBox, Value.cells, opStore, setCells, List.length_append, Nat.reduceLeDiff, Nat.add_zero, Nat.add_assoc, Nat.add_right_cancel_iff, List.cons_append, List.nil_append, Array.toList, Nat.reduceLT, Option.bind_some, Option.isNone_none, Option.isNone_some, al34, al37, fa34_0, fa34_1, fa34_2, fa37_0, fa37_1, fa37_2, hc, ne_eq, not_false_eq_true]
  rw [if_neg hex] at j1 j2
  rw [tokens_nil] at j1
  simp only [List.append_nil] at j1
  have s1 := split_of_ok j1 hlx
  rw [Nat.zero_add, ← hD, j3] at j2
  by_cases hey : (splitOf Y).2.2 = 0
  rotate_left
  · obtain ⟨p, c, s2, hpc⟩ := split_err hey hly
    rw [s2] at hey
    rw [hpc] at j2
    have s3 := split_of_err (p := p + D) (c := c) (by rw [j2]; rfl) hlxy
    rw [s3] at lt3
    have wp : IntKind.i64.wrap ((p : Int) + D) = ((p + D : Nat) : Int) := by
      have hpp := err_place Y.length Y 0 (Nat.le_refl _) (p, c) hpc
      simp only at hpp
      rw [wrap_i64 (by omega) (by omega)]; omega
    rw [s1, s2, s3]
    simp only at hey
    simp only [optV_some, guardV_true, guardV_false, condV_true, condV_false, wpc_skip, wpc_label, wpc_exit, wpc_ret, wpc_region, wpc_seq, wpc_cond, wpc_block, wpc_scope, wpc_loop, wpo_nil, wpo_cons, wps_open, evOp, evParts, okVal, ev1, evs, evOpt, put_get, put_none, envOf, keep_some, List.lookup_nil, List.size_toArray, List.length_cons, List.length_nil, List.range, List.range.loop, Nat.zero_add, Nat.reduceAdd, Bool.not_false, Bool.not_true, Bool.true_or, if_true, if_false, reduceIte, Nat.reduceEqDiff, reduceCtorEq, List.getElem?_toArray, List.getElem?_cons_zero, List.getElem?_cons_succ, guardOf, constOk, constCell, evBuiltin, List.head?_cons, foldV, min2V, max2V, bin_add, bin_sub, bin_mul, bin_quo, bin_rem, bin_and, bin_or, bin_xor, bin_shl, bin_shr, bin_lss, bin_leq, bin_gtr, bin_geq, bin_eql, bin_neq, bin_seql, bin_beql, un_neg, un_xor, un_not, Int.reduceLT, Int.reduceEq, Kend, resOf, oneOf_one, Bool.false_eq_true, Bool.true_eq_false, IntKind.signed, IntKind.max, opConvert, opIndexAddr, opLoad, aggOf, Option.some.injEq, Value.bool.injEq, exists_eq_left', true_and, forall_const, decide_eq_true_eq, decide_eq_false_iff_not, Int.natCast_nonneg, and_self, Int.toNat_natCast, Nat.mul_one, List.append_nil, beq_self_eq_true, Nat.lt_irrefl, Nat.zero_lt_succ, Nat.reduceLT, Option.bind_some, Try.underlying3, Try.underlying4, Try.underlying5, Try.underlying9, Try.underlying22, Try.underlying25, Try.underlying26, Try.underlying27, Try.underlying30, Try.underlying34, Try.underlying35, Try.underlying37, ts3, ts4, ts5, ts9, ts22, ts25, ts26, ts27, ts30, ts34, ts35, ts37, tz3, tz4, tz5, tz9, tz22, tz25, tz26, tz27, tz30, tz34, tz35, tz37, tb3, tb4, tb5, tb9, tb22, tb25, tb26, tb27, tb30, tb34, tb35, tb37, fr3, fr4, fr5, fr6, fr7, fr8, fr9, fr10, fr11, fr12, fr13, fr14, fr15, fr16, fr17, fr18, new_get_if, new_next, set_get_if, set_next, decide_true, decide_false, beq_tt, beq_tf, beq_ft, beq_ff, undef, Nat.left_eq_add, Nat.add_eq_left, List.drop_zero, List.drop_succ_cons, List.take_succ_cons, List.take_zero, List.drop_nil, opBox, Value.cells, opStore, setCells, List.length_append, Nat.reduceLeDiff, Nat.add_zero, Nat.add_assoc, Nat.add_right_cancel_iff, List.cons_append, List.nil_append, Array.toList, Nat.reduceLT, Option.bind_some, Option.isNone_none, Option.isNone_some, al34, al37, fa34_0, fa34_1, fa34_2, fa37_0, fa37_1, fa37_2, lx, lt3, wp, hey, ne_eq, not_true_eq_false, not_false_eq_true]
    rfl
  obtain ⟨TY, s2, htY⟩ := split_right hey hly
  rw [htY] at j2
  simp only [Option.map_none] at j2
  have s3 := split_of_ok j2 hlxy
  rw [lxn, ← hD] at s1
  obtain ⟨TX, hTX⟩ : ∃ TX, TX = (tokens 0 X).1 := ⟨_, rfl⟩
  rw [← hTX] at s1 s3
  have e3 : TX ++ TY.map (Tk.by D) ++ [endTk (X ++ 10 :: Y).length] = TX ++ (TY ++ [endTk Y.length]).map (Tk.by D) := by
    rw [List.map_append, List.append_assoc]
    congr 2
    simp [endTk, Tk.by]
    omega
  rw [e3] at s3
  have c1 := split_count (X ++ [10])
  have c2 := split_count Y
  have c3 := split_count (X ++ 10 :: Y)
  rw [s1] at c1 lt1 T1
  rw [s2] at c2 lt2 T2
  rw [s3] at c3 lt3 T3
  simp only at c1 c2 c3 lt1 lt2 lt3 T1 T2 T3
  obtain ⟨L2, hL2⟩ : ∃ L2, L2 = TY ++ [endTk Y.length] := ⟨_, rfl⟩
  obtain ⟨L1, hL1⟩ : ∃ L1, L1 = TX ++ [endTk D] := ⟨_, rfl⟩
  obtain ⟨L3, hL3⟩ : ∃ L3, L3 = TX ++ L2.map (Tk.by D) := ⟨_, rfl⟩
  rw [← hL2, ← hL3] at c3 lt3 T3
  rw [← hL2] at c2 lt2 T2
  rw [← hL1] at c1 lt1 T1
  rw [s1, s2, s3]
  have n1 : L1.length = TX.length + 1 := by rw [hL1]; simp
  have n3 : L3.length = TX.length + L2.length := by rw [hL3]; simp
  have q1 : ((X ++ [10]).length : Nat) ≤ 500 := by omega
  have q2 : Y.length ≤ 500 := by omega
  have w1 : IntKind.i64.wrap ((L1.length : Int) + (L2.length : Int)) = ((L1.length + L2.length : Nat) : Int) := by rw [wrap_i64 (by omega) (by omega)]; omega
  have w2 : IntKind.i64.wrap (((L1.length + L2.length : Nat) : Int) - 1) = (L3.length : Int) := by rw [wrap_i64 (by omega) (by omega)]; omega
  have w3 : IntKind.i64.wrap ((L1.length : Int) - 1) = (TX.length : Int) := by rw [wrap_i64 (by omega) (by omega)]; omega
  simp only [optV_some, guardV_true, guardV_false, condV_true, condV_false, wpc_skip, wpc_label, wpc_exit, wpc_ret, wpc_region, wpc_seq, wpc_cond, wpc_block, wpc_scope, wpc_loop, wpo_nil, wpo_cons, wps_open, evOp, evParts, okVal, ev1, evs, evOpt, put_get, put_none, envOf, keep_some, List.lookup_nil, List.size_toArray, List.length_cons, List.length_nil, List.range, List.range.loop, Nat.zero_add, Nat.reduceAdd, Bool.not_false, Bool.not_true, Bool.true_or, if_true, if_false, reduceIte, Nat.reduceEqDiff, reduceCtorEq, List.getElem?_toArray, List.getElem?_cons_zero, List.getElem?_cons_succ, guardOf, constOk, constCell, evBuiltin, List.head?_cons, foldV, min2V, max2V, bin_add, bin_sub, bin_mul, bin_quo, bin_rem, bin_and, bin_or, bin_xor, bin_shl, bin_shr, bin_lss, bin_leq, bin_gtr, bin_geq, bin_eql, bin_neq, bin_seql, bin_beql, un_neg, un_xor, un_not, Int.reduceLT, Int.reduceEq, Kend, resOf, oneOf_one, Bool.false_eq_true, Bool.true_eq_false, IntKind.signed, IntKind.max, opConvert, opIndexAddr, opLoad, aggOf, Option.some.injEq, Value.bool.injEq, exists_eq_left', true_and, forall_const, decide_eq_true_eq, decide_eq_false_iff_not, Int.natCast_nonneg, and_self, Int.toNat_natCast, Nat.mul_one, List.append_nil, beq_self_eq_true, Nat.lt_irrefl, Nat.zero_lt_succ, Nat.reduceLT, Option.bind_some, Try.underlying3, Try.underlying4, Try.underlying5, Try.underlying9, Try.underlying22, Try.underlying25, Try.underlying26, Try.underlying27, Try.underlying30, Try.underlying34, Try.underlying35, Try.underlying37, ts3, ts4, ts5, ts9, ts22, ts25, ts26, ts27, ts30, ts34, ts35, ts37, tz3, tz4, tz5, tz9, tz22, tz25, tz26, tz27, tz30, tz34, tz35, tz37, tb3, tb4, tb5, tb9, tb22, tb25, tb26, tb27, tb30, tb34, tb35, tb37, fr3, fr4, fr5, fr6, fr7, fr8, fr9, fr10, fr11, fr12, fr13, fr14, fr15, fr16, fr17, fr18, new_get_if, new_next, set_get_if, set_next, decide_true, decide_false, beq_tt, beq_tf, beq_ft, beq_ff, undef, Nat.left_eq_add, Nat.add_eq_left, List.drop_zero, List.drop_succ_cons, List.take_succ_cons, List.take_zero, List.drop_nil, opBox, Value.cells, opStore, setCells, List.length_append, Nat.reduceLeDiff, Nat.add_zero, Nat.add_assoc, Nat.add_right_cancel_iff, List.cons_append, List.nil_append, Array.toList, Nat.reduceLT, Option.bind_some, Option.isNone_none, Option.isNone_some, al34, al37, fa34_0, fa34_1, fa34_2, fa37_0, fa37_1, fa37_2, lt1, lt2, lt3, w1, w2, ne_eq, not_true_eq_false]
  refine loop_wp [] (by kernel_rfl) (fun k' env' μ' => Toks m3 μ' l1 r1 L1 ∧ Toks m4 μ' l2 r2 L2 ∧ Toks m5 μ' l3 r3 L3 ∧ ∃ j : Nat, j + k' = L3.length ∧ env' 92 = some (.int .i64 j) ∧ env' 91 = some (.int .i64 L3.length) ∧ env' 90 = some l3 ∧ env' 7 = some l1 ∧ env' 10 = some l2 ∧ env' 5 = some (.string (strOf (X ++ [10])))) ?_ L3.length
    ⟨T1, T2, T3, 0, by simp, rfl, rfl, rfl, rfl, rfl, rfl⟩
  clear T1 T2 T3
  rintro k' env' μ' ⟨T1, T2, T3, j, hkj, h92, h91, h90, h7, h10, h5⟩
  simp only [optV_some, guardV_true, guardV_false, condV_true, condV_false, wpc_skip, wpc_label, wpc_exit, wpc_ret, wpc_region, wpc_seq, wpc_cond, wpc_block, wpc_scope, wpc_loop, wpo_nil, wpo_cons, wps_open, evOp, evParts, okVal, ev1, evs, evOpt, put_get, put_none, envOf, keep_some, List.lookup_nil, List.size_toArray, List.length_cons, List.length_nil, List.range, List.range.loop, Nat.zero_add, Nat.reduceAdd, Bool.not_false, Bool.not_true, Bool.true_or, if_true, if_false, reduceIte, Nat.reduceEqDiff, reduceCtorEq, List.getElem?_toArray, List.getElem?_cons_zero, List.getElem?_cons_succ, guardOf, constOk, constCell, evBuiltin, opLen, List.head?_cons, foldV, min2V, max2V, bin_add, bin_sub, bin_mul, bin_quo, bin_rem, bin_and, bin_or, bin_xor, bin_shl, bin_shr, bin_lss, bin_leq, bin_gtr, bin_geq, bin_eql, bin_neq, bin_seql, bin_beql, un_neg, un_xor, un_not, Int.reduceLT, Int.reduceEq, Kend, resOf, oneOf_one, Bool.false_eq_true, Bool.true_eq_false, IntKind.signed, IntKind.max, opConvert, opIndexAddr, opLoad, aggOf, Option.some.injEq, Value.bool.injEq, exists_eq_left', true_and, forall_const, decide_eq_true_eq, decide_eq_false_iff_not, Int.natCast_nonneg, and_self, Int.toNat_natCast, Nat.mul_one, List.append_nil, beq_self_eq_true, Nat.lt_irrefl, Nat.zero_lt_succ, Nat.reduceLT, Option.bind_some, Try.underlying3, Try.underlying4, Try.underlying5, Try.underlying9, Try.underlying22, Try.underlying25, Try.underlying26, Try.underlying27, Try.underlying30, Try.underlying34, Try.underlying35, Try.underlying37, ts3, ts4, ts5, ts9, ts22, ts25, ts26, ts27, ts30, ts34, ts35, ts37, tz3, tz4, tz5, tz9, tz22, tz25, tz26, tz27, tz30, tz34, tz35, tz37, tb3, tb4, tb5, tb9, tb22, tb25, tb26, tb27, tb30, tb34, tb35, tb37, fr3, fr4, fr5, fr6, fr7, fr8, fr9, fr10, fr11, fr12, fr13, fr14, fr15, fr16, fr17, fr18, new_get_if, new_next, set_get_if, set_next, decide_true, decide_false, beq_tt, beq_tf, beq_ft, beq_ff, undef, Nat.left_eq_add, Nat.add_eq_left, List.drop_zero, List.drop_succ_cons, List.take_succ_cons, List.take_zero, List.drop_nil, opBox, Value.cells, opStore, setCells, List.length_append, Nat.reduceLeDiff, Nat.add_zero, Nat.add_assoc, Nat.add_right_cancel_iff, List.cons_append, List.nil_append, Array.toList, Nat.reduceLT, Option.bind_some, Option.isNone_none, Option.isNone_some, al34, al37, fa34_0, fa34_1, fa34_2, fa37_0, fa37_1, fa37_2, h92, h91]
  refine cond_by (fun hj => ?_) (fun hj => ?_)
  rotate_left
  · simp only [optV_some, guardV_true, guardV_false, condV_true, condV_false, wpc_skip, wpc_label, wpc_exit, wpc_ret, wpc_region, wpc_seq, wpc_cond, wpc_block, wpc_scope, wpc_loop, wpo_nil, wpo_cons, wps_open, evOp, evParts, okVal, ev1, evs, evOpt, put_get, put_none, envOf, keep_some, List.lookup_nil, List.size_toArray, List.length_cons, List.length_nil, List.range, List.range.loop, Nat.zero_add, Nat.reduceAdd, Bool.not_false, Bool.not_true, Bool.true_or, if_true, if_false, reduceIte, Nat.reduceEqDiff, reduceCtorEq, List.getElem?_toArray, List.getElem?_cons_zero, List.getElem?_cons_succ, guardOf, constOk, constCell, evBuiltin, opLen, List.head?_cons, foldV, min2V, max2V, bin_add, bin_sub, bin_mul, bin_quo, bin_rem, bin_and, bin_or, bin_xor, bin_shl, bin_shr, bin_lss, bin_leq, bin_gtr, bin_geq, bin_eql, bin_neq, bin_seql, bin_beql, un_neg, un_xor, un_not, Int.reduceLT, Int.reduceEq, Kend, resOf, oneOf_one, Bool.false_eq_true, Bool.true_eq_false, IntKind.signed, IntKind.max, opConvert, opIndexAddr, opLoad, aggOf, Option.some.injEq, Value.bool.injEq, exists_eq_left', true_and, forall_const, decide_eq_true_eq, decide_eq_false_iff_not, Int.natCast_nonneg, and_self, Int.toNat_natCast, Nat.mul_one, List.append_nil, beq_self_eq_true, Nat.lt_irrefl, Nat.zero_lt_succ, Nat.reduceLT, Option.bind_some, Try.underlying3, Try.underlying4, Try.underlying5, Try.underlying9, Try.underlying22, Try.underlying25, Try.underlying26, Try.underlying27, Try.underlying30, Try.underlying34, Try.underlying35, Try.underlying37, ts3, ts4, ts5, ts9, ts22, ts25, ts26, ts27, ts30, ts34, ts35, ts37, tz3, tz4, tz5, tz9, tz22, tz25, tz26, tz27, tz30, tz34, tz35, tz37, tb3, tb4, tb5, tb9, tb22, tb25, tb26, tb27, tb30, tb34, tb35, tb37, fr3, fr4, fr5, fr6, fr7, fr8, fr9, fr10, fr11, fr12, fr13, fr14, fr15, fr16, fr17, fr18, new_get_if, new_next, set_get_if, set_next, decide_true, decide_false, beq_tt, beq_tf, beq_ft, beq_ff, undef, Nat.left_eq_add, Nat.add_eq_left, List.drop_zero, List.drop_succ_cons, List.take_succ_cons, List.take_zero, List.drop_nil, opBox, Value.cells, opStore, setCells, List.length_append, Nat.reduceLeDiff, Nat.add_zero, Nat.add_assoc, Nat.add_right_cancel_iff, List.cons_append, List.nil_append, Array.toList, Nat.reduceLT, Option.bind_some, Option.isNone_none, Option.isNone_some, al34, al37, fa34_0, fa34_1, fa34_2, fa37_0, fa37_1, fa37_2]
  have hj' : j < L3.length := by omega
  have wj : IntKind.i64.wrap ((j : Int) + 1) = ((j + 1 : Nat) : Int) := by rw [wrap_i64 (by omega) (by omega)]; rfl
  obtain ⟨es, rfl, g3, p3, l3', f3, _⟩ := Toks.at T3 hj'
  have x3a : ¬ r3 = μ'.next := by omega
  have hle3 : j * 3 + 3 ≤ es.length := by omega
  have x3b : ¬ r3 = μ'.next + 1 := by omega
  have xe : ∀ (a b c d e : Blk), Ext μ' (((((μ'.new a).set μ'.next b).new c).set (μ'.next + 1) d).set (μ'.next + 1) e) := fun a b c d e => (((((Ext.new _ _).set (Nat.le_refl _)).trans (Ext.new _ _)).set (by omega)).set (by omega))
  have xe2 : ∀ (a b c d e f : Blk), Ext μ' ((((((μ'.new a).set μ'.next b).new c).set (μ'.next + 1) d).set (μ'.next + 1) e).set (μ'.next + 1) f) := fun a b c d e f => (xe a b c d e).set (by omega)
  by_cases hjx : (j : Int) < TX.length
  · have hj1 : j < L1.length := by omega
    have hj1' : (j : Int) < (L1.length : Int) := by omega
    obtain ⟨cs, rfl, g1, p1, l1', f1, _⟩ := Toks.at T1 hj1
    have x1a : ¬ r1 = μ'.next := by omega
    have x1b : ¬ r1 = μ'.next + 1 := by omega
    have hle1 : j * 3 + 3 ≤ cs.length := by omega
    have heq : L3[j] = L1[j] := by
      simp only [hL3, hL1]
      rw [List.getElem_append_left (by omega), List.getElem_append_left (by omega)]
    rw [heq] at f3
    simp only [optV_some, guardV_true, guardV_false, condV_true, condV_false, wpc_skip, wpc_label, wpc_exit, wpc_ret, wpc_region, wpc_seq, wpc_cond, wpc_block, wpc_scope, wpc_loop, wpo_nil, wpo_cons, wps_open, evOp, evParts, okVal, ev1, evs, evOpt, put_get, put_none, envOf, keep_some, List.lookup_nil, List.size_toArray, List.length_cons, List.length_nil, List.range, List.range.loop, Nat.zero_add, Nat.reduceAdd, Bool.not_false, Bool.not_true, Bool.true_or, if_true, if_false, reduceIte, Nat.reduceEqDiff, reduceCtorEq, List.getElem?_toArray, List.getElem?_cons_zero, List.getElem?_cons_succ, guardOf, constOk, constCell, evBuiltin, List.head?_cons, foldV, min2V, max2V, bin_add, bin_sub, bin_mul, bin_quo, bin_rem, bin_and, bin_or, bin_xor, bin_shl, bin_shr, bin_lss, bin_leq, bin_gtr, bin_geq, bin_eql, bin_neq, bin_seql, bin_beql, un_neg, un_xor, un_not, Int.reduceLT, Int.reduceEq, Kend, resOf, oneOf_one, Bool.false_eq_true, Bool.true_eq_false, IntKind.signed, IntKind.max, opConvert, opIndexAddr, opLoad, aggOf, Option.some.injEq, Value.bool.injEq, exists_eq_left', true_and, forall_const, decide_eq_true_eq, decide_eq_false_iff_not, Int.natCast_nonneg, and_self, Int.toNat_natCast, Nat.mul_one, List.append_nil, beq_self_eq_true, Nat.lt_irrefl, Nat.zero_lt_succ, Nat.reduceLT, Option.bind_some, Try.underlying3, Try.underlying4, Try.underlying5, Try.underlying9, Try.underlying22, Try.underlying25, Try.underlying26, Try.underlying27, Try.underlying30, Try.underlying34, Try.underlying35, Try.underlying37, ts3, ts4, ts5, ts9, ts22, ts25, ts26, ts27, ts30, ts34, ts35, ts37, tz3, tz4, tz5, tz9, tz22, tz25, tz26, tz27, tz30, tz34, tz35, tz37, tb3, tb4, tb5, tb9, tb22, tb25, tb26, tb27, tb30, tb34, tb35, tb37, fr3, fr4, fr5, fr6, fr7, fr8, fr9, fr10, fr11, fr12, fr13, fr14, fr15, fr16, fr17, fr18, new_get_if, new_next, set_get_if, set_next, decide_true, decide_false, beq_tt, beq_tf, beq_ft, beq_ff, undef, Nat.left_eq_add, Nat.add_eq_left, List.drop_zero, List.drop_succ_cons, List.take_succ_cons, List.take_zero, List.drop_nil, opBox, Value.cells, opStore, setCells, List.length_append, Nat.reduceLeDiff, Nat.add_zero, Nat.add_assoc, Nat.add_right_cancel_iff, List.cons_append, List.nil_append, Array.toList, Nat.reduceLT, Option.bind_some, Option.isNone_none, Option.isNone_some, al34, al37, fa34_0, fa34_1, fa34_2, fa37_0, fa37_1, fa37_2, h92, h90, hj, g3, x3a, x3b, hle3, f3, h7, lt1, w3, hjx, hj1', g1, x1a, x1b, hle1, f1, bin_tkne, wj, bz37]
    exact ⟨k' - 1, by omega, GrowR.ext T1 (xe _ _ _ _ _), GrowR.ext T2 (xe _ _ _ _ _), GrowR.ext T3 (xe _ _ _ _ _), j + 1, by omega, rfl, h91, h10, h5⟩
  · obtain ⟨i, hi⟩ : ∃ i : Nat, j = TX.length + i := ⟨j - TX.length, by omega⟩
    have hi2 : i < L2.length := by omega
    have w4 : IntKind.i64.wrap (IntKind.i64.wrap ((j : Int) - L1.length) + 1) = (i : Int) := by rw [wrap_i64 (n := (j : Int) - L1.length) (by omega) (by omega), wrap_i64 (by omega) (by omega)]; omega
    have hi2' : (i : Int) < (L2.length : Int) := by omega
    obtain ⟨cs, rfl, g2, p2, l2', f2, _⟩ := Toks.at T2 hi2
    have x2a : ¬ r2 = μ'.next := by omega
    have x2b : ¬ r2 = μ'.next + 1 := by omega
    have hle2 : i * 3 + 3 ≤ cs.length := by omega
    have heq : L3[j] = Tk.by D L2[i] := by
      have e1 : L3[j]? = some (Tk.by D L2[i]) := by
        rw [hL3, hi, List.getElem?_append_right (by omega), Nat.add_sub_cancel_left, List.getElem?_map, List.getElem?_eq_getElem hi2, Option.map_some]
      rw [List.getElem?_eq_getElem hj'] at e1
      exact Option.some.inj e1
    have hpos : L2[i].pos ≤ Y.length := by
      have := (split_toks (bs := Y) (t := L2[i]) (by rw [s2]; simp only [← hL2]; exact List.getElem_mem _)).2.1
      omega
    rw [heq] at f3
    generalize L2[i] = tk at f2 f3 hpos
    have w5 : IntKind.i64.wrap ((tk.pos : Int) + D) = ((tk.pos + D : Nat) : Int) := by rw [wrap_i64 (by omega) (by omega)]; omega
    simp only [Tk.by] at f3
    simp only [optV_some, guardV_true, guardV_false, condV_true, condV_false, wpc_skip, wpc_label, wpc_exit, wpc_ret, wpc_region, wpc_seq, wpc_cond, wpc_block, wpc_scope, wpc_loop, wpo_nil, wpo_cons, wps_open, evOp, evParts, okVal, ev1, evs, evOpt, put_get, put_none, envOf, keep_some, List.lookup_nil, List.size_toArray, List.length_cons, List.length_nil, List.range, List.range.loop, Nat.zero_add, Nat.reduceAdd, Bool.not_false, Bool.not_true, Bool.true_or, if_true, if_false, reduceIte, Nat.reduceEqDiff, reduceCtorEq, List.getElem?_toArray, List.getElem?_cons_zero, List.getElem?_cons_succ, guardOf, constOk, constCell, evBuiltin, List.head?_cons, foldV, min2V, max2V, bin_add, bin_sub, bin_mul, bin_quo, bin_rem, bin_and, bin_or, bin_xor, bin_shl, bin_shr, bin_lss, bin_leq, bin_gtr, bin_geq, bin_eql, bin_neq, bin_seql, bin_beql, un_neg, un_xor, un_not, Int.reduceLT, Int.reduceEq, Kend, resOf, oneOf_one, Bool.false_eq_true, Bool.true_eq_false, IntKind.signed, IntKind.max, opConvert, opIndexAddr, opLoad, aggOf, Option.some.injEq, Value.bool.injEq, exists_eq_left', true_and, forall_const, decide_eq_true_eq, decide_eq_false_iff_not, Int.natCast_nonneg, and_self, Int.toNat_natCast, Nat.mul_one, List.append_nil, beq_self_eq_true, Nat.lt_irrefl, Nat.zero_lt_succ, Nat.reduceLT, Option.bind_some, Try.underlying3, Try.underlying4, Try.underlying5, Try.underlying9, Try.underlying22, Try.underlying25, Try.underlying26, Try.underlying27, Try.underlying30, Try.underlying34, Try.underlying35, Try.underlying37, ts3, ts4, ts5, ts9, ts22, ts25, ts26, ts27, ts30, ts34, ts35, ts37, tz3, tz4, tz5, tz9, tz22, tz25, tz26, tz27, tz30, tz34, tz35, tz37, tb3, tb4, tb5, tb9, tb22, tb25, tb26, tb27, tb30, tb34, tb35, tb37, fr3, fr4, fr5, fr6, fr7, fr8, fr9, fr10, fr11, fr12, fr13, fr14, fr15, fr16, fr17, fr18, new_get_if, new_next, set_get_if, set_next, decide_true, decide_false, beq_tt, beq_tf, beq_ft, beq_ff, undef, Nat.left_eq_add, Nat.add_eq_left, List.drop_zero, List.drop_succ_cons, List.take_succ_cons, List.take_zero, List.drop_nil, opBox, Value.cells, opStore, setCells, List.length_append, Nat.reduceLeDiff, Nat.add_zero, Nat.add_assoc, Nat.add_right_cancel_iff, List.cons_append, List.nil_append, Array.toList, Nat.reduceLT, Option.bind_some, Option.isNone_none, Option.isNone_some, al34, al37, fa34_0, fa34_1, fa34_2, fa37_0, fa37_1, fa37_2, h92, h90, hj, g3, x3a, x3b, hle3, f3, h7, lt1, w3, hjx, h10, w4, hi2', g2, x2a, x2b, hle2, f2, h5, lx, w5, bin_tkne, wj, bz37]
    exact ⟨k' - 1, by omega, GrowR.ext T1 (xe2 _ _ _ _ _ _), GrowR.ext T2 (xe2 _ _ _ _ _ _), GrowR.ext T3 (xe2 _ _ _ _ _ _), j + 1, by omega, rfl, h91, trivial⟩

theorem lexJoins_true {H : Type} {m : Mem} {xs : List Value} {ds : List (DataW H)} (hd : IsDs Try.prog 8 [22, 22] ds) (hl : LieAll Try.prog m [22, 22] ds xs) : Ret Try.prog 4 xs m fun v _ => v = .bool true := by
  obtain ⟨d0, dr, rfl, i0, hd⟩ := isDs_cons hd
  obtain ⟨d1, dr, rfl, i1, hd⟩ := isDs_cons hd
  obtain rfl := isDs_nil hd
  obtain ⟨v0, _, rfl, l0, v1, _, rfl, l1, rfl⟩ := hl
  have hb5 : Try.prog.bytesOf 5 = 1 := by kernel_rfl
  have hrb := reachBytes_lt
  obtain ⟨ks, hk, hw, hkv⟩ := lies_nums (k := 6) Try.underlying22 Try.underlying5 (by kernel_rfl) i0 l0
  obtain ⟨os, ho, hw2, hov⟩ := lies_nums (k := 6) Try.underlying22 Try.underlying5 (by kernel_rfl) i1 l1
  rw [hb5] at hw hw2
  exact joins_ret hkv (fun b h => wf_u8 (hk b h)) hov (fun b h => wf_u8 (ho b h)) (by omega) (by omega)
end Go.Proofs.Ytbaohgjammpgjaa
