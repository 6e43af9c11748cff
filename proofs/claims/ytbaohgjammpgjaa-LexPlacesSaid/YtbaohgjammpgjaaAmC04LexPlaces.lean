/- A text of the abstract machine. -/

/- LexPlaces comes to true on all arguments. -/
import Derived.Test.YtbaohgjammpgjaaAmC04LexSplits
set_option linter.unusedSimpArgs false
set_option linter.unusedVariables false
set_option maxRecDepth 100000
set_option maxHeartbeats 4000000
namespace Go.Proofs.Ytbaohgjammpgjaa
open Go Go.AM Go.AM.Crc Go.AM.Lex

theorem strOf_ne {x : List Int} (h : x ≠ []) : ¬ strOf x = strOf [] := fun e => by
  have := congrArg ByteArray.size e
  rw [strOf_size, strOf_size] at this
  exact h (List.eq_nil_of_length_eq_zero this)
/-- The tokens of a text that is right. -/
theorem split_right {bs : List Int} (h : (splitOf bs).2.2 = 0) (hl : bs.length ≤ 4000) : ∃ T, splitOf bs = (T ++ [endTk bs.length], 0, 0) ∧ tokens 0 bs = (T, none) := by
  unfold splitOf at h ⊢
  rw [if_neg (by omega)] at h ⊢
  have ec : ∀ (n : Nat) (l : List Int) (i : Nat), l.length ≤ n → ∀ e, (tokens i l).2 = some e → e.2 ≠ 0 := by
    intro n
    induction n with
    | zero =>
      intro l i hl e he
      have : l = [] := List.eq_nil_of_length_eq_zero (by omega)
      subst this
      simp [tokens_nil] at he
    | succ n ih =>
      intro l i hl e he
      cases l with
      | nil => simp [tokens_nil] at he
      | cons c r =>
        rw [List.length_cons] at hl
        have ih1 : ∀ (p : Int → Bool) i e, (tokens i (r.drop (span p r))).2 = some e → e.2 ≠ 0 := fun p i e => ih _ i (by rw [List.length_drop]; omega) e
        rw [tokens_cons] at he
        split at he
        · exact ih r _ (by omega) e he
        · split at he
          · exact ih1 noteB _ e he
          · split at he
            · exact ih1 wordB _ e he
            · split at he
              · split at he
                · simp at he; rw [← he]; simp
                · exact ih1 digitB _ e he
              · split at he
                · exact ih r _ (by omega) e he
                · simp at he; rw [← he]; simp
  split
  · rename_i l he
    exact ⟨l, rfl, he⟩
  · rename_i l p c he
    rw [he] at h
    exact (ec bs.length bs 0 (Nat.le_refl _) (p, c) (by rw [he]) h).elim

theorem places_ret {m : Mem} {v : Value} {ks : List Int} (hv : FB m v ks) (hk : Bytes ks) (hl : ks.length < 2 ^ 50) : Ret Try.prog 7 [v] m fun v _ => v = .bool true := by
  refine ret_wp [] Try.func7 rfl (by decide) (by kernel_rfl) ?_
  simp only [optV_some, guardV_true, guardV_false, condV_true, condV_false, wpc_skip, wpc_label, wpc_exit, wpc_ret, wpc_region, wpc_seq, wpc_cond, wpc_block, wpc_scope, wpc_loop, wpo_nil, wpo_cons, wps_open, evOp, evParts, okVal, ev1, evs, evOpt, put_get, put_none, envOf, keep_some, List.lookup_nil, List.size_toArray, List.length_cons, List.length_nil, List.range, List.range.loop, Nat.zero_add, Nat.reduceAdd, Bool.not_false, Bool.not_true, Bool.true_or, if_true, if_false, reduceIte, Nat.reduceEqDiff, reduceCtorEq, List.getElem?_toArray, List.getElem?_cons_zero, List.getElem?_cons_succ, guardOf, constOk, constCell, evBuiltin, opLen, List.head?_cons, foldV, min2V, max2V, bin_add, bin_sub, bin_mul, bin_quo, bin_rem, bin_and, bin_or, bin_xor, bin_shl, bin_shr, bin_lss, bin_leq, bin_gtr, bin_geq, bin_eql, bin_neq, bin_seql, bin_beql, un_neg, un_xor, un_not, Int.reduceLT, Int.reduceEq, Kend, resOf, oneOf_one, Bool.false_eq_true, Bool.true_eq_false, IntKind.signed, IntKind.max, opConvert, opIndexAddr, opLoad, aggOf, Option.some.injEq, Value.bool.injEq, exists_eq_left', true_and, forall_const, decide_eq_true_eq, decide_eq_false_iff_not, Int.natCast_nonneg, and_self, Int.toNat_natCast, Nat.mul_one, List.append_nil, beq_self_eq_true, Nat.lt_irrefl, Nat.zero_lt_succ, Nat.reduceLT, Option.bind_some, Try.underlying3, Try.underlying4, Try.underlying5, Try.underlying9, Try.underlying22, Try.underlying25, Try.underlying26, Try.underlying27, Try.underlying30, Try.underlying34, Try.underlying35, Try.underlying37, ts3, ts4, ts5, ts9, ts22, ts25, ts26, ts27, ts30, ts34, ts35, ts37, tz3, tz4, tz5, tz9, tz22, tz25, tz26, tz27, tz30, tz34, tz35, tz37, tb3, tb4, tb5, tb9, tb22, tb25, tb26, tb27, tb30, tb34, tb35, tb37, fr3, fr4, fr5, fr6, fr7, fr8, fr9, fr10, fr11, fr12, fr13, fr14, fr15, fr16, fr17, fr18, new_get_if, new_next, set_get_if, set_next, decide_true, decide_false, beq_tt, beq_tf, beq_ft, beq_ff, undef, Nat.left_eq_add, Nat.add_eq_left, List.drop_zero, List.drop_succ_cons, List.take_succ_cons, List.take_zero, List.drop_nil, opBox, Value.cells, opStore, setCells, List.length_append, Nat.reduceLeDiff, Nat.add_zero, Nat.add_assoc, Nat.add_right_cancel_iff, List.cons_append, List.nil_append, Array.toList, Nat.reduceLT, Option.bind_some, Option.isNone_none, Option.isNone_some, al34, al37, fa34_0, fa34_1, fa34_2, fa37_0, fa37_1, fa37_2]
  refine awake_ret fun m1 x1 => ?_
  have hv := hv.pz x1.pz
  have lv := hv.len Try.underlying22
  by_cases h2 : (80 : Int) < ks.length
  · simp only [optV_some, guardV_true, guardV_false, condV_true, condV_false, wpc_skip, wpc_label, wpc_exit, wpc_ret, wpc_region, wpc_seq, wpc_cond, wpc_block, wpc_scope, wpc_loop, wpo_nil, wpo_cons, wps_open, evOp, evParts, okVal, ev1, evs, evOpt, put_get, put_none, envOf, keep_some, List.lookup_nil, List.size_toArray, List.length_cons, List.length_nil, List.range, List.range.loop, Nat.zero_add, Nat.reduceAdd, Bool.not_false, Bool.not_true, Bool.true_or, if_true, if_false, reduceIte, Nat.reduceEqDiff, reduceCtorEq, List.getElem?_toArray, List.getElem?_cons_zero, List.getElem?_cons_succ, guardOf, constOk, constCell, evBuiltin, List.head?_cons, foldV, min2V, max2V, bin_add, bin_sub, bin_mul, bin_quo, bin_rem, bin_and, bin_or, bin_xor, bin_shl, bin_shr, bin_lss, bin_leq, bin_gtr, bin_geq, bin_eql, bin_neq, bin_seql, bin_beql, un_neg, un_xor, un_not, Int.reduceLT, Int.reduceEq, Kend, resOf, oneOf_one, Bool.false_eq_true, Bool.true_eq_false, IntKind.signed, IntKind.max, opConvert, opIndexAddr, opLoad, aggOf, Option.some.injEq, Value.bool.injEq, exists_eq_left', true_and, forall_const, decide_eq_true_eq, decide_eq_false_iff_not, Int.natCast_nonneg, and_self, Int.toNat_natCast, Nat.mul_one, List.append_nil, beq_self_eq_true, Nat.lt_irrefl, Nat.zero_lt_succ, Nat.reduceLT, Option.bind_some, Try.underlying3, Try.underlying4, Try.underlying5, Try.underlying9, Try.underlying22, Try.underlying25, Try.underlying26, Try.underlying27, Try.underlying30, Try.underlying34, Try.underlying35, Try.underlying37, ts3, ts4, ts5, ts9, ts22, ts25, ts26, ts27, ts30, ts34, ts35, ts37, tz3, tz4, tz5, tz9, tz22, tz25, tz26, tz27, tz30, tz34, tz35, tz37, tb3, tb4, tb5, tb9, tb22, tb25, tb26, tb27, tb30, tb34, tb35, tb37, fr3, fr4, fr5, fr6, fr7, fr8, fr9, fr10, fr11, fr12, fr13, fr14, fr15, fr16, fr17, fr18, new_get_if, new_next, set_get_if, set_next, decide_true, decide_false, beq_tt, beq_tf, beq_ft, beq_ff, undef, Nat.left_eq_add, Nat.add_eq_left, List.drop_zero, List.drop_succ_cons, List.take_succ_cons, List.take_zero, List.drop_nil, opBox, Value.cells, opStore, setCells, List.length_append, Nat.reduceLeDiff, Nat.add_zero, Nat.add_assoc, Nat.add_right_cancel_iff, List.cons_append, List.nil_append, Array.toList, Nat.reduceLT, Option.bind_some, Option.isNone_none, Option.isNone_some, al34, al37, fa34_0, fa34_1, fa34_2, fa37_0, fa37_1, fa37_2, lv, h2]
  simp only [optV_some, guardV_true, guardV_false, condV_true, condV_false, wpc_skip, wpc_label, wpc_exit, wpc_ret, wpc_region, wpc_seq, wpc_cond, wpc_block, wpc_scope, wpc_loop, wpo_nil, wpo_cons, wps_open, evOp, evParts, okVal, ev1, evs, evOpt, put_get, put_none, envOf, keep_some, List.lookup_nil, List.size_toArray, List.length_cons, List.length_nil, List.range, List.range.loop, Nat.zero_add, Nat.reduceAdd, Bool.not_false, Bool.not_true, Bool.true_or, if_true, if_false, reduceIte, Nat.reduceEqDiff, reduceCtorEq, List.getElem?_toArray, List.getElem?_cons_zero, List.getElem?_cons_succ, guardOf, constOk, constCell, evBuiltin, List.head?_cons, foldV, min2V, max2V, bin_add, bin_sub, bin_mul, bin_quo, bin_rem, bin_and, bin_or, bin_xor, bin_shl, bin_shr, bin_lss, bin_leq, bin_gtr, bin_geq, bin_eql, bin_neq, bin_seql, bin_beql, un_neg, un_xor, un_not, Int.reduceLT, Int.reduceEq, Kend, resOf, oneOf_one, Bool.false_eq_true, Bool.true_eq_false, IntKind.signed, IntKind.max, opConvert, opIndexAddr, opLoad, aggOf, Option.some.injEq, Value.bool.injEq, exists_eq_left', true_and, forall_const, decide_eq_true_eq, decide_eq_false_iff_not, Int.natCast_nonneg, and_self, Int.toNat_natCast, Nat.mul_one, List.append_nil, beq_self_eq_true, Nat.lt_irrefl, Nat.zero_lt_succ, Nat.reduceLT, Option.bind_some, Try.underlying3, Try.underlying4, Try.underlying5, Try.underlying9, Try.underlying22, Try.underlying25, Try.underlying26, Try.underlying27, Try.underlying30, Try.underlying34, Try.underlying35, Try.underlying37, ts3, ts4, ts5, ts9, ts22, ts25, ts26, ts27, ts30, ts34, ts35, ts37, tz3, tz4, tz5, tz9, tz22, tz25, tz26, tz27, tz30, tz34, tz35, tz37, tb3, tb4, tb5, tb9, tb22, tb25, tb26, tb27, tb30, tb34, tb35, tb37, fr3, fr4, fr5, fr6, fr7, fr8, fr9, fr10, fr11, fr12, fr13, fr14, fr15, fr16, fr17, fr18, new_get_if, new_next, set_get_if, set_next, decide_true, decide_false, beq_tt, beq_tf, beq_ft, beq_ff, undef, Nat.left_eq_add, Nat.add_eq_left, List.drop_zero, List.drop_succ_cons, List.take_succ_cons, List.take_zero, List.drop_nil, opBox, Value.cells, opStore, setCells, List.length_append, Nat.reduceLeDiff, Nat.add_zero, Nat.add_assoc, Nat.add_right_cancel_iff, List.cons_append, List.nil_append, Array.toList, Nat.reduceLT, Option.bind_some, Option.isNone_none, Option.isNone_some, al34, al37, fa34_0, fa34_1, fa34_2, fa37_0, fa37_1, fa37_2, lv, h2]
  refine text_ret (os := []) hv hk FRow.nil (by intro b h; simp at h) hl (by simp) fun m2 bs x2 hb hbl => ?_
  have ls := len_str (P := Try.prog) Try.underlying9 (bs := bs)
  simp only [optV_some, guardV_true, guardV_false, condV_true, condV_false, wpc_skip, wpc_label, wpc_exit, wpc_ret, wpc_region, wpc_seq, wpc_cond, wpc_block, wpc_scope, wpc_loop, wpo_nil, wpo_cons, wps_open, evOp, evParts, okVal, ev1, evs, evOpt, put_get, put_none, envOf, keep_some, List.lookup_nil, List.size_toArray, List.length_cons, List.length_nil, List.range, List.range.loop, Nat.zero_add, Nat.reduceAdd, Bool.not_false, Bool.not_true, Bool.true_or, if_true, if_false, reduceIte, Nat.reduceEqDiff, reduceCtorEq, List.getElem?_toArray, List.getElem?_cons_zero, List.getElem?_cons_succ, guardOf, constOk, constCell, evBuiltin, opLen, List.head?_cons, foldV, min2V, max2V, bin_add, bin_sub, bin_mul, bin_quo, bin_rem, bin_and, bin_or, bin_xor, bin_shl, bin_shr, bin_lss, bin_leq, bin_gtr, bin_geq, bin_eql, bin_neq, bin_seql, bin_beql, un_neg, un_xor, un_not, Int.reduceLT, Int.reduceEq, Kend, resOf, oneOf_one, Bool.false_eq_true, Bool.true_eq_false, IntKind.signed, IntKind.max, opConvert, opIndexAddr, opLoad, aggOf, Option.some.injEq, Value.bool.injEq, exists_eq_left', true_and, forall_const, decide_eq_true_eq, decide_eq_false_iff_not, Int.natCast_nonneg, and_self, Int.toNat_natCast, Nat.mul_one, List.append_nil, beq_self_eq_true, Nat.lt_irrefl, Nat.zero_lt_succ, Nat.reduceLT, Option.bind_some, Try.underlying3, Try.underlying4, Try.underlying5, Try.underlying9, Try.underlying22, Try.underlying25, Try.underlying26, Try.underlying27, Try.underlying30, Try.underlying34, Try.underlying35, Try.underlying37, ts3, ts4, ts5, ts9, ts22, ts25, ts26, ts27, ts30, ts34, ts35, ts37, tz3, tz4, tz5, tz9, tz22, tz25, tz26, tz27, tz30, tz34, tz35, tz37, tb3, tb4, tb5, tb9, tb22, tb25, tb26, tb27, tb30, tb34, tb35, tb37, fr3, fr4, fr5, fr6, fr7, fr8, fr9, fr10, fr11, fr12, fr13, fr14, fr15, fr16, fr17, fr18, new_get_if, new_next, set_get_if, set_next, decide_true, decide_false, beq_tt, beq_tf, beq_ft, beq_ff, undef, Nat.left_eq_add, Nat.add_eq_left, List.drop_zero, List.drop_succ_cons, List.take_succ_cons, List.take_zero, List.drop_nil, opBox, Value.cells, opStore, setCells, List.length_append, Nat.reduceLeDiff, Nat.add_zero, Nat.add_assoc, Nat.add_right_cancel_iff, List.cons_append, List.nil_append, Array.toList, Nat.reduceLT, Option.bind_some, Option.isNone_none, Option.isNone_some, al34, al37, fa34_0, fa34_1, fa34_2, fa37_0, fa37_1, fa37_2]
  refine split_ret hb fun m3 w r T => ?_
  by_cases hc : (splitOf bs).2.2 = 0
  rotate_left
  · have hz : (splitOf bs).1 = [] := by
      unfold splitOf at hc ⊢
      split
      · rfl
      · rename_i h4
        rw [if_neg h4] at hc
        split
        · rename_i he
          rw [he] at hc
          exact (hc rfl).elim
        · rfl
    have lw := T.2.1.len (P := Try.prog) Try.underlying26
    rw [hz] at lw
    simp only [optV_some, guardV_true, guardV_false, condV_true, condV_false, wpc_skip, wpc_label, wpc_exit, wpc_ret, wpc_region, wpc_seq, wpc_cond, wpc_block, wpc_scope, wpc_loop, wpo_nil, wpo_cons, wps_open, evOp, evParts, okVal, ev1, evs, evOpt, put_get, put_none, envOf, keep_some, List.lookup_nil, List.size_toArray, List.length_cons, List.length_nil, List.range, List.range.loop, Nat.zero_add, Nat.reduceAdd, Bool.not_false, Bool.not_true, Bool.true_or, if_true, if_false, reduceIte, Nat.reduceEqDiff, reduceCtorEq, List.getElem?_toArray, List.getElem?_cons_zero, List.getElem?_cons_succ, guardOf, constOk, constCell, evBuiltin, List.head?_cons, foldV, min2V, max2V, bin_add, bin_sub, bin_mul, bin_quo, bin_rem, bin_and, bin_or, bin_xor, bin_shl, bin_shr, bin_lss, bin_leq, bin_gtr, bin_geq, bin_eql, bin_neq, bin_seql, bin_beql, un_neg, un_xor, un_not, Int.reduceLT, Int.reduceEq, Kend, resOf, oneOf_one, Bool.false_eq_true, Bool.true_eq_false, IntKind.signed, IntKind.max, opConvert, opIndexAddr, opLoad, aggOf, Option.some.injEq, Value.bool.injEq, exists_eq_left', true_and, forall_const, decide_eq_true_eq, decide_eq_false_iff_not, Int.natCast_nonneg, and_self, Int.toNat_natCast, Nat.mul_one, List.append_nil, beq_self_eq_true, Nat.lt_irrefl, Nat.zero_lt_succ, Nat.reduceLT, Option.bind_some, Try.underlying3, Try.underlying4, Try.underlying5, Try.underlying9, Try.underlying22, Try.underlying25, Try.underlying26, Try.underlying27, Try.underlying30, Try.underlying34, Try.underlying35, Try.underlying37, ts3, ts4, ts5, ts9, ts22, ts25, ts26, ts27, ts30, ts34, ts35, ts37, tz3, tz4, tz5, tz9, tz22, tz25, tz26, tz27, tz30, tz34, tz35, tz37, tb3, tb4, tb5, tb9, tb22, tb25, tb26, tb27, tb30, tb34, tb35, tb37, fr3, fr4, fr5, fr6, fr7, fr8, fr9, fr10, fr11, fr12, fr13, fr14, fr15, fr16, fr17, fr18, new_get_if, new_next, set_get_if, set_next, decide_true, decide_false, beq_tt, beq_tf, beq_ft, beq_ff, undef, Nat.left_eq_add, Nat.add_eq_left, List.drop_zero, List.drop_succ_cons, List.take_succ_cons, List.take_zero, List.drop_nil, opBox, Value.cells, opStore, setCells, List.length_append, Nat.reduceLeDiff, Nat.add_zero, Nat.add_assoc, Nat.add_right_cancel_iff, List.cons_append, List.nil_append, Array.toList, Nat.reduceLT, Option.bind_some, Option.isNone_none, Option.isNone_some, al34, al37, fa34_0, fa34_1, fa34_2, fa37_0, fa37_1, fa37_2, hc, lw, ne_eq, not_false_eq_true, List.length_nil]
    rfl
  have hcount := split_count bs
  obtain ⟨L0, hS, htk⟩ := split_right hc (by omega)
  have hall : ∀ t ∈ (splitOf bs).1, _ := fun t h => split_toks h
  obtain ⟨L, hL⟩ : ∃ L, L = L0 ++ [endTk bs.length] := ⟨_, rfl⟩
  rw [hS, ← hL] at T hall hcount
  rw [hS]
  simp only at T hall hcount
  have hLl : L.length = L0.length + 1 := by rw [hL, List.length_append]; rfl
  have pl := fun j t => tokens_places bs.length bs 0 (Nat.le_refl _) bs (fun k => by rw [Nat.zero_add]) j t
  rw [htk] at pl
  simp only at pl
  have hnl : ∀ (j : Nat) (h : j < L.length), j < L0.length → L[j].kind ≠ 0 ∧ L[j].text ≠ [] := fun j h h0 => by
    have e : L[j] = L0[j] := by simp only [hL]; exact List.getElem_append_left h0
    have := pl j L0[j] (List.getElem?_eq_getElem h0)
    rw [e]
    exact ⟨this.2.2.2.1, this.2.2.1⟩
  have hlast : ∀ (h : L0.length < L.length), L[L0.length] = endTk bs.length := fun h => by
    simp only [hL]
    rw [List.getElem_append_right (Nat.le_refl _)]
    simp
  have hchain : ∀ (j : Nat) (h : j + 1 < L.length), L[j].pos + L[j].text.length ≤ L[j + 1].pos := fun j h => by
    have h0 : j < L0.length := by omega
    have e : L[j] = L0[j] := by simp only [hL]; exact List.getElem_append_left h0
    have := pl j L0[j] (List.getElem?_eq_getElem h0)
    rw [e]
    by_cases h1 : j + 1 < L0.length
    · have e2 : L[j + 1] = L0[j + 1] := by simp only [hL]; exact List.getElem_append_left h1
      rw [e2]
      exact this.2.2.2.2.2.2 _ (List.getElem?_eq_getElem h1)
    · have e3 : j + 1 = L0.length := by omega
      have e2 : L[j + 1] = endTk bs.length := by
        have := hlast (by omega)
        simp only [← e3] at this
        exact this
      rw [e2]
      have := this.2.1
      simp only [endTk]
      omega
  have lw := T.2.1.len (P := Try.prog) Try.underlying26
  simp only [optV_some, guardV_true, guardV_false, condV_true, condV_false, wpc_skip, wpc_label, wpc_exit, wpc_ret, wpc_region, wpc_seq, wpc_cond, wpc_block, wpc_scope, wpc_loop, wpo_nil, wpo_cons, wps_open, evOp, evParts, okVal, ev1, evs, evOpt, put_get, put_none, envOf, keep_some, List.lookup_nil, List.size_toArray, List.length_cons, List.length_nil, List.range, List.range.loop, Nat.zero_add, Nat.reduceAdd, Bool.not_false, Bool.not_true, Bool.true_or, if_true, if_false, reduceIte, Nat.reduceEqDiff, reduceCtorEq, List.getElem?_toArray, List.getElem?_cons_zero, List.getElem?_cons_succ, guardOf, constOk, constCell, evBuiltin, List.head?_cons, foldV, min2V, max2V, bin_add, bin_sub, bin_mul, bin_quo, bin_rem, bin_and, bin_or, bin_xor, bin_shl, bin_shr, bin_lss, bin_leq, bin_gtr, bin_geq, bin_eql, bin_neq, bin_seql, bin_beql, un_neg, un_xor, un_not, Int.reduceLT, Int.reduceEq, Kend, resOf, oneOf_one, Bool.false_eq_true, Bool.true_eq_false, IntKind.signed, IntKind.max, opConvert, opIndexAddr, opLoad, aggOf, Option.some.injEq, Value.bool.injEq, exists_eq_left', true_and, forall_const, decide_eq_true_eq, decide_eq_false_iff_not, Int.natCast_nonneg, and_self, Int.toNat_natCast, Nat.mul_one, List.append_nil, beq_self_eq_true, Nat.lt_irrefl, Nat.zero_lt_succ, Nat.reduceLT, Option.bind_some, Try.underlying3, Try.underlying4, Try.underlying5, Try.underlying9, Try.underlying22, Try.underlying25, Try.underlying26, Try.underlying27, Try.underlying30, Try.underlying34, Try.underlying35, Try.underlying37, ts3, ts4, ts5, ts9, ts22, ts25, ts26, ts27, ts30, ts34, ts35, ts37, tz3, tz4, tz5, tz9, tz22, tz25, tz26, tz27, tz30, tz34, tz35, tz37, tb3, tb4, tb5, tb9, tb22, tb25, tb26, tb27, tb30, tb34, tb35, tb37, fr3, fr4, fr5, fr6, fr7, fr8, fr9, fr10, fr11, fr12, fr13, fr14, fr15, fr16, fr17, fr18, new_get_if, new_next, set_get_if, set_next, decide_true, decide_false, beq_tt, beq_tf, beq_ft, beq_ff, undef, Nat.left_eq_add, Nat.add_eq_left, List.drop_zero, List.drop_succ_cons, List.take_succ_cons, List.take_zero, List.drop_nil, opBox, Value.cells, opStore, setCells, List.length_append, Nat.reduceLeDiff, Nat.add_zero, Nat.add_assoc, Nat.add_right_cancel_iff, List.cons_append, List.nil_append, Array.toList, Nat.reduceLT, Option.bind_some, Option.isNone_none, Option.isNone_some, al34, al37, fa34_0, fa34_1, fa34_2, fa37_0, fa37_1, fa37_2, lw, ne_eq, not_true_eq_false]
  refine loop_wp [] (by kernel_rfl) (fun k env μ => Toks m2 μ w r L ∧ ∃ (j E : Nat), j + k = L.length ∧ env 30 = some (.int .i64 j) ∧ env 29 = some (.int .i64 L.length) ∧ env 28 = some w ∧ env 4 = some w ∧ env 3 = some (.string (strOf bs)) ∧ env 7 = some (.int .i64 E) ∧ ∀ h : j < L.length, E ≤ L[j].pos) ?_ L.length
    ⟨T, 0, 0, by simp, rfl, rfl, rfl, rfl, rfl, rfl, fun _ => Nat.zero_le _⟩
  clear T
  rintro k env μ ⟨T, j, E, hkj, h30, h29, h28, h4, h3, h7, hE⟩
  simp only [optV_some, guardV_true, guardV_false, condV_true, condV_false, wpc_skip, wpc_label, wpc_exit, wpc_ret, wpc_region, wpc_seq, wpc_cond, wpc_block, wpc_scope, wpc_loop, wpo_nil, wpo_cons, wps_open, evOp, evParts, okVal, ev1, evs, evOpt, put_get, put_none, envOf, keep_some, List.lookup_nil, List.size_toArray, List.length_cons, List.length_nil, List.range, List.range.loop, Nat.zero_add, Nat.reduceAdd, Bool.not_false, Bool.not_true, Bool.true_or, if_true, if_false, reduceIte, Nat.reduceEqDiff, reduceCtorEq, List.getElem?_toArray, List.getElem?_cons_zero, List.getElem?_cons_succ, guardOf, constOk, constCell, evBuiltin, opLen, List.head?_cons, foldV, min2V, max2V, bin_add, bin_sub, bin_mul, bin_quo, bin_rem, bin_and, bin_or, bin_xor, bin_shl, bin_shr, bin_lss, bin_leq, bin_gtr, bin_geq, bin_eql, bin_neq, bin_seql, bin_beql, un_neg, un_xor, un_not, Int.reduceLT, Int.reduceEq, Kend, resOf, oneOf_one, Bool.false_eq_true, Bool.true_eq_false, IntKind.signed, IntKind.max, opConvert, opIndexAddr, opLoad, aggOf, Option.some.injEq, Value.bool.injEq, exists_eq_left', true_and, forall_const, decide_eq_true_eq, decide_eq_false_iff_not, Int.natCast_nonneg, and_self, Int.toNat_natCast, Nat.mul_one, List.append_nil, beq_self_eq_true, Nat.lt_irrefl, Nat.zero_lt_succ, Nat.reduceLT, Option.bind_some, Try.underlying3, Try.underlying4, Try.underlying5, Try.underlying9, Try.underlying22, Try.underlying25, Try.underlying26, Try.underlying27, Try.underlying30, Try.underlying34, Try.underlying35, Try.underlying37, ts3, ts4, ts5, ts9, ts22, ts25, ts26, ts27, ts30, ts34, ts35, ts37, tz3, tz4, tz5, tz9, tz22, tz25, tz26, tz27, tz30, tz34, tz35, tz37, tb3, tb4, tb5, tb9, tb22, tb25, tb26, tb27, tb30, tb34, tb35, tb37, fr3, fr4, fr5, fr6, fr7, fr8, fr9, fr10, fr11, fr12, fr13, fr14, fr15, fr16, fr17, fr18, new_get_if, new_next, set_get_if, set_next, decide_true, decide_false, beq_tt, beq_tf, beq_ft, beq_ff, undef, Nat.left_eq_add, Nat.add_eq_left, List.drop_zero, List.drop_succ_cons, List.take_succ_cons, List.take_zero, List.drop_nil, opBox, Value.cells, opStore, setCells, List.length_append, Nat.reduceLeDiff, Nat.add_zero, Nat.add_assoc, Nat.add_right_cancel_iff, List.cons_append, List.nil_append, Array.toList, Nat.reduceLT, Option.bind_some, Option.isNone_none, Option.isNone_some, al34, al37, fa34_0, fa34_1, fa34_2, fa37_0, fa37_1, fa37_2, h30, h29]
  refine cond_by (fun hj => ?_) (fun hj => ?_)
  · have hj' : j < L.length := by omega
    obtain ⟨cs, rfl, g1, q1, l1, f, _, _, _⟩ := T.at hj'
    obtain ⟨hkd, hps, htx⟩ := hall L[j] (List.getElem_mem _)
    have hEj := hE hj'
    have hnl' := hnl j hj'
    have hch : ∀ h : j + 1 < L.length, (L[j]'hj').pos + (L[j]'hj').text.length ≤ L[j + 1].pos := fun h => hchain j h
    have hla : j = L0.length → L[j] = endTk bs.length := fun h => by subst h; exact hlast hj'
    generalize L[j] = tk at f hkd hps htx hEj hnl' hch hla
    have n1 : ¬ r = μ.next := by omega
    have hle : j * 3 + 3 ≤ cs.length := by omega
    have wp : IntKind.i64.wrap ((tk.pos : Int) + tk.text.length) = ((tk.pos + tk.text.length : Nat) : Int) := by rw [wrap_i64 (by omega) (by omega)]; omega
    have sl := slice_str (P := Try.prog) (t := 9) (k1 := .i64) (k2 := .i64) Try.underlying9 (bs := bs) (L := tk.pos) (H := ((tk.pos + tk.text.length : Nat) : Int)) rfl rfl (by omega) hps
    rw [Nat.add_sub_cancel_left, htx] at sl
    have wj : IntKind.i64.wrap ((j : Int) + 1) = ((j + 1 : Nat) : Int) := by rw [wrap_i64 (by omega) (by omega)]; rfl
    have wl : IntKind.i64.wrap ((L.length : Int) - 1) = (L0.length : Int) := by rw [wrap_i64 (by omega) (by omega)]; omega
    have c1 : ¬ ((tk.pos : Int) < E) := by omega
    have c2 : ¬ ((bs.length : Int) < ((tk.pos + tk.text.length : Nat) : Int)) := by omega
    have lt := len_str (P := Try.prog) Try.underlying9 (bs := tk.text)
    have xe : ∀ (a b : Blk), Ext μ ((μ.new a).set μ.next b) := fun a b => (Ext.new _ _).set (Nat.le_refl _)
    by_cases hjl : j = L0.length
    · have c3 : tk.kind = 0 := by rw [hla hjl]; rfl
      have c4 : (j : Int) = (L0.length : Int) := by omega
      have hlt : (L0.length : Int) < (L.length : Int) := by omega
      have hle' : L0.length * 3 + 3 ≤ cs.length := by omega
      have wj2 : IntKind.i64.wrap ((L0.length : Int) + 1) = ((L0.length + 1 : Nat) : Int) := by rw [wrap_i64 (by omega) (by omega)]; rfl
      rw [hjl] at f
      simp only [optV_some, guardV_true, guardV_false, condV_true, condV_false, wpc_skip, wpc_label, wpc_exit, wpc_ret, wpc_region, wpc_seq, wpc_cond, wpc_block, wpc_scope, wpc_loop, wpo_nil, wpo_cons, wps_open, evOp, evParts, okVal, ev1, evs, evOpt, put_get, put_none, envOf, keep_some, List.lookup_nil, List.size_toArray, List.length_cons, List.length_nil, List.range, List.range.loop, Nat.zero_add, Nat.reduceAdd, Bool.not_false, Bool.not_true, Bool.true_or, if_true, if_false, reduceIte, Nat.reduceEqDiff, reduceCtorEq, List.getElem?_toArray, List.getElem?_cons_zero, List.getElem?_cons_succ, guardOf, constOk, constCell, evBuiltin, List.head?_cons, foldV, min2V, max2V, bin_add, bin_sub, bin_mul, bin_quo, bin_rem, bin_and, bin_or, bin_xor, bin_shl, bin_shr, bin_lss, bin_leq, bin_gtr, bin_geq, bin_eql, bin_neq, bin_seql, bin_beql, un_neg, un_xor, un_not, Int.reduceLT, Int.reduceEq, Kend, resOf, oneOf_one, Bool.false_eq_true, Bool.true_eq_false, IntKind.signed, IntKind.max, opConvert, opIndexAddr, opLoad, aggOf, Option.some.injEq, Value.bool.injEq, exists_eq_left', true_and, forall_const, decide_eq_true_eq, decide_eq_false_iff_not, Int.natCast_nonneg, and_self, Int.toNat_natCast, Nat.mul_one, List.append_nil, beq_self_eq_true, Nat.lt_irrefl, Nat.zero_lt_succ, Nat.reduceLT, Option.bind_some, Try.underlying3, Try.underlying4, Try.underlying5, Try.underlying9, Try.underlying22, Try.underlying25, Try.underlying26, Try.underlying27, Try.underlying30, Try.underlying34, Try.underlying35, Try.underlying37, ts3, ts4, ts5, ts9, ts22, ts25, ts26, ts27, ts30, ts34, ts35, ts37, tz3, tz4, tz5, tz9, tz22, tz25, tz26, tz27, tz30, tz34, tz35, tz37, tb3, tb4, tb5, tb9, tb22, tb25, tb26, tb27, tb30, tb34, tb35, tb37, fr3, fr4, fr5, fr6, fr7, fr8, fr9, fr10, fr11, fr12, fr13, fr14, fr15, fr16, fr17, fr18, new_get_if, new_next, set_get_if, set_next, decide_true, decide_false, beq_tt, beq_tf, beq_ft, beq_ff, undef, Nat.left_eq_add, Nat.add_eq_left, List.drop_zero, List.drop_succ_cons, List.take_succ_cons, List.take_zero, List.drop_nil, opBox, Value.cells, opStore, setCells, List.length_append, Nat.reduceLeDiff, Nat.add_zero, Nat.add_assoc, Nat.add_right_cancel_iff, List.cons_append, List.nil_append, Array.toList, Nat.reduceLT, Option.bind_some, Option.isNone_none, Option.isNone_some, al34, al37, fa34_0, fa34_1, fa34_2, fa37_0, fa37_1, fa37_2, lw, ls, lt, h30, h28, h4, h3, h7, hlt, g1, n1, hle', f, wp, sl, bin_sneq, wj2, wl, c1, c2, c3, c4, bin_bneq Try.underlying4, ne_eq, not_true_eq_false]
      refine ⟨k - 1, by omega, T.ext (xe _ _), L0.length + 1, tk.pos + tk.text.length, by omega, rfl, h29, ?_, fun h => by omega⟩
      first | rfl | assumption
    · have c3 : ¬ tk.kind = 0 := (hnl' (by omega)).1
      have c4 : ¬ (j : Int) = (L0.length : Int) := by omega
      have c5 := strOf_ne (hnl' (by omega)).2
      simp only [optV_some, guardV_true, guardV_false, condV_true, condV_false, wpc_skip, wpc_label, wpc_exit, wpc_ret, wpc_region, wpc_seq, wpc_cond, wpc_block, wpc_scope, wpc_loop, wpo_nil, wpo_cons, wps_open, evOp, evParts, okVal, ev1, evs, evOpt, put_get, put_none, envOf, keep_some, List.lookup_nil, List.size_toArray, List.length_cons, List.length_nil, List.range, List.range.loop, Nat.zero_add, Nat.reduceAdd, Bool.not_false, Bool.not_true, Bool.true_or, if_true, if_false, reduceIte, Nat.reduceEqDiff, reduceCtorEq, List.getElem?_toArray, List.getElem?_cons_zero, List.getElem?_cons_succ, guardOf, constOk, constCell, evBuiltin, List.head?_cons, foldV, min2V, max2V, bin_add, bin_sub, bin_mul, bin_quo, bin_rem, bin_and, bin_or, bin_xor, bin_shl, bin_shr, bin_lss, bin_leq, bin_gtr, bin_geq, bin_eql, bin_neq, bin_seql, bin_beql, un_neg, un_xor, un_not, Int.reduceLT, Int.reduceEq, Kend, resOf, oneOf_one, Bool.false_eq_true, Bool.true_eq_false, IntKind.signed, IntKind.max, opConvert, opIndexAddr, opLoad, aggOf, Option.some.injEq, Value.bool.injEq, exists_eq_left', true_and, forall_const, decide_eq_true_eq, decide_eq_false_iff_not, Int.natCast_nonneg, and_self, Int.toNat_natCast, Nat.mul_one, List.append_nil, beq_self_eq_true, Nat.lt_irrefl, Nat.zero_lt_succ, Nat.reduceLT, Option.bind_some, Try.underlying3, Try.underlying4, Try.underlying5, Try.underlying9, Try.underlying22, Try.underlying25, Try.underlying26, Try.underlying27, Try.underlying30, Try.underlying34, Try.underlying35, Try.underlying37, ts3, ts4, ts5, ts9, ts22, ts25, ts26, ts27, ts30, ts34, ts35, ts37, tz3, tz4, tz5, tz9, tz22, tz25, tz26, tz27, tz30, tz34, tz35, tz37, tb3, tb4, tb5, tb9, tb22, tb25, tb26, tb27, tb30, tb34, tb35, tb37, fr3, fr4, fr5, fr6, fr7, fr8, fr9, fr10, fr11, fr12, fr13, fr14, fr15, fr16, fr17, fr18, new_get_if, new_next, set_get_if, set_next, decide_true, decide_false, beq_tt, beq_tf, beq_ft, beq_ff, undef, Nat.left_eq_add, Nat.add_eq_left, List.drop_zero, List.drop_succ_cons, List.take_succ_cons, List.take_zero, List.drop_nil, opBox, Value.cells, opStore, setCells, List.length_append, Nat.reduceLeDiff, Nat.add_zero, Nat.add_assoc, Nat.add_right_cancel_iff, List.cons_append, List.nil_append, Array.toList, Nat.reduceLT, Option.bind_some, Option.isNone_none, Option.isNone_some, al34, al37, fa34_0, fa34_1, fa34_2, fa37_0, fa37_1, fa37_2, lw, ls, lt, h30, h28, h4, h3, h7, hj, g1, n1, hle, f, wp, sl, bin_sneq, wj, wl, c1, c2, c3, c4, c5, e_eq, bin_bneq Try.underlying4, ne_eq, not_false_eq_true]
      refine ⟨k - 1, by omega, T.ext (xe _ _), j + 1, tk.pos + tk.text.length, by omega, rfl, h29, ?_, fun h => ?_⟩
      · first | rfl | assumption
      · exact hch h
  · obtain ⟨cs, rfl, g1, q1, l1, _, _, e1, _⟩ := T.at (j := L0.length) (by omega)
    rw [hlast (by omega)] at e1
    have wl : IntKind.i64.wrap ((L.length : Int) - 1) = (L0.length : Int) := by rw [wrap_i64 (by omega) (by omega)]; omega
    have hlt : (L0.length : Int) < (L.length : Int) := by omega
    simp only [optV_some, guardV_true, guardV_false, condV_true, condV_false, wpc_skip, wpc_label, wpc_exit, wpc_ret, wpc_region, wpc_seq, wpc_cond, wpc_block, wpc_scope, wpc_loop, wpo_nil, wpo_cons, wps_open, evOp, evParts, okVal, ev1, evs, evOpt, put_get, put_none, envOf, keep_some, List.lookup_nil, List.size_toArray, List.length_cons, List.length_nil, List.range, List.range.loop, Nat.zero_add, Nat.reduceAdd, Bool.not_false, Bool.not_true, Bool.true_or, if_true, if_false, reduceIte, Nat.reduceEqDiff, reduceCtorEq, List.getElem?_toArray, List.getElem?_cons_zero, List.getElem?_cons_succ, guardOf, constOk, constCell, evBuiltin, List.head?_cons, foldV, min2V, max2V, bin_add, bin_sub, bin_mul, bin_quo, bin_rem, bin_and, bin_or, bin_xor, bin_shl, bin_shr, bin_lss, bin_leq, bin_gtr, bin_geq, bin_eql, bin_neq, bin_seql, bin_beql, un_neg, un_xor, un_not, Int.reduceLT, Int.reduceEq, Kend, resOf, oneOf_one, Bool.false_eq_true, Bool.true_eq_false, IntKind.signed, IntKind.max, opConvert, opIndexAddr, opLoad, aggOf, Option.some.injEq, Value.bool.injEq, exists_eq_left', true_and, forall_const, decide_eq_true_eq, decide_eq_false_iff_not, Int.natCast_nonneg, and_self, Int.toNat_natCast, Nat.mul_one, List.append_nil, beq_self_eq_true, Nat.lt_irrefl, Nat.zero_lt_succ, Nat.reduceLT, Option.bind_some, Try.underlying3, Try.underlying4, Try.underlying5, Try.underlying9, Try.underlying22, Try.underlying25, Try.underlying26, Try.underlying27, Try.underlying30, Try.underlying34, Try.underlying35, Try.underlying37, ts3, ts4, ts5, ts9, ts22, ts25, ts26, ts27, ts30, ts34, ts35, ts37, tz3, tz4, tz5, tz9, tz22, tz25, tz26, tz27, tz30, tz34, tz35, tz37, tb3, tb4, tb5, tb9, tb22, tb25, tb26, tb27, tb30, tb34, tb35, tb37, fr3, fr4, fr5, fr6, fr7, fr8, fr9, fr10, fr11, fr12, fr13, fr14, fr15, fr16, fr17, fr18, new_get_if, new_next, set_get_if, set_next, decide_true, decide_false, beq_tt, beq_tf, beq_ft, beq_ff, undef, Nat.left_eq_add, Nat.add_eq_left, List.drop_zero, List.drop_succ_cons, List.take_succ_cons, List.take_zero, List.drop_nil, opBox, Value.cells, opStore, setCells, List.length_append, Nat.reduceLeDiff, Nat.add_zero, Nat.add_assoc, Nat.add_right_cancel_iff, List.cons_append, List.nil_append, Array.toList, Nat.reduceLT, Option.bind_some, Option.isNone_none, Option.isNone_some, al34, al37, fa34_0, fa34_1, fa34_2, fa37_0, fa37_1, fa37_2, lw, ls, h4, h3, wl, hlt, g1, e1, endTk]

theorem lexPlaces_true {H : Type} {m : Mem} {xs : List Value} {ds : List (DataW H)} (hd : IsDs Try.prog 8 [22] ds) (hl : LieAll Try.prog m [22] ds xs) : Ret Try.prog 7 xs m fun v _ => v = .bool true := by
  obtain ⟨d0, dr, rfl, i0, hd⟩ := isDs_cons hd
  obtain rfl := isDs_nil hd
  obtain ⟨v0, _, rfl, l0, rfl⟩ := hl
  have hb5 : Try.prog.bytesOf 5 = 1 := by kernel_rfl
  have hrb := reachBytes_lt
  obtain ⟨ks, hk, hw, hkv⟩ := lies_nums (k := 6) Try.underlying22 Try.underlying5 (by kernel_rfl) i0 l0
  rw [hb5] at hw
  exact places_ret hkv (fun b h => wf_u8 (hk b h)) (by omega)
end Go.Proofs.Ytbaohgjammpgjaa
