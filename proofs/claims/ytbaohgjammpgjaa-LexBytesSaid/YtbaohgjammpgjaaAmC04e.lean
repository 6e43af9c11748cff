/- A text of the abstract machine. -/

/- The fixed fact of layer 4's laws; what tokens are. -/
import Derived.Test.YtbaohgjammpgjaaAmC04d
import Derived.Test.YtbaohgjammpgjaaAmArgs6
set_option linter.unusedSimpArgs false
set_option linter.unusedVariables false
set_option maxRecDepth 100000
set_option maxHeartbeats 4000000
namespace Go.Proofs.Ytbaohgjammpgjaa
open Go Go.AM Go.AM.Crc Go.AM.Lex

theorem Toks.at {m μ : Mem} {w : Value} {r : Nat} {l : List Tk} (T : Toks m μ w r l) {j : Nat} (hj : j < l.length) : ∃ cs, w = .slice (some ⟨r, 0, none⟩) l.length 3 ∧ μ.get r = some (.cells cs 37 true) ∧ r < μ.next ∧ cs.length = l.length * 3 ∧ (cs.drop (j * 3)).take 3 = tkC l[j] ∧
    cs[j * 3]? = some (.int .u8 l[j].kind) ∧ cs[j * 3 + 1]? = some (.int .i64 l[j].pos) ∧ cs[j * 3 + 2]? = some (.string (strOf l[j].text)) := by
  obtain ⟨h1, h2, h3⟩ := T.2.1.row (by omega)
  have rows : ∀ l : List Tk, RowsOf (fun t c => c = tkC t) l (cellsT l) := by
    intro l
    induction l with
    | nil => rfl
    | cons t r ih => exact ⟨tkC t, cellsT r, by simp [cellsT], rfl, ih⟩
  have hc := (rows l).at (sz := 3) (fun a c h => by rw [h]; rfl) hj
  refine ⟨_, h2, h3, h1, T.2.1.1, hc, ?_, drop_take_get hc (k := 1) (by simp), drop_take_get hc (k := 2) (by simp)⟩
  have := drop_take_get hc (k := 0) (by simp)
  rw [Nat.add_zero] at this
  exact this
theorem RToks.at {m μ : Mem} {w : Value} {r : Nat} {l : List Tk} (T : RToks m μ w r l) {j : Nat} (hj : j < l.length) : ∃ cs, w = .slice (some ⟨r, 0, none⟩) l.length 3 ∧ μ.get r = some (.cells cs 34 true) ∧ r < μ.next ∧ cs.length = l.length * 3 ∧ (cs.drop (j * 3)).take 3 = rtC l[j] := by
  obtain ⟨h1, h2, h3⟩ := T.2.1.row (by omega)
  have rows : ∀ l : List Tk, RowsOf (fun t c => c = rtC t) l (cellsR l) := by
    intro l
    induction l with
    | nil => rfl
    | cons t r ih => exact ⟨rtC t, cellsR r, by simp [cellsR], rfl, ih⟩
  have hc := (rows l).at (sz := 3) (fun a c h => by rw [h]; rfl) hj
  exact ⟨_, h2, h3, h1, T.2.1.1, hc⟩

/-- What Split's tokens are. -/
theorem split_toks {bs : List Int} {t : Tk} (h : t ∈ (splitOf bs).1) : (t.kind = 0 ∨ t.kind = 1 ∨ t.kind = 2 ∨ t.kind = 3) ∧ t.pos + t.text.length ≤ bs.length ∧ (bs.drop t.pos).take t.text.length = t.text := by
  unfold splitOf at h
  split at h
  · simp at h
  · split at h
    · rename_i l he
      rcases List.mem_append.1 h with h | h
      · obtain ⟨j, hj, rfl⟩ := List.mem_iff_getElem.1 h
        have := tokens_places bs.length bs 0 (Nat.le_refl _) bs (fun k => by rw [Nat.zero_add]) j l[j] (by rw [he]; exact List.getElem?_eq_getElem hj)
        exact ⟨.inr this.2.2.2.2.1, by have := this.2.1; omega, this.2.2.2.2.2.1⟩
      · simp at h
        rw [h]
        exact ⟨.inl rfl, by simp [endTk], by simp [endTk]⟩
    · simp at h
theorem tokens_count : ∀ (n : Nat) (l : List Int) (i : Nat), l.length ≤ n → (tokens i l).1.length ≤ l.length
  | n, [], i, h => by simp [tokens_nil]
  | 0, c :: r, i, h => by simp at h
  | n + 1, c :: r, i, h => by
    rw [List.length_cons] at h ⊢
    have ih : ∀ (p : Int → Bool) i, (tokens i (r.drop (span p r))).1.length ≤ r.length := fun p i => Nat.le_trans (tokens_count n _ i (by rw [List.length_drop]; omega)) (by rw [List.length_drop]; omega)
    have ih0 := fun i => tokens_count n r i (by omega)
    rw [tokens_cons]
    split
    · have := ih0 (i + 1); omega
    · split
      · have := ih noteB (i + 1 + span noteB r); omega
      · split
        · simp only [Out.pre, List.length_cons]; have := ih wordB (i + 1 + span wordB r); omega
        · split
          · split
            · simp
            · simp only [Out.pre, List.length_cons]; have := ih digitB (i + 1 + span digitB r); omega
          · split
            · simp only [Out.pre, List.length_cons]; have := ih0 (i + 1); omega
            · simp
theorem split_count (bs : List Int) : (splitOf bs).1.length ≤ bs.length + 1 := by
  have h := tokens_count bs.length bs 0 (Nat.le_refl _)
  unfold splitOf
  split
  · simp
  · split
    · rename_i l he
      rw [he] at h
      simp only at h
      simp only [List.length_append, List.length_cons, List.length_nil]
      omega
    · simp
theorem str_bytes (s : List UInt8) : ∃ bs, Bytes bs ∧ bs.length = s.length ∧ (⟨s.toArray⟩ : ByteArray) = strOf bs := by
  refine ⟨s.map fun b => (b.toNat : Int), fun b h => ?_, List.length_map _, ?_⟩
  · obtain ⟨x, _, rfl⟩ := List.mem_map.1 h
    have := x.toNat_lt
    omega
  · refine ByteArray.ext ?_
    simp [strOf, Function.comp_def]

theorem aw_eq : (⟨#[97, 49, 32, 61, 32, 50, 59]⟩ : ByteArray) = strOf [97, 49, 32, 61, 32, 50, 59] := rfl
theorem aw2_eq : (⟨#[97, 49]⟩ : ByteArray) = strOf [97, 49] := rfl
theorem aw_split : splitOf [97, 49, 32, 61, 32, 50, 59] = ([⟨1, 0, [97, 49]⟩, ⟨3, 3, [61]⟩, ⟨2, 5, [50]⟩, ⟨3, 6, [59]⟩, ⟨0, 7, []⟩], 0, 0) := by decide
theorem awake_ret {m : Mem} {K : Value → Mem → Prop} (hK : ∀ m', Ext m m' → K (.bool true) m') : Ret Try.prog 8 [] m K := by
  refine ret_wp [] Try.func8 rfl (by decide) (by kernel_rfl) ?_
  simp only [optV_some, guardV_true, guardV_false, condV_true, condV_false, wpc_skip, wpc_label, wpc_exit, wpc_ret, wpc_region, wpc_seq, wpc_cond, wpc_block, wpc_scope, wpc_loop, wpo_nil, wpo_cons, wps_open, evOp, evParts, okVal, ev1, evs, evOpt, put_get, put_none, envOf, keep_some, List.lookup_nil, List.size_toArray, List.length_cons, List.length_nil, List.range, List.range.loop, Nat.zero_add, Nat.reduceAdd, Bool.not_false, Bool.not_true, Bool.true_or, if_true, if_false, reduceIte, Nat.reduceEqDiff, reduceCtorEq, List.getElem?_toArray, List.getElem?_cons_zero, List.getElem?_cons_succ, guardOf, constOk, constCell, evBuiltin, opLen, List.head?_cons, foldV, min2V, max2V, bin_add, bin_sub, bin_mul, bin_quo, bin_rem, bin_and, bin_or, bin_xor, bin_shl, bin_shr, bin_lss, bin_leq, bin_gtr, bin_geq, bin_eql, bin_neq, bin_seql, bin_beql, un_neg, un_xor, un_not, Int.reduceLT, Int.reduceEq, Kend, resOf, oneOf_one, Bool.false_eq_true, Bool.true_eq_false, IntKind.signed, IntKind.max, opConvert, opIndexAddr, opLoad, aggOf, Option.some.injEq, Value.bool.injEq, exists_eq_left', true_and, forall_const, decide_eq_true_eq, decide_eq_false_iff_not, Int.natCast_nonneg, and_self, Int.toNat_natCast, Nat.mul_one, List.append_nil, beq_self_eq_true, Nat.lt_irrefl, Nat.zero_lt_succ, Nat.reduceLT, Option.bind_some, Try.underlying3, Try.underlying4, Try.underlying5, Try.underlying9, Try.underlying22, Try.underlying25, Try.underlying26, Try.underlying27, Try.underlying30, Try.underlying34, Try.underlying35, Try.underlying37, ts3, ts4, ts5, ts9, ts22, ts25, ts26, ts27, ts30, ts34, ts35, ts37, tz3, tz4, tz5, tz9, tz22, tz25, tz26, tz27, tz30, tz34, tz35, tz37, tb3, tb4, tb5, tb9, tb22, tb25, tb26, tb27, tb30, tb34, tb35, tb37, fr3, fr4, fr5, fr6, fr7, fr8, fr9, fr10, fr11, fr12, fr13, fr14, fr15, fr16, fr17, fr18, new_get_if, new_next, set_get_if, set_next, decide_true, decide_false, beq_tt, beq_tf, beq_ft, beq_ff, undef, Nat.left_eq_add, Nat.add_eq_left, List.drop_zero, List.drop_succ_cons, List.take_succ_cons, List.take_zero, List.drop_nil, opBox, Value.cells, opStore, setCells, List.length_append, Nat.reduceLeDiff, Nat.add_zero, Nat.add_assoc, Nat.add_right_cancel_iff, List.cons_append, List.nil_append, Array.toList, Nat.reduceLT, Option.bind_some, Option.isNone_none, Option.isNone_some, fa34_0, fa34_1, fa34_2, fa37_0, fa37_1, fa37_2, aw_eq]
  refine split_ret (by intro b hb; revert b; decide) fun m1 w r T => ?_
  rw [aw_split] at T ⊢
  simp only at T
  obtain ⟨cs, hw, g, hr, hl, e0, _, _, e02⟩ := Toks.at T (j := 0) (by decide)
  obtain ⟨cs', _, g', _, _, e2, _⟩ := Toks.at T (j := 2) (by decide)
  rw [g] at g'
  obtain ⟨rfl, _⟩ := Blk.cells.inj (Option.some.inj g')
  have hl5 : (([⟨1, 0, [97, 49]⟩, ⟨3, 3, [61]⟩, ⟨2, 5, [50]⟩, ⟨3, 6, [59]⟩, ⟨0, 7, []⟩] : List Tk).length : Int) = 5 := rfl
  have ld : opLoad Try.prog 37 (.pointer (some ⟨r, 6, none⟩)) m1 = some (.agg #[.int .u8 2, .int .i64 5, .string (strOf [50])]) := by
    rw [load_agg (e := 37) g (by simp only [aggOf, Try.underlying37]) ts37 (by rw [hl]; decide)]
    rw [show (6 : Nat) = 2 * 3 from rfl, e2]
    rfl
  have ix2 : opIndexAddr Try.prog 26 (.slice (some ⟨r, 0, none⟩) 5 3) (.int .i64 2) = some (.pointer (some ⟨r, 6, none⟩)) := by
    simp only [opIndexAddr, Try.underlying26, ts37]; rfl
  have ix0 : opIndexAddr Try.prog 26 (.slice (some ⟨r, 0, none⟩) 5 3) (.int .i64 0) = some (.pointer (some ⟨r, 0, none⟩)) := by
    simp only [opIndexAddr, Try.underlying26, ts37]; rfl
  have ld0 : opLoad Try.prog 9 (.pointer (some ⟨r, 2, none⟩)) m1 = some (.string (strOf [97, 49])) := by
    refine load_cell (e := 37) g (by simp only [aggOf, Try.underlying9]) e02
  subst hw
  simp only [optV_some, guardV_true, guardV_false, condV_true, condV_false, wpc_skip, wpc_label, wpc_exit, wpc_ret, wpc_region, wpc_seq, wpc_cond, wpc_block, wpc_scope, wpc_loop, wpo_nil, wpo_cons, wps_open, evOp, evParts, okVal, ev1, evs, evOpt, put_get, put_none, envOf, keep_some, List.lookup_nil, List.size_toArray, List.length_cons, List.length_nil, List.range, List.range.loop, Nat.zero_add, Nat.reduceAdd, Bool.not_false, Bool.not_true, Bool.true_or, if_true, if_false, reduceIte, Nat.reduceEqDiff, reduceCtorEq, List.getElem?_toArray, List.getElem?_cons_zero, List.getElem?_cons_succ, guardOf, constOk, constCell, evBuiltin, opLen, List.head?_cons, foldV, min2V, max2V, bin_add, bin_sub, bin_mul, bin_quo, bin_rem, bin_and, bin_or, bin_xor, bin_shl, bin_shr, bin_lss, bin_leq, bin_gtr, bin_geq, bin_eql, bin_neq, bin_seql, bin_beql, un_neg, un_xor, un_not, Int.reduceLT, Int.reduceEq, Kend, resOf, oneOf_one, Bool.false_eq_true, Bool.true_eq_false, IntKind.signed, IntKind.max, opConvert, aggOf, Option.some.injEq, Value.bool.injEq, exists_eq_left', true_and, forall_const, decide_eq_true_eq, decide_eq_false_iff_not, Int.natCast_nonneg, and_self, Int.toNat_natCast, Nat.mul_one, List.append_nil, beq_self_eq_true, Nat.lt_irrefl, Nat.zero_lt_succ, Nat.reduceLT, Option.bind_some, Try.underlying3, Try.underlying4, Try.underlying5, Try.underlying9, Try.underlying22, Try.underlying25, Try.underlying26, Try.underlying27, Try.underlying30, Try.underlying34, Try.underlying35, Try.underlying37, ts3, ts4, ts5, ts9, ts22, ts25, ts26, ts27, ts30, ts34, ts35, ts37, tz3, tz4, tz5, tz9, tz22, tz25, tz26, tz27, tz30, tz34, tz35, tz37, tb3, tb4, tb5, tb9, tb22, tb25, tb26, tb27, tb30, tb34, tb35, tb37, fr3, fr4, fr5, fr6, fr7, fr8, fr9, fr10, fr11, fr12, fr13, fr14, fr15, fr16, fr17, fr18, new_get_if, new_next, set_get_if, set_next, decide_true, decide_false, beq_tt, beq_tf, beq_ft, beq_ff, undef, Nat.left_eq_add, Nat.add_eq_left, List.drop_zero, List.drop_succ_cons, List.take_succ_cons, List.take_zero, List.drop_nil, opBox, Value.cells, opStore, setCells, List.length_append, Nat.reduceLeDiff, Nat.add_zero, Nat.add_assoc, Nat.add_right_cancel_iff, List.cons_append, List.nil_append, Array.toList, Nat.reduceLT, Option.bind_some, Option.isNone_none, Option.isNone_some, fa34_0, fa34_1, fa34_2, fa37_0, fa37_1, fa37_2, hl5, ix0, ld0, ix2, ld, aw2_eq, List.length_cons, List.length_nil, Nat.reduceAdd, Int.cast_ofNat_Int]
  refine value_ret (by intro b hb; revert b; decide) (by decide) fun m2 x2 => ?_
  have hv : (if (2 : Int) = 2 then valOf10 (([50] : List Int).take 18) 0 else 0) = 2 := by decide
  rw [hv]
  simp only [optV_some, guardV_true, guardV_false, condV_true, condV_false, wpc_skip, wpc_label, wpc_exit, wpc_ret, wpc_region, wpc_seq, wpc_cond, wpc_block, wpc_scope, wpc_loop, wpo_nil, wpo_cons, wps_open, evOp, evParts, okVal, ev1, evs, evOpt, put_get, put_none, envOf, keep_some, List.lookup_nil, List.size_toArray, List.length_cons, List.length_nil, List.range, List.range.loop, Nat.zero_add, Nat.reduceAdd, Bool.not_false, Bool.not_true, Bool.true_or, if_true, if_false, reduceIte, Nat.reduceEqDiff, reduceCtorEq, List.getElem?_toArray, List.getElem?_cons_zero, List.getElem?_cons_succ, guardOf, constOk, constCell, evBuiltin, opLen, List.head?_cons, foldV, min2V, max2V, bin_add, bin_sub, bin_mul, bin_quo, bin_rem, bin_and, bin_or, bin_xor, bin_shl, bin_shr, bin_lss, bin_leq, bin_gtr, bin_geq, bin_eql, bin_neq, bin_seql, bin_beql, un_neg, un_xor, un_not, Int.reduceLT, Int.reduceEq, Kend, resOf, oneOf_one, Bool.false_eq_true, Bool.true_eq_false, IntKind.signed, IntKind.max, opConvert, opIndexAddr, opLoad, aggOf, Option.some.injEq, Value.bool.injEq, exists_eq_left', true_and, forall_const, decide_eq_true_eq, decide_eq_false_iff_not, Int.natCast_nonneg, and_self, Int.toNat_natCast, Nat.mul_one, List.append_nil, beq_self_eq_true, Nat.lt_irrefl, Nat.zero_lt_succ, Nat.reduceLT, Option.bind_some, Try.underlying3, Try.underlying4, Try.underlying5, Try.underlying9, Try.underlying22, Try.underlying25, Try.underlying26, Try.underlying27, Try.underlying30, Try.underlying34, Try.underlying35, Try.underlying37, ts3, ts4, ts5, ts9, ts22, ts25, ts26, ts27, ts30, ts34, ts35, ts37, tz3, tz4, tz5, tz9, tz22, tz25, tz26, tz27, tz30, tz34, tz35, tz37, tb3, tb4, tb5, tb9, tb22, tb25, tb26, tb27, tb30, tb34, tb35, tb37, fr3, fr4, fr5, fr6, fr7, fr8, fr9, fr10, fr11, fr12, fr13, fr14, fr15, fr16, fr17, fr18, new_get_if, new_next, set_get_if, set_next, decide_true, decide_false, beq_tt, beq_tf, beq_ft, beq_ff, undef, Nat.left_eq_add, Nat.add_eq_left, List.drop_zero, List.drop_succ_cons, List.take_succ_cons, List.take_zero, List.drop_nil, opBox, Value.cells, opStore, setCells, List.length_append, Nat.reduceLeDiff, Nat.add_zero, Nat.add_assoc, Nat.add_right_cancel_iff, List.cons_append, List.nil_append, Array.toList, Nat.reduceLT, Option.bind_some, Option.isNone_none, Option.isNone_some, fa34_0, fa34_1, fa34_2, fa37_0, fa37_1, fa37_2]
  exact hK _ (T.1.trans x2)
end Go.Proofs.Ytbaohgjammpgjaa
