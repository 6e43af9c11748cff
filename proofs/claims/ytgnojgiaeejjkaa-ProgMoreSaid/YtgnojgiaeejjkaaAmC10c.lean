/- A text of the abstract machine. -/

/- Programs one behind the other; the two laws. -/
import Derived.Test.YtgnojgiaeejjkaaAmC10b
set_option linter.unusedSimpArgs false
set_option linter.unusedVariables false
set_option maxRecDepth 100000
set_option maxHeartbeats 4000000
namespace Go.Proofs.Ytgnojgiaeejjkaa
open Go Go.AM

/-- Nothing is wrong but, may be, that it is too long. -/
def sOK (p : List In) : Prop := ∀ i, i < p.length → errAt p i = 0
theorem errFrom_zero {p : List In} : ∀ r i, r + i = p.length → errFrom p r i = 0 → ∀ j, i ≤ j → j < p.length → errAt p j = 0
  | 0, i, h, _, j, h1, h2 => by omega
  | r + 1, i, h, he, j, h1, h2 => by
    rw [errFrom] at he
    split at he
    · rename_i h0
      by_cases hj : j = i
      · rw [hj]; exact h0
      · exact errFrom_zero r (i + 1) (by omega) he j (by omega) h2
    · rename_i h0; exact (h0 he).elim
theorem check_sOK {p : List In} (h : checkOf p = 0) : sOK p := by
  unfold checkOf at h
  split at h
  · cases h
  · exact fun i hi => errFrom_zero _ _ (by omega) h i (by omega) hi
theorem sOK_check {p : List In} (h : sOK p) : checkOf p = if 24 < p.length then 7 else if 200 < fuelOf p then 6 else 0 := by
  have : ∀ r i, r + i = p.length → errFrom p r i = if 200 < fuelOf p then 6 else 0 := by
    intro r
    induction r with
    | zero => intro i _; rw [errFrom]
    | succ r ih =>
      intro i hi
      rw [errFrom, if_pos (h i (by omega))]
      exact ih (i + 1) (by omega)
  rw [checkOf, this _ _ (by omega)]

variable {p q : List In}
theorem getD_left {k : Nat} (hk : k < p.length) : (p ++ q).getD k z0 = p.getD k z0 := by
  rw [List.getD_eq_getElem?_getD, List.getD_eq_getElem?_getD, List.getElem?_append_left hk]
theorem getD_right (k : Nat) : (p ++ q).getD (p.length + k) z0 = q.getD k z0 := by
  rw [List.getD_eq_getElem?_getD, List.getD_eq_getElem?_getD, List.getElem?_append_right (by omega)]
  congr 2
  omega
theorem body_left {k : Nat} (hk : k < p.length) : bodyOf (p ++ q) k = bodyOf p k := by unfold bodyOf; rw [getD_left hk]
theorem body_right (k : Nat) : bodyOf (p ++ q) (p.length + k) = if (q.getD k z0).op = 9 then p.length + bodyOf q k else 0 := by
  unfold bodyOf
  rw [getD_right]
  split
  · rename_i h
    omega
  · rfl
theorem go_left (i : Nat) : ∀ r k, r + k ≤ p.length → withGo (p ++ q) i r k = withGo p i r k
  | 0, _, _ => rfl
  | r + 1, k, h => by rw [withGo, withGo, body_left (by omega), go_left i r (k + 1) (by omega)]
theorem go_split (i : Nat) (b : Nat) : ∀ a k, withGo p i (a + b) k = if withGo p i a k = 0 then withGo p i b (k + a) else withGo p i a k
  | 0, k => by simp [withGo]
  | a + 1, k => by
    rw [show a + 1 + b = (a + b) + 1 by omega, withGo, withGo]
    split
    · rw [if_neg (by omega)]
    · rw [go_split i b a (k + 1), show k + 1 + a = k + (a + 1) by omega]
theorem body_le (h : sOK p) {k : Nat} (hk : k < p.length) : bodyOf p k ≤ p.length := by
  have h1 := h k hk
  by_cases h9 : (p.getD k z0).op = 9
  · unfold errAt at h1
    simp only at h1
    repeat' split at h1
    all_goals first
      | (cases h1; done)
      | omega
  · unfold bodyOf
    rw [if_neg h9]
    omega
theorem go_none (h : sOK p) {i : Nat} (hi : p.length ≤ i) : ∀ r k, r + k ≤ p.length → withGo p i r k = 0
  | 0, _, _ => rfl
  | r + 1, k, hk => by
    have := body_le h (k := k) (by omega)
    rw [withGo, if_neg (by omega), go_none h hi r (k + 1) (by omega)]
theorem go_shift (j : Nat) : ∀ r k, withGo (p ++ q) (p.length + j) r (p.length + k) = if withGo q j r k = 0 then 0 else p.length + withGo q j r k
  | 0, _ => rfl
  | r + 1, k => by
    have ih := go_shift j r (k + 1)
    rw [withGo, withGo, body_right, show p.length + k + 1 = p.length + (k + 1) by omega, ih]
    by_cases h9 : (q.getD k z0).op = 9
    · rw [if_pos h9]
      by_cases hb : (j : Int) < bodyOf q k
      · rw [if_pos (by omega), if_pos hb, if_neg (by omega)]
      · rw [if_neg (by omega), if_neg hb]
    · have hb : bodyOf q k = 0 := by unfold bodyOf; rw [if_neg h9]
      have n1 : ¬ (((p.length + j : Nat) : Int) < 0) := by omega
      have n2 : ¬ ((j : Int) < 0) := by omega
      rw [if_neg h9, hb, if_neg n1, if_neg n2]
theorem within_left {i : Nat} (hi : i ≤ p.length) : withinOf (p ++ q) i = withinOf p i := by
  unfold withinOf
  rw [List.length_append, Nat.min_eq_left (by omega), Nat.min_eq_left hi]
  exact go_left i _ _ (by omega)
theorem within_right (h : sOK p) (j : Nat) : withinOf (p ++ q) (p.length + j) = if withinOf q j = 0 then 0 else p.length + withinOf q j := by
  unfold withinOf
  rw [List.length_append, show min (p.length + j) (p.length + q.length) = p.length + min j q.length by omega, go_split, go_left _ _ _ (by omega), go_none h (by omega) _ _ (by omega), if_pos rfl]
  rw [Nat.zero_add]
  exact go_shift j _ 0
theorem within_nonneg {p : List In} {i : Nat} : 0 ≤ withinOf p i := by
  have : ∀ r k, 0 ≤ withGo p i r k := by
    intro r
    induction r with
    | zero => intro k; simp [withGo]
    | succ r ih =>
      intro k
      rw [withGo]
      split
      · omega
      · exact ih _
  exact this _ _
theorem errAt_zero {p : List In} {i : Nat} : errAt p i = 0 ↔ (p.getD i z0).op < 12 ∧ (p.getD i z0).dst < 16 ∧ (p.getD i z0).a < 16 ∧ ((p.getD i z0).op ≠ 9 → (p.getD i z0).b < 16) ∧
    ((p.getD i z0).op = 9 → withinOf p i = 0 ∧ 1 ≤ (p.getD i z0).b ∧ bodyOf p i ≤ p.length ∧ 1 ≤ (p.getD i z0).n ∧ (p.getD i z0).n ≤ 8) ∧
    ((p.getD i z0).op = 8 → 1 ≤ (p.getD i z0).n ∧ (i : Int) + 1 + (p.getD i z0).n ≤ p.length ∧ (0 < withinOf p i → (i : Int) + 1 + (p.getD i z0).n ≤ withinOf p i) ∧ (withinOf p i = 0 → withinOf p ((i : Int) + 1 + (p.getD i z0).n).toNat = 0)) ∧
    ((p.getD i z0).op = 10 → 0 ≤ (p.getD i z0).n) := by
  have w1 := within_nonneg (p := p) (i := i)
  have w2 := within_nonneg (p := p) (i := ((i : Int) + 1 + (p.getD i z0).n).toNat)
  unfold errAt
  simp only
  generalize p.getD i z0 = x at w2 ⊢
  generalize withinOf p i = w at w1 ⊢
  generalize withinOf p ((i : Int) + 1 + x.n).toNat = w' at w2 ⊢
  generalize bodyOf p i = bo
  constructor
  · intro h
    repeat' split at h
    all_goals first
      | (cases h; done)
      | (refine ⟨by omega, by omega, by omega, by omega, fun h9 => ?_, fun h8 => ?_, by omega⟩
         · exact ⟨by omega, by omega, by omega, by omega, by omega⟩
         · refine ⟨by omega, by omega, by omega, by omega⟩)
  · rintro ⟨a1, a2, a3, a4, a5, a6, a7⟩
    rw [if_neg (by omega), if_neg (by omega), if_neg, if_neg, if_neg (by omega)]
    · rintro ⟨h8, h⟩
      have := a6 h8
      omega
    · rintro ⟨h9, h⟩
      have := a5 h9
      omega
theorem sOK_append (hp : sOK p) (hq : sOK q) : sOK (p ++ q) := by
  intro i hi
  rw [List.length_append] at hi
  by_cases hl : i < p.length
  · have h := hp i hl
    rw [errAt_zero] at h ⊢
    obtain ⟨a1, a2, a3, a4, a5, a6, a7⟩ := h
    rw [getD_left hl, within_left (by omega), body_left hl, List.length_append]
    refine ⟨a1, a2, a3, a4, fun h9 => ?_, fun h8 => ?_, a7⟩
    · have := a5 h9
      omega
    · obtain ⟨b1, b2, b3, b4⟩ := a6 h8
      refine ⟨b1, by omega, b3, fun hw => ?_⟩
      rw [within_left (by omega)]
      exact b4 hw
  · obtain ⟨j, rfl⟩ : ∃ j, i = p.length + j := ⟨i - p.length, by omega⟩
    have h := hq j (by omega)
    rw [errAt_zero] at h ⊢
    obtain ⟨a1, a2, a3, a4, a5, a6, a7⟩ := h
    have hw := within_nonneg (p := q) (i := j)
    rw [getD_right, within_right hp, body_right, List.length_append]
    refine ⟨a1, a2, a3, a4, fun h9 => ?_, fun h8 => ?_, a7⟩
    · obtain ⟨b1, b2, b3, b4, b5⟩ := a5 h9
      rw [if_pos b1, if_pos h9]
      omega
    · obtain ⟨b1, b2, b3, b4⟩ := a6 h8
      refine ⟨b1, by omega, fun h => ?_, fun h => ?_⟩
      · split at h
        · omega
        · rename_i hne
          rw [if_neg hne]
          have := b3 (by omega)
          omega
      · have h0 : withinOf q j = 0 := by
          split at h
          · assumption
          · omega
        have e : (((p.length + j : Nat) : Int) + 1 + (q.getD j z0).n).toNat = p.length + ((j : Int) + 1 + (q.getD j z0).n).toNat := by omega
        rw [e, within_right hp, b4 h0, if_pos rfl]
theorem fuel_append : fuelOf (p ++ q) = fuelOf p + fuelOf q := by
  have : ∀ (a b : List In), fuelSum (a ++ b) = fuelSum a + fuelSum b := fun a b => by
    induction a with
    | nil => simp [fuelSum]
    | cons x r ih => simp only [List.cons_append, fuelSum, ih]; omega
  simp only [fuelOf, this, List.length_append]
  omega

/-- The fixed fact. -/
theorem two_in (m : Mem) : opBuildSlice Try.prog 25 2 [(0, .agg #[.int .u8 9, .int .u8 0, .int .u8 0, .int .u8 1, .int .i16 3]), (1, .agg #[.int .u8 3, .int .u8 0, .int .u8 0, .int .u8 0, .int .i16 0])] m = some (.slice (some ⟨m.next, 0, none⟩) 2 5, m.new (.cells (cellsOf [⟨9, 0, 0, 1, 3⟩, ⟨3, 0, 0, 0, 0⟩]) 34 true)) := by kernel_rfl
theorem a1 : opBuild Try.prog 34 [(0, .int .u8 9), (3, .int .u8 1), (4, .int .i16 3)] = some (.agg #[.int .u8 9, .int .u8 0, .int .u8 0, .int .u8 1, .int .i16 3]) := by kernel_rfl
theorem a2 : opBuild Try.prog 34 [(0, .int .u8 3)] = some (.agg #[.int .u8 3, .int .u8 0, .int .u8 0, .int .u8 0, .int .i16 0]) := by kernel_rfl
theorem a3 : opBuild Try.prog 34 [(0, .int .u8 8), (4, .int .i16 1)] = some (.agg #[.int .u8 8, .int .u8 0, .int .u8 0, .int .u8 0, .int .i16 1]) := by kernel_rfl
theorem awake_ret {m : Mem} {K : Value → Mem → Prop} (hK : ∀ m', Ext m m' → K (.bool true) m') : Ret Try.prog 5 [] m K := by
  refine ret_wp [] Try.func5 rfl (by decide) (by kernel_rfl) ?_
  simp only [optV_some, guardV_true, guardV_false, condV_true, condV_false, wpc_skip, wpc_label, wpc_exit, wpc_ret, wpc_region, wpc_seq, wpc_cond, wpc_block, wpc_scope, wpc_loop, wpo_nil, wpo_cons, wps_open, evOp, evParts, okVal, ev1, evs, evOpt, put_get, put_none, envOf, keep_some, List.lookup_nil, List.size_toArray, List.length_cons, List.length_nil, List.range, List.range.loop, Nat.zero_add, Nat.reduceAdd, Bool.not_false, Bool.not_true, Bool.true_or, if_true, if_false, reduceIte, Nat.reduceEqDiff, reduceCtorEq, List.getElem?_toArray, List.getElem?_cons_zero, List.getElem?_cons_succ, guardOf, constOk, constCell, evBuiltin, opLen, List.head?_cons, foldV, min2V, max2V, bin_add, bin_sub, bin_mul, bin_quo, bin_rem, bin_and, bin_or, bin_xor, bin_shl, bin_shr, bin_lss, bin_leq, bin_gtr, bin_geq, bin_eql, bin_neq, bin_seql, bin_beql, un_neg, un_xor, un_not, Int.reduceLT, Int.reduceEq, Kend, resOf, oneOf_one, Bool.false_eq_true, Bool.true_eq_false, IntKind.signed, IntKind.max, opConvert, opIndexAddr, opLoad, aggOf, Option.some.injEq, Value.bool.injEq, exists_eq_left', true_and, forall_const, decide_eq_true_eq, decide_eq_false_iff_not, Int.natCast_nonneg, and_self, Int.toNat_natCast, Nat.mul_one, List.append_nil, beq_self_eq_true, Nat.lt_irrefl, Nat.zero_lt_succ, Nat.reduceLT, Option.bind_some, Try.underlying3, Try.underlying4, Try.underlying5, Try.underlying22, Try.underlying25, Try.underlying27, Try.underlying31, Try.underlying32, Try.underlying34, Try.underlying37, ts3, ts4, ts5, ts22, ts25, ts27, ts31, ts32, ts34, ts37, tz3, tz4, tz5, tz22, tz25, tz27, tz31, tz32, tz34, tz37, tb3, tb4, tb5, tb22, tb25, tb27, tb31, tb32, tb34, tb37, fr3, fr4, fr5, fr6, fr7, fr8, fr9, fr10, new_get_if, new_next, set_get_if, set_next, decide_true, decide_false, beq_tt, beq_tf, beq_ft, beq_ff, undef, Nat.left_eq_add, Nat.add_eq_left, List.drop_zero, List.drop_succ_cons, List.take_succ_cons, List.take_zero, List.drop_nil, opBox, Value.cells, opStore, setCells, List.length_append, Nat.reduceLeDiff, Nat.add_zero, Nat.add_assoc, Nat.add_right_cancel_iff, List.cons_append, List.nil_append, Array.toList, Nat.reduceLT, Option.bind_some, Option.isNone_none, Option.isNone_some, al34, al37, fa34_0, fa34_1, fa34_2, fa34_3, fa34_4, fa37_0, fa37_1, fa37_2, fa37_3, fa37_4, fa37_5, a1, a2, two_in]
  have p0 : PR (m.new (.cells (cellsOf [⟨9, 0, 0, 1, 3⟩, ⟨3, 0, 0, 0, 0⟩]) 34 true)) (.slice (some ⟨m.next, 0, none⟩) 2 5) [⟨9, 0, 0, 1, 3⟩, ⟨3, 0, 0, 0, 0⟩] := (OwnI.made (e := 34) (n := 2) (sz := 5) rfl).rd
  have x0 := Ext.new m (.cells (cellsOf [⟨9, 0, 0, 1, 3⟩, ⟨3, 0, 0, 0, 0⟩]) 34 true)
  generalize m.new (.cells (cellsOf [⟨9, 0, 0, 1, 3⟩, ⟨3, 0, 0, 0, 0⟩]) 34 true) = m1 at p0 x0 ⊢
  have ok1 : ∀ x ∈ ([⟨9, 0, 0, 1, 3⟩, ⟨3, 0, 0, 0, 0⟩] : List In), x.ok := by simp [In.ok]
  refine check_ret p0 ok1 (by decide) fun m2 x2 => ?_
  have c1 : checkOf [⟨9, 0, 0, 1, 3⟩, ⟨3, 0, 0, 0, 0⟩] = 0 := by decide
  simp only [optV_some, guardV_true, guardV_false, condV_true, condV_false, wpc_skip, wpc_label, wpc_exit, wpc_ret, wpc_region, wpc_seq, wpc_cond, wpc_block, wpc_scope, wpc_loop, wpo_nil, wpo_cons, wps_open, evOp, evParts, okVal, ev1, evs, evOpt, put_get, put_none, envOf, keep_some, List.lookup_nil, List.size_toArray, List.length_cons, List.length_nil, List.range, List.range.loop, Nat.zero_add, Nat.reduceAdd, Bool.not_false, Bool.not_true, Bool.true_or, if_true, if_false, reduceIte, Nat.reduceEqDiff, reduceCtorEq, List.getElem?_toArray, List.getElem?_cons_zero, List.getElem?_cons_succ, guardOf, constOk, constCell, evBuiltin, opLen, List.head?_cons, foldV, min2V, max2V, bin_add, bin_sub, bin_mul, bin_quo, bin_rem, bin_and, bin_or, bin_xor, bin_shl, bin_shr, bin_lss, bin_leq, bin_gtr, bin_geq, bin_eql, bin_neq, bin_seql, bin_beql, un_neg, un_xor, un_not, Int.reduceLT, Int.reduceEq, Kend, resOf, oneOf_one, Bool.false_eq_true, Bool.true_eq_false, IntKind.signed, IntKind.max, opConvert, opIndexAddr, opLoad, aggOf, Option.some.injEq, Value.bool.injEq, exists_eq_left', true_and, forall_const, decide_eq_true_eq, decide_eq_false_iff_not, Int.natCast_nonneg, and_self, Int.toNat_natCast, Nat.mul_one, List.append_nil, beq_self_eq_true, Nat.lt_irrefl, Nat.zero_lt_succ, Nat.reduceLT, Option.bind_some, Try.underlying3, Try.underlying4, Try.underlying5, Try.underlying22, Try.underlying25, Try.underlying27, Try.underlying31, Try.underlying32, Try.underlying34, Try.underlying37, ts3, ts4, ts5, ts22, ts25, ts27, ts31, ts32, ts34, ts37, tz3, tz4, tz5, tz22, tz25, tz27, tz31, tz32, tz34, tz37, tb3, tb4, tb5, tb22, tb25, tb27, tb31, tb32, tb34, tb37, fr3, fr4, fr5, fr6, fr7, fr8, fr9, fr10, new_get_if, new_next, set_get_if, set_next, decide_true, decide_false, beq_tt, beq_tf, beq_ft, beq_ff, undef, Nat.left_eq_add, Nat.add_eq_left, List.drop_zero, List.drop_succ_cons, List.take_succ_cons, List.take_zero, List.drop_nil, opBox, Value.cells, opStore, setCells, List.length_append, Nat.reduceLeDiff, Nat.add_zero, Nat.add_assoc, Nat.add_right_cancel_iff, List.cons_append, List.nil_append, Array.toList, Nat.reduceLT, Option.bind_some, Option.isNone_none, Option.isNone_some, al34, al37, fa34_0, fa34_1, fa34_2, fa34_3, fa34_4, fa37_0, fa37_1, fa37_2, fa37_3, fa37_4, fa37_5, c1]
  refine fuel_ret (Rd.ext p0 x2) ok1 (by decide) fun m3 x3 => ?_
  have c2 : fuelOf [⟨9, 0, 0, 1, 3⟩, ⟨3, 0, 0, 0, 0⟩] = 4 := by decide
  simp only [optV_some, guardV_true, guardV_false, condV_true, condV_false, wpc_skip, wpc_label, wpc_exit, wpc_ret, wpc_region, wpc_seq, wpc_cond, wpc_block, wpc_scope, wpc_loop, wpo_nil, wpo_cons, wps_open, evOp, evParts, okVal, ev1, evs, evOpt, put_get, put_none, envOf, keep_some, List.lookup_nil, List.size_toArray, List.length_cons, List.length_nil, List.range, List.range.loop, Nat.zero_add, Nat.reduceAdd, Bool.not_false, Bool.not_true, Bool.true_or, if_true, if_false, reduceIte, Nat.reduceEqDiff, reduceCtorEq, List.getElem?_toArray, List.getElem?_cons_zero, List.getElem?_cons_succ, guardOf, constOk, constCell, evBuiltin, opLen, List.head?_cons, foldV, min2V, max2V, bin_add, bin_sub, bin_mul, bin_quo, bin_rem, bin_and, bin_or, bin_xor, bin_shl, bin_shr, bin_lss, bin_leq, bin_gtr, bin_geq, bin_eql, bin_neq, bin_seql, bin_beql, un_neg, un_xor, un_not, Int.reduceLT, Int.reduceEq, Kend, resOf, oneOf_one, Bool.false_eq_true, Bool.true_eq_false, IntKind.signed, IntKind.max, opConvert, opIndexAddr, opLoad, aggOf, Option.some.injEq, Value.bool.injEq, exists_eq_left', true_and, forall_const, decide_eq_true_eq, decide_eq_false_iff_not, Int.natCast_nonneg, and_self, Int.toNat_natCast, Nat.mul_one, List.append_nil, beq_self_eq_true, Nat.lt_irrefl, Nat.zero_lt_succ, Nat.reduceLT, Option.bind_some, Try.underlying3, Try.underlying4, Try.underlying5, Try.underlying22, Try.underlying25, Try.underlying27, Try.underlying31, Try.underlying32, Try.underlying34, Try.underlying37, ts3, ts4, ts5, ts22, ts25, ts27, ts31, ts32, ts34, ts37, tz3, tz4, tz5, tz22, tz25, tz27, tz31, tz32, tz34, tz37, tb3, tb4, tb5, tb22, tb25, tb27, tb31, tb32, tb34, tb37, fr3, fr4, fr5, fr6, fr7, fr8, fr9, fr10, new_get_if, new_next, set_get_if, set_next, decide_true, decide_false, beq_tt, beq_tf, beq_ft, beq_ff, undef, Nat.left_eq_add, Nat.add_eq_left, List.drop_zero, List.drop_succ_cons, List.take_succ_cons, List.take_zero, List.drop_nil, opBox, Value.cells, opStore, setCells, List.length_append, Nat.reduceLeDiff, Nat.add_zero, Nat.add_assoc, Nat.add_right_cancel_iff, List.cons_append, List.nil_append, Array.toList, Nat.reduceLT, Option.bind_some, Option.isNone_none, Option.isNone_some, al34, al37, fa34_0, fa34_1, fa34_2, fa34_3, fa34_4, fa37_0, fa37_1, fa37_2, fa37_3, fa37_4, fa37_5, c2, a3, one_in]
  have p3 : PR (m3.new (.cells [.int .u8 8, .int .u8 0, .int .u8 0, .int .u8 0, .int .i16 1] 34 true)) (.slice (some ⟨m3.next, 0, none⟩) 1 5) [⟨8, 0, 0, 0, 1⟩] := (OwnI.made (e := 34) (n := 1) (sz := 5) rfl).rd
  refine check_ret p3 (by simp [In.ok]) (by decide) fun m4 x4 => ?_
  have c3 : checkOf [⟨8, 0, 0, 0, 1⟩] = 4 := by decide
  simp only [optV_some, guardV_true, guardV_false, condV_true, condV_false, wpc_skip, wpc_label, wpc_exit, wpc_ret, wpc_region, wpc_seq, wpc_cond, wpc_block, wpc_scope, wpc_loop, wpo_nil, wpo_cons, wps_open, evOp, evParts, okVal, ev1, evs, evOpt, put_get, put_none, envOf, keep_some, List.lookup_nil, List.size_toArray, List.length_cons, List.length_nil, List.range, List.range.loop, Nat.zero_add, Nat.reduceAdd, Bool.not_false, Bool.not_true, Bool.true_or, if_true, if_false, reduceIte, Nat.reduceEqDiff, reduceCtorEq, List.getElem?_toArray, List.getElem?_cons_zero, List.getElem?_cons_succ, guardOf, constOk, constCell, evBuiltin, opLen, List.head?_cons, foldV, min2V, max2V, bin_add, bin_sub, bin_mul, bin_quo, bin_rem, bin_and, bin_or, bin_xor, bin_shl, bin_shr, bin_lss, bin_leq, bin_gtr, bin_geq, bin_eql, bin_neq, bin_seql, bin_beql, un_neg, un_xor, un_not, Int.reduceLT, Int.reduceEq, Kend, resOf, oneOf_one, Bool.false_eq_true, Bool.true_eq_false, IntKind.signed, IntKind.max, opConvert, opIndexAddr, opLoad, aggOf, Option.some.injEq, Value.bool.injEq, exists_eq_left', true_and, forall_const, decide_eq_true_eq, decide_eq_false_iff_not, Int.natCast_nonneg, and_self, Int.toNat_natCast, Nat.mul_one, List.append_nil, beq_self_eq_true, Nat.lt_irrefl, Nat.zero_lt_succ, Nat.reduceLT, Option.bind_some, Try.underlying3, Try.underlying4, Try.underlying5, Try.underlying22, Try.underlying25, Try.underlying27, Try.underlying31, Try.underlying32, Try.underlying34, Try.underlying37, ts3, ts4, ts5, ts22, ts25, ts27, ts31, ts32, ts34, ts37, tz3, tz4, tz5, tz22, tz25, tz27, tz31, tz32, tz34, tz37, tb3, tb4, tb5, tb22, tb25, tb27, tb31, tb32, tb34, tb37, fr3, fr4, fr5, fr6, fr7, fr8, fr9, fr10, new_get_if, new_next, set_get_if, set_next, decide_true, decide_false, beq_tt, beq_tf, beq_ft, beq_ff, undef, Nat.left_eq_add, Nat.add_eq_left, List.drop_zero, List.drop_succ_cons, List.take_succ_cons, List.take_zero, List.drop_nil, opBox, Value.cells, opStore, setCells, List.length_append, Nat.reduceLeDiff, Nat.add_zero, Nat.add_assoc, Nat.add_right_cancel_iff, List.cons_append, List.nil_append, Array.toList, Nat.reduceLT, Option.bind_some, Option.isNone_none, Option.isNone_some, al34, al37, fa34_0, fa34_1, fa34_2, fa34_3, fa34_4, fa37_0, fa37_1, fa37_2, fa37_3, fa37_4, fa37_5, c3]
  exact hK _ (((x0.trans x2).trans x3).trans ((Ext.new _ _).trans x4))
end Go.Proofs.Ytgnojgiaeejjkaa
