/- A text of the abstract machine. -/

/- Letters, cut into parcels. -/
import Derived.Test.YtiacdjobmfhgoaaAmC18v
import Derived.Test.YtiacdjobmfhgoaaAmBun
set_option linter.unusedSimpArgs false
set_option linter.unusedVariables false
set_option maxRecDepth 100000
set_option maxHeartbeats 4000000
namespace Go.Proofs.Ytiacdjobmfhgoaa
open Go Go.AM Go.AM.Crc Go.AM.Wire
theorem fxC18c : type_of% (And.intro (And.intro (And.intro (And.intro (And.intro (And.intro @Try.underlying3 @Try.underlying4) (And.intro @Try.underlying5 (And.intro @Try.underlying9 @Try.underlying23))) (And.intro (And.intro @Try.underlying24 @Try.underlying0) (And.intro @Try.underlying54 (And.intro @Try.underlying22 @Try.underlying66)))) (And.intro (And.intro (And.intro @Try.underlying68 @Try.underlying75) (And.intro @Try.underlying85 (And.intro @Try.underlying27 @Try.underlying26))) (And.intro (And.intro @Try.underlying28 (And.intro @Try.underlying32 @ts3)) (And.intro @ts4 (And.intro @ts5 @ts9))))) (And.intro (And.intro (And.intro (And.intro @ts23 @ts24) (And.intro @ts0 (And.intro @ts54 @ts22))) (And.intro (And.intro @ts66 @ts68) (And.intro @ts75 (And.intro @ts85 @ts27)))) (And.intro (And.intro (And.intro @ts26 @ts28) (And.intro @ts32 (And.intro @tz3 @tz4))) (And.intro (And.intro @tz5 (And.intro @tz9 @tz23)) (And.intro @tz24 (And.intro @tz0 @tz54)))))) (And.intro (And.intro (And.intro (And.intro (And.intro @tz22 @tz66) (And.intro @tz68 (And.intro @tz75 @tz85))) (And.intro (And.intro @tz27 @tz26) (And.intro @tz28 (And.intro @tz32 @tb3)))) (And.intro (And.intro (And.intro @tb4 @tb5) (And.intro @tb9 (And.intro @tb23 @tb24))) (And.intro (And.intro @tb0 (And.intro @tb54 @tb22)) (And.intro @tb66 (And.intro @tb68 @tb75))))) (And.intro (And.intro (And.intro (And.intro @tb85 @tb27) (And.intro @tb26 (And.intro @tb28 @tb32))) (And.intro (And.intro @fr8 @fr9) (And.intro @bz85 (And.intro @al68 @al85)))) (And.intro (And.intro (And.intro @fa68_0 @fa85_0) (And.intro @fa85_1 (And.intro @fa85_2 @bz32))) (And.intro (And.intro @al32 (And.intro @fa32_0 @fa32_1)) (And.intro @fa32_2 (And.intro @fa32_3 @fa32_4))))))) := (And.intro (And.intro (And.intro (And.intro (And.intro (And.intro @Try.underlying3 @Try.underlying4) (And.intro @Try.underlying5 (And.intro @Try.underlying9 @Try.underlying23))) (And.intro (And.intro @Try.underlying24 @Try.underlying0) (And.intro @Try.underlying54 (And.intro @Try.underlying22 @Try.underlying66)))) (And.intro (And.intro (And.intro @Try.underlying68 @Try.underlying75) (And.intro @Try.underlying85 (And.intro @Try.underlying27 @Try.underlying26))) (And.intro (And.intro @Try.underlying28 (And.intro @Try.underlying32 @ts3)) (And.intro @ts4 (And.intro @ts5 @ts9))))) (And.intro (And.intro (And.intro (And.intro @ts23 @ts24) (And.intro @ts0 (And.intro @ts54 @ts22))) (And.intro (And.intro @ts66 @ts68) (And.intro @ts75 (And.intro @ts85 @ts27)))) (And.intro (And.intro (And.intro @ts26 @ts28) (And.intro @ts32 (And.intro @tz3 @tz4))) (And.intro (And.intro @tz5 (And.intro @tz9 @tz23)) (And.intro @tz24 (And.intro @tz0 @tz54)))))) (And.intro (And.intro (And.intro (And.intro (And.intro @tz22 @tz66) (And.intro @tz68 (And.intro @tz75 @tz85))) (And.intro (And.intro @tz27 @tz26) (And.intro @tz28 (And.intro @tz32 @tb3)))) (And.intro (And.intro (And.intro @tb4 @tb5) (And.intro @tb9 (And.intro @tb23 @tb24))) (And.intro (And.intro @tb0 (And.intro @tb54 @tb22)) (And.intro @tb66 (And.intro @tb68 @tb75))))) (And.intro (And.intro (And.intro (And.intro @tb85 @tb27) (And.intro @tb26 (And.intro @tb28 @tb32))) (And.intro (And.intro @fr8 @fr9) (And.intro @bz85 (And.intro @al68 @al85)))) (And.intro (And.intro (And.intro @fa68_0 @fa85_0) (And.intro @fa85_1 (And.intro @fa85_2 @bz32))) (And.intro (And.intro @al32 (And.intro @fa32_0 @fa32_1)) (And.intro @fa32_2 (And.intro @fa32_3 @fa32_4)))))))
def cutN (b : List Int) : Nat := max ((b.length + 47) / 48) 1
def chunk (b : List Int) (i : Nat) : List Int := (b.drop (48 * i)).take 48
/-- The cells of parcel i. -/
def PC (μ : Mem) (f l : Int) (many : Nat) (b : List Int) (i : Nat) (c : List Value) : Prop := ∃ w, c = [.int .i64 f, .int .u32 l, .int .i64 i, .int .i64 many, w] ∧ FRow μ w 1 (chunk b i).length (byteCells (chunk b i))
theorem PC.pz {μ μ' : Mem} {f l : Int} {many : Nat} {b : List Int} {i : Nat} {c : List Value} (h : PC μ f l many b i c) (p : Pz μ μ') : PC μ' f l many b i c := by
  obtain ⟨w, h1, h2⟩ := h
  exact ⟨w, h1, h2.pz p⟩
theorem PC.len {μ : Mem} {f l : Int} {many : Nat} {b : List Int} {i : Nat} {c : List Value} (h : PC μ f l many b i c) : c.length = 5 := by
  obtain ⟨w, rfl, _⟩ := h; rfl
theorem one_pa (m : Mem) (f l i n : Int) (a : Option Addr) (k z : Nat) : opBuildSlice Try.prog 26 1 [(0, .agg #[.int .i64 f, .int .u32 l, .int .i64 i, .int .i64 n, .slice a k z])] m = some (.slice (some ⟨m.next, 0, none⟩) 1 5, m.new (.cells [.int .i64 f, .int .u32 l, .int .i64 i, .int .i64 n, .slice a k z] 32 true)) := by kernel_rfl
theorem bld5 (f l i n : Int) (a : Option Addr) (k z : Nat) : opBuild Try.prog 32 [(0, .int .i64 f), (1, .int .u32 l), (2, .int .i64 i), (3, .int .i64 n), (4, .slice a k z)] = some (.agg #[.int .i64 f, .int .u32 l, .int .i64 i, .int .i64 n, .slice a k z]) := by kernel_rfl

theorem cut_ret {m : Mem} {f l : Int} {v : Value} {b : List Int} (hf : 0 ≤ f ∧ f < 16) (hv : ∀ M, Ext m M → Shows M v (byteCells b)) (hl : b.length ≤ 4800)
    {K : Value → Mem → Prop} (hK : ∀ m' a q r cs, Ext m m' → OwnI r 32 5 m' (.slice a (cutN b) q) (cutN b) cs → m.next ≤ r → RowsOf (PC m' f l (cutN b) b) (List.range (cutN b)) cs → K (.tuple #[.slice a (cutN b) q, .int .i64 0]) m') : Ret Try.prog 9 [.int .i64 f, .int .u32 l, v] m K := by
  refine ret_wp [] Try.func9 rfl (by decide) (by kernel_rfl) ?_
  have lv : opLen Try.prog (some 22) v = some (.int .i64 b.length) := IsBytes.len (hv m (Ext.refl m))
  have h1 : ¬ f < 0 := by omega
  have h2 : ¬ 16 ≤ f := by omega
  have w1 : IntKind.i64.wrap ((b.length : Int) + 48) = b.length + 48 := wrap_i64 (by omega) (by omega)
  have w2 : IntKind.i64.wrap ((b.length : Int) + 48 - 1) = b.length + 47 := by rw [wrap_i64 (by omega) (by omega)]; omega
  have w3 : IntKind.i64.wrap (((b.length : Int) + 47).tdiv 48) = (((b.length + 47) / 48 : Nat) : Int) := by
    rw [Int.tdiv_eq_ediv_of_nonneg (by omega), wrap_i64 (by omega) (by omega)]; omega
  have hN : cutN b ≤ 100 := by unfold cutN; omega
  have hN1 : 1 ≤ cutN b := by unfold cutN; omega
  have mx : max2V (.int .i64 (((b.length + 47) / 48 : Nat) : Int)) (.int .i64 1) = some (.int .i64 (cutN b)) := by
    simp only [max2V, cutN]
    by_cases h : (b.length + 47) / 48 < 1
    · rw [if_pos (by omega)]; congr 2; omega
    · rw [if_neg (by omega)]; congr 2; omega
  have h100 : ¬ 100 < (cutN b : Int) := by omega
  simp only [evOp, evParts, okVal, ev1, evs, evOpt, envOf, List.lookup_nil, List.size_toArray, List.length_cons, List.length_nil, List.range, List.range.loop, Nat.zero_add, Nat.reduceAdd, Bool.not_false, Bool.not_true, Bool.true_or, if_true, if_false, reduceIte, Nat.reduceEqDiff, reduceCtorEq, List.getElem?_toArray, List.getElem?_cons_zero, List.getElem?_cons_succ, guardOf, constOk, constCell, evBuiltin, List.head?_cons, foldV, min2V, Int.reduceLT, Int.reduceEq, Kend, resOf, Bool.false_eq_true, Bool.true_eq_false, IntKind.signed, IntKind.max, opConvert, opIndexAddr, opLoad, aggOf, Option.some.injEq, Value.bool.injEq, exists_eq_left', true_and, forall_const, decide_eq_true_eq, decide_eq_false_iff_not, Int.natCast_nonneg, and_self, Int.toNat_natCast, Nat.mul_one, List.append_nil, beq_self_eq_true, Nat.lt_irrefl, Nat.zero_lt_succ, Nat.reduceLT, Option.bind_some, new_get_if, new_next, set_get_if, set_next, decide_true, decide_false, beq_tt, beq_tf, beq_ft, beq_ff, undef, Nat.left_eq_add, Nat.add_eq_left, List.drop_zero, List.drop_succ_cons, List.take_succ_cons, List.take_zero, List.drop_nil, opBox, Value.cells, opStore, setCells, List.length_append, Nat.reduceLeDiff, Nat.add_zero, Nat.add_assoc, Nat.add_right_cancel_iff, List.cons_append, List.nil_append, Array.toList, Option.isNone_none, Option.isNone_some, bin_weq, bin_wneq, bin_req, bin_rneq, ne_eq, not_true_eq_false, not_false_eq_true, one_pa, bld5, wk0, fxC18c, h1, h2, lv, w1, w2, w3, mx, h100]
  refine loop_wpz [] (by kernel_rfl) (fun k env μ => ∃ (j r : Nat) (pv : Value) (cs : List Value), k + j = cutN b ∧ Ext m μ ∧ OwnI r 32 5 μ pv j cs ∧ (pv = .slice none 0 0 ∨ m.next ≤ r) ∧ RowsOf (PC μ f l (cutN b) b) (List.range j) cs ∧ env 0 = some (.int .i64 f) ∧ env 1 = some (.int .u32 l) ∧ env 2 = some v ∧ env 8 = some (.int .i64 (cutN b)) ∧ env 9 = some pv ∧ env 26 = some (.int .i64 (cutN b)) ∧ env 27 = some (.int .i64 j)) ?_ (cutN b)
    ⟨0, 0, .slice none 0 0, [], rfl, Ext.refl m, OwnI.nil, .inl rfl, rfl, rfl, rfl, rfl, rfl, rfl, rfl, rfl⟩
  rintro k env μ ⟨j, r, pv, cs, hk, x, o, op, R, e0, e1, e2, e8, e9, e26, e27⟩
  simp only [evOp, evParts, okVal, ev1, evs, evOpt, envOf, List.lookup_nil, List.size_toArray, List.length_cons, List.length_nil, List.range, List.range.loop, Nat.zero_add, Nat.reduceAdd, Bool.not_false, Bool.not_true, Bool.true_or, if_true, if_false, reduceIte, Nat.reduceEqDiff, reduceCtorEq, List.getElem?_toArray, List.getElem?_cons_zero, List.getElem?_cons_succ, guardOf, constOk, constCell, evBuiltin, opLen, List.head?_cons, foldV, min2V, max2V, Int.reduceLT, Int.reduceEq, Kend, resOf, Bool.false_eq_true, Bool.true_eq_false, IntKind.signed, IntKind.max, opConvert, opIndexAddr, opLoad, aggOf, Option.some.injEq, Value.bool.injEq, exists_eq_left', true_and, forall_const, decide_eq_true_eq, decide_eq_false_iff_not, Int.natCast_nonneg, and_self, Int.toNat_natCast, Nat.mul_one, List.append_nil, beq_self_eq_true, Nat.lt_irrefl, Nat.zero_lt_succ, Nat.reduceLT, Option.bind_some, new_get_if, new_next, set_get_if, set_next, decide_true, decide_false, beq_tt, beq_tf, beq_ft, beq_ff, undef, Nat.left_eq_add, Nat.add_eq_left, List.drop_zero, List.drop_succ_cons, List.take_succ_cons, List.take_zero, List.drop_nil, opBox, Value.cells, opStore, setCells, List.length_append, Nat.reduceLeDiff, Nat.add_zero, Nat.add_assoc, Nat.add_right_cancel_iff, List.cons_append, List.nil_append, Array.toList, Option.isNone_none, Option.isNone_some, bin_weq, bin_wneq, bin_req, bin_rneq, ne_eq, not_true_eq_false, not_false_eq_true, one_pa, bld5, wk0, fxC18c, e26, e27]
  refine cond_by (fun hlt => ?_) (fun hge => ?_)
  · have hj : j < cutN b := by omega
    have hj2 : 48 * j ≤ b.length := by unfold cutN at hj; omega
    have u1 : IntKind.i64.wrap ((j : Int) + 1) = ((j + 1 : Nat) : Int) := by rw [wrap_i64 (by omega) (by omega)]; rfl
    have u2 : IntKind.i64.wrap (((j + 1 : Nat) : Int) * 48) = ((48 * j + 48 : Nat) : Int) := by rw [wrap_i64 (by omega) (by omega)]; omega
    have u3 : IntKind.i64.wrap ((j : Int) * 48) = ((48 * j : Nat) : Int) := by rw [wrap_i64 (by omega) (by omega)]; omega
    obtain ⟨hi, hhi⟩ : ∃ t, t = min (48 * j + 48) b.length := ⟨_, rfl⟩
    have mn : min2V (.int .i64 ((48 * j + 48 : Nat) : Int)) (.int .i64 (b.length : Int)) = some (.int .i64 (hi : Int)) := by
      simp only [min2V, hhi]
      by_cases h : b.length < 48 * j + 48
      · rw [if_pos (by omega)]; congr 2; omega
      · rw [if_neg (by omega)]; congr 2; omega
    have hcl : (chunk b j).length = hi - 48 * j := by rw [chunk, List.length_take, List.length_drop, hhi]; omega
    have xn := x.trans (Ext.new μ (.cells [] 5 true))
    obtain ⟨sl, s1, s2, _⟩ := (hv _ xn).cut (P := Try.prog) (t := 22) Try.underlying22 ts5 (lo := some (.int .i64 ((48 * j : Nat) : Int))) (hi := some (.int .i64 (hi : Int))) (l := 48 * j) (k := hi) (by simp only [boundOf]; rw [if_pos (by omega)]; simp; omega) (by simp [boundOf]) (by omega) (by rw [byteCells_length]; omega)
    have ec : ((byteCells b).drop (48 * j)).take (hi - 48 * j) = byteCells (chunk b j) := by
      rw [← hcl, chunk, byteCells, byteCells, List.map_take, List.map_drop]
      rw [List.length_take, List.length_drop, Nat.min_def]
      split
      · rfl
      · rw [List.take_of_length_le (i := 48) (by rw [List.length_drop, List.length_map]; omega), List.take_of_length_le (by rw [List.length_drop, List.length_map]; exact Nat.le_refl _)]
    rw [ec] at s2
    obtain ⟨μ1, r1, a1, g1, n1, l1, x1⟩ := copy_row (P := Try.prog) (T := 22) (new := chunk b j) wt (added_bytes wt s2) (by omega)
    have xx1 := x.trans x1
    have B1 : Byr μ1 r1 (chunk b j) := ⟨l1, g1⟩
    have o1 := o.ext x1
    obtain ⟨C, hC⟩ : ∃ C, C = [Value.int .i64 f, .int .u32 l, .int .i64 j, .int .i64 (cutN b), .slice (some ⟨r1, 0, none⟩) (chunk b j).length 1] := ⟨_, rfl⟩
    have on : OwnI μ1.next 32 5 (μ1.new (.cells C 32 true)) (.slice (some ⟨μ1.next, 0, none⟩) 1 5) 1 C := OwnI.made (by rw [hC]; rfl)
    obtain ⟨a2, q2, μ2, r2, e3, o2, n2, l2, f2⟩ := (o1.ext (Ext.new μ1 (.cells C 32 true))).push (P := Try.prog) (t := 26) (tx := 26) Try.underlying26 ⟨_, Try.underlying26⟩ ts32 (by decide) tz32 tb32 (by decide) rfl rfl on.rd.showsR (by omega)
    simp only [new_next] at n2 l2 f2
    have hr2 : μ1.next ≤ r2 := by omega
    have lx := x.1
    have lx1 := x1.1
    have hrr : pv = .slice none 0 0 ∨ (r < μ.next) := by
      obtain ⟨_, ⟨_, h⟩ | ⟨h, _⟩⟩ := o
      · exact .inl h
      · exact .inr h
    have k2 : ∀ i, i < m.next → μ2.get i = μ1.get i := fun i hi => by
      rw [f2 i (by omega) (fun h => by rcases op with op | op; exact op; omega), new_get_ne _ (by omega)]
    have k2r : μ2.get r1 = μ1.get r1 := by
      rw [f2 r1 (by omega) (fun h => by rcases hrr with hrr | hrr; exact hrr; omega), new_get_ne _ (by omega)]
    have B2 : Byr μ2 r1 (chunk b j) := B1.keep (by omega) k2r
    have p12 : Pz μ1 μ2 := (Pz.new μ1 (.cells C 32 true)).trans (st_append e3).pz
    obtain ⟨μ3, z3, fr3, n3, k3⟩ := B2.own.frz
    have p03 : Pz μ μ3 := (x1.pz.trans p12).trans z3.pz
    rw [hC] at e3
    simp only [evOp, evParts, okVal, ev1, evs, evOpt, envOf, List.lookup_nil, List.size_toArray, List.length_cons, List.length_nil, List.range, List.range.loop, Nat.zero_add, Nat.reduceAdd, Bool.not_false, Bool.not_true, Bool.true_or, if_true, if_false, reduceIte, Nat.reduceEqDiff, reduceCtorEq, List.getElem?_toArray, List.getElem?_cons_zero, List.getElem?_cons_succ, guardOf, constOk, constCell, evBuiltin, List.head?_cons, foldV, max2V, Int.reduceLT, Int.reduceEq, Kend, resOf, Bool.false_eq_true, Bool.true_eq_false, IntKind.signed, IntKind.max, opConvert, opIndexAddr, opLoad, aggOf, Option.some.injEq, Value.bool.injEq, exists_eq_left', true_and, forall_const, decide_eq_true_eq, decide_eq_false_iff_not, Int.natCast_nonneg, and_self, Int.toNat_natCast, Nat.mul_one, List.append_nil, beq_self_eq_true, Nat.lt_irrefl, Nat.zero_lt_succ, Nat.reduceLT, Option.bind_some, new_get_if, new_next, set_get_if, set_next, decide_true, decide_false, beq_tt, beq_tf, beq_ft, beq_ff, undef, Nat.left_eq_add, Nat.add_eq_left, List.drop_zero, List.drop_succ_cons, List.take_succ_cons, List.take_zero, List.drop_nil, opBox, Value.cells, opStore, setCells, List.length_append, Nat.reduceLeDiff, Nat.add_zero, Nat.add_assoc, Nat.add_right_cancel_iff, List.cons_append, List.nil_append, Array.toList, Option.isNone_none, Option.isNone_some, bin_weq, bin_wneq, bin_req, bin_rneq, ne_eq, not_true_eq_false, not_false_eq_true, one_pa, bld5, wk0, fxC18c, e0, e1, e2, e8, e9, e26, e27, u1, u2, u3, lv, mn, no_row, s1, a1, bld5, one_pa, e3]
    refine ⟨μ3, z3, k - 1, by omega, j + 1, r2, _, cs ++ C, by omega, ⟨by omega, fun i hi => ?_⟩, o2.keep (by omega) (fun _ => k3 r2 (by omega)), .inr (by omega), ?_, rfl, rfl⟩
    · rw [k3 i (by omega), k2 i hi, x1.2 i (by omega), x.2 i hi]
    · have e : List.range (j + 1) = List.range j ++ [j] := List.range_succ
      have R3 := (R.mono (R' := PC μ3 f l (cutN b) b) fun _ _ h => h.pz p03).append (RowsOf.one (a := j) (c := C) ⟨_, hC, fr3⟩)
      rw [← e] at R3
      exact R3
  · have hj : j = cutN b := by omega
    subst hj
    obtain ⟨a, q, rfl⟩ := o.is
    simp only [evOp, evParts, okVal, ev1, evs, evOpt, envOf, List.lookup_nil, List.size_toArray, List.length_cons, List.length_nil, List.range, List.range.loop, Nat.zero_add, Nat.reduceAdd, Bool.not_false, Bool.not_true, Bool.true_or, if_true, if_false, reduceIte, Nat.reduceEqDiff, reduceCtorEq, List.getElem?_toArray, List.getElem?_cons_zero, List.getElem?_cons_succ, guardOf, constOk, constCell, evBuiltin, opLen, List.head?_cons, foldV, min2V, max2V, Int.reduceLT, Int.reduceEq, Kend, resOf, Bool.false_eq_true, Bool.true_eq_false, IntKind.signed, IntKind.max, opConvert, opIndexAddr, opLoad, aggOf, Option.some.injEq, Value.bool.injEq, exists_eq_left', true_and, forall_const, decide_eq_true_eq, decide_eq_false_iff_not, Int.natCast_nonneg, and_self, Int.toNat_natCast, Nat.mul_one, List.append_nil, beq_self_eq_true, Nat.lt_irrefl, Nat.zero_lt_succ, Nat.reduceLT, Option.bind_some, new_get_if, new_next, set_get_if, set_next, decide_true, decide_false, beq_tt, beq_tf, beq_ft, beq_ff, undef, Nat.left_eq_add, Nat.add_eq_left, List.drop_zero, List.drop_succ_cons, List.take_succ_cons, List.take_zero, List.drop_nil, opBox, Value.cells, opStore, setCells, List.length_append, Nat.reduceLeDiff, Nat.add_zero, Nat.add_assoc, Nat.add_right_cancel_iff, List.cons_append, List.nil_append, Array.toList, Option.isNone_none, Option.isNone_some, bin_weq, bin_wneq, bin_req, bin_rneq, ne_eq, not_true_eq_false, not_false_eq_true, one_pa, bld5, wk0, fxC18c, e26, e27, e9]
    exact hK μ a q r cs x o (by rcases op with op | op; (exfalso; obtain ⟨h0, ⟨h5, _⟩ | ⟨_, h5, _⟩⟩ := o; omega; rw [h5] at op; simp at op); exact op) R
end Go.Proofs.Ytiacdjobmfhgoaa
