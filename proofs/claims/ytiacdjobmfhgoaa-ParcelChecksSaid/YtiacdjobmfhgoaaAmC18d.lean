/- A text of the abstract machine. -/

/- ParcelBack: the plain law, and the fixed fact. -/
import Derived.Test.YtiacdjobmfhgoaaAmC18b
import Derived.Test.YtiacdjobmfhgoaaAmArgs7
import Derived.Test.YtiacdjobmfhgoaaAmBun
set_option linter.unusedSimpArgs false
set_option linter.unusedVariables false
set_option maxRecDepth 100000
set_option maxHeartbeats 4000000
namespace Go.Proofs.Ytiacdjobmfhgoaa
open Go Go.AM Go.AM.Crc Go.AM.Wire
theorem fxC18d : type_of% (And.intro (And.intro (And.intro (And.intro (And.intro (And.intro @Try.underlying3 (And.intro @Try.underlying4 @Try.underlying5)) (And.intro @Try.underlying9 (And.intro @Try.underlying23 @Try.underlying24))) (And.intro (And.intro @Try.underlying0 (And.intro @Try.underlying54 @Try.underlying22)) (And.intro (And.intro @Try.underlying66 @Try.underlying68) (And.intro @Try.underlying75 @Try.underlying85)))) (And.intro (And.intro (And.intro @Try.underlying27 (And.intro @Try.underlying32 @Try.underlying47)) (And.intro @Try.underlying50 (And.intro @Try.underlying45 @Try.underlying26))) (And.intro (And.intro @Try.underlying28 (And.intro @ts3 @ts4)) (And.intro (And.intro @ts5 @ts9) (And.intro @ts23 @ts24))))) (And.intro (And.intro (And.intro (And.intro @ts0 (And.intro @ts54 @ts22)) (And.intro @ts66 (And.intro @ts68 @ts75))) (And.intro (And.intro @ts85 (And.intro @ts27 @ts32)) (And.intro (And.intro @ts47 @ts50) (And.intro @ts45 @ts26)))) (And.intro (And.intro (And.intro @ts28 (And.intro @tz3 @tz4)) (And.intro @tz5 (And.intro @tz9 @tz23))) (And.intro (And.intro @tz24 (And.intro @tz0 @tz54)) (And.intro (And.intro @tz22 @tz66) (And.intro @tz68 @tz75)))))) (And.intro (And.intro (And.intro (And.intro (And.intro @tz85 (And.intro @tz27 @tz32)) (And.intro @tz47 (And.intro @tz50 @tz45))) (And.intro (And.intro @tz26 (And.intro @tz28 @tb3)) (And.intro (And.intro @tb4 @tb5) (And.intro @tb9 @tb23)))) (And.intro (And.intro (And.intro @tb24 (And.intro @tb0 @tb54)) (And.intro @tb22 (And.intro @tb66 @tb68))) (And.intro (And.intro @tb75 (And.intro @tb85 @tb27)) (And.intro (And.intro @tb32 @tb47) (And.intro @tb50 @tb45))))) (And.intro (And.intro (And.intro (And.intro @tb26 (And.intro @tb28 @fr6)) (And.intro @fr8 (And.intro @fr9 @fr10))) (And.intro (And.intro @fr13 (And.intro @fr14 @fr15)) (And.intro (And.intro @fr16 @fr17) (And.intro @bz85 @al68)))) (And.intro (And.intro (And.intro @al85 (And.intro @fa68_0 @fa85_0)) (And.intro @fa85_1 (And.intro @fa85_2 @bz32))) (And.intro (And.intro @al32 (And.intro @fa32_0 @fa32_1)) (And.intro (And.intro @fa32_2 @fa32_3) (And.intro @fa32_4 @fa45_4))))))) := (And.intro (And.intro (And.intro (And.intro (And.intro (And.intro @Try.underlying3 (And.intro @Try.underlying4 @Try.underlying5)) (And.intro @Try.underlying9 (And.intro @Try.underlying23 @Try.underlying24))) (And.intro (And.intro @Try.underlying0 (And.intro @Try.underlying54 @Try.underlying22)) (And.intro (And.intro @Try.underlying66 @Try.underlying68) (And.intro @Try.underlying75 @Try.underlying85)))) (And.intro (And.intro (And.intro @Try.underlying27 (And.intro @Try.underlying32 @Try.underlying47)) (And.intro @Try.underlying50 (And.intro @Try.underlying45 @Try.underlying26))) (And.intro (And.intro @Try.underlying28 (And.intro @ts3 @ts4)) (And.intro (And.intro @ts5 @ts9) (And.intro @ts23 @ts24))))) (And.intro (And.intro (And.intro (And.intro @ts0 (And.intro @ts54 @ts22)) (And.intro @ts66 (And.intro @ts68 @ts75))) (And.intro (And.intro @ts85 (And.intro @ts27 @ts32)) (And.intro (And.intro @ts47 @ts50) (And.intro @ts45 @ts26)))) (And.intro (And.intro (And.intro @ts28 (And.intro @tz3 @tz4)) (And.intro @tz5 (And.intro @tz9 @tz23))) (And.intro (And.intro @tz24 (And.intro @tz0 @tz54)) (And.intro (And.intro @tz22 @tz66) (And.intro @tz68 @tz75)))))) (And.intro (And.intro (And.intro (And.intro (And.intro @tz85 (And.intro @tz27 @tz32)) (And.intro @tz47 (And.intro @tz50 @tz45))) (And.intro (And.intro @tz26 (And.intro @tz28 @tb3)) (And.intro (And.intro @tb4 @tb5) (And.intro @tb9 @tb23)))) (And.intro (And.intro (And.intro @tb24 (And.intro @tb0 @tb54)) (And.intro @tb22 (And.intro @tb66 @tb68))) (And.intro (And.intro @tb75 (And.intro @tb85 @tb27)) (And.intro (And.intro @tb32 @tb47) (And.intro @tb50 @tb45))))) (And.intro (And.intro (And.intro (And.intro @tb26 (And.intro @tb28 @fr6)) (And.intro @fr8 (And.intro @fr9 @fr10))) (And.intro (And.intro @fr13 (And.intro @fr14 @fr15)) (And.intro (And.intro @fr16 @fr17) (And.intro @bz85 @al68)))) (And.intro (And.intro (And.intro @al85 (And.intro @fa68_0 @fa85_0)) (And.intro @fa85_1 (And.intro @fa85_2 @bz32))) (And.intro (And.intro @al32 (And.intro @fa32_0 @fa32_1)) (And.intro (And.intro @fa32_2 @fa32_3) (And.intro @fa32_4 @fa45_4)))))))
theorem paB_bytes {P : Pa} (hl : 0 ≤ P.l ∧ P.l < 4294967296) (hb : Bytes P.b) (hc : pcheck P = 0) : Bytes (paB P) := by
  obtain ⟨z1, z2, z3, z4⟩ := pcheck_zero hc
  rw [paB]
  exact bytes_append (bytes_word (by omega) (by omega)) (bytes_append (bytes_long hl.1 hl.2) (bytes_append (bytes_word z3.1 (by omega)) (bytes_append (bytes_word (by omega) (by omega)) (bytes_text hb (by omega)))))
theorem read_put {P : Pa} (hc : pcheck P = 0) : readP (paB P) = (P, ((paB P).length, 0)) := by
  obtain ⟨z1, z2, z3, z4⟩ := pcheck_zero hc
  have e1 : wordS (paB P) (0, 0) = (P.f, ((wordB P.f).length, 0)) := by
    have := wordS_mid (x := P.f) [] (longB P.l ++ (wordB P.p ++ (wordB P.n ++ textB P.b)))
    simpa [paB] using this
  have e2 : longS (paB P) ((wordB P.f).length, 0) = (P.l, ((wordB P.f ++ longB P.l).length, 0)) := longS_mid (x := P.l) (wordB P.f) (wordB P.p ++ (wordB P.n ++ textB P.b))
  have e3 : wordS (paB P) ((wordB P.f ++ longB P.l).length, 0) = (P.p, ((wordB P.f ++ longB P.l ++ wordB P.p).length, 0)) := by
    have := wordS_mid (x := P.p) (wordB P.f ++ longB P.l) (wordB P.n ++ textB P.b)
    simp only [paB, List.append_assoc] at this ⊢
    exact this
  have e4 : wordS (paB P) ((wordB P.f ++ longB P.l ++ wordB P.p).length, 0) = (P.n, ((wordB P.f ++ longB P.l ++ wordB P.p ++ wordB P.n).length, 0)) := by
    have := wordS_mid (x := P.n) (wordB P.f ++ longB P.l ++ wordB P.p) (textB P.b)
    simp only [paB, List.append_assoc] at this ⊢
    exact this
  have e5 : textS (paB P) 48 ((wordB P.f ++ longB P.l ++ wordB P.p ++ wordB P.n).length, 0) = (P.b, ((paB P).length, 0)) := by
    have := textS_mid (s := P.b) (most := 48) (wordB P.f ++ longB P.l ++ wordB P.p ++ wordB P.n) [] (by omega)
    simp only [paB, List.append_assoc, List.append_nil] at this ⊢
    exact this
  simp only [readP, e1, e2, e3, e4, e5]
theorem paS_length (P : Pa) : (paS P).length = (paB P).length + 4 := by rw [paS, List.length_append]; rfl
theorem right_put {P : Pa} (hb : Bytes (paB P)) : rightB (paS P) = true := by
  have h := right_iff (put_bytes hb) (by have := paS_length P; rw [paS] at this; omega)
  rw [rightB, if_neg (by have := paS_length P; omega), paS, h, decide_eq_true (put_right hb)]
theorem take_put {P : Pa} (hb : Bytes (paB P)) (hc : pcheck P = 0) : takeP (paS P) = (P, 0) := by
  have e : (paS P).take ((paS P).length - 4) = paB P := by
    rw [paS_length, Nat.add_sub_cancel, paS, List.take_left]
  have he : endS (paB P).length ((paB P).length, 0) = 0 := by rw [endS, if_neg (by simp)]
  simp only [takeP, right_put hb, Bool.true_eq_false, if_false, e, read_put hc, he, hc, ne_eq, not_true_eq_false]
theorem turned_zero (X : List Int) (F : Nat) : ∀ k, turned X F 0#32 k = X
  | 0 => rfl
  | k + 1 => by
    rw [turned, if_neg (by simp), turned_zero X F k]
theorem turned_err {P : Pa} (hb : Bytes (paB P)) (hc : pcheck P = 0) {F : Nat} {w : BitVec 32} (hF : F + 32 ≤ 8 * (paS P).length) : (takeP (turned (paS P) F w 32)).2 = if w = 0#32 then 0 else 11 := by
  by_cases hw : w = 0#32
  · rw [hw, turned_zero, take_put hb hc, if_pos rfl]
  · rw [if_neg hw]
    have hX : Bytes (paS P) := put_bytes hb
    have hl := paS_length P
    have h := right_iff (turned_bytes hX F w 32) (by rw [turned_length]; omega)
    have h2 := turned_right hX (by omega) (by have := put_right hb; exact this) (w := w) hF
    have hr : rightB (turned (paS P) F w 32) = false := by
      rw [rightB, if_neg (by rw [turned_length]; omega), h, decide_eq_false]
      exact fun h3 => hw (h2.1 h3)
    rw [takeP, if_pos hr]

theorem zeros_cells (n : Nat) : List.replicate n (Value.int .u8 0) = byteCells (List.replicate n 0) := by rw [byteCells, List.map_replicate]
theorem awake_ret {m : Mem} {K : Value → Mem → Prop} (hK : ∀ m', Ext m m' → K (.bool true) m') : Ret Try.prog 8 [] m K := by
  refine ret_wp [] Try.func8 rfl (by decide) (by kernel_rfl) ?_
  have mk := make_one (P := Try.prog) (t := 22) (m := m) (N := 50) (n := 50) Try.underlying22 ts5 tz5 tb5 rfl rfl rfl (by decide) (by decide)
  simp only [evOp, evParts, okVal, ev1, evs, evOpt, envOf, List.lookup_nil, List.size_toArray, List.length_cons, List.length_nil, List.range, List.range.loop, Nat.zero_add, Nat.reduceAdd, Bool.not_false, Bool.not_true, Bool.true_or, if_true, if_false, reduceIte, Nat.reduceEqDiff, reduceCtorEq, List.getElem?_toArray, List.getElem?_cons_zero, List.getElem?_cons_succ, guardOf, constOk, constCell, evBuiltin, opLen, List.head?_cons, foldV, min2V, max2V, Int.reduceLT, Int.reduceEq, Kend, resOf, Bool.false_eq_true, Bool.true_eq_false, IntKind.signed, IntKind.max, opConvert, opIndexAddr, opLoad, aggOf, Option.some.injEq, Value.bool.injEq, exists_eq_left', true_and, forall_const, decide_eq_true_eq, decide_eq_false_iff_not, Int.natCast_nonneg, and_self, Int.toNat_natCast, Nat.mul_one, List.append_nil, beq_self_eq_true, Nat.lt_irrefl, Nat.zero_lt_succ, Nat.reduceLT, Option.bind_some, new_get_if, new_next, set_get_if, set_next, decide_true, decide_false, beq_tt, beq_tf, beq_ft, beq_ff, undef, Nat.left_eq_add, Nat.add_eq_left, List.drop_zero, List.drop_succ_cons, List.take_succ_cons, List.take_zero, List.drop_nil, opBox, Value.cells, opStore, setCells, List.length_append, Nat.reduceLeDiff, Nat.add_zero, Nat.add_assoc, Nat.add_right_cancel_iff, List.cons_append, List.nil_append, Array.toList, Option.isNone_none, Option.isNone_some, bin_weq, bin_wneq, bin_req, bin_rneq, ne_eq, not_true_eq_false, not_false_eq_true, bin_sneq, wk0, fxC18d, mk]
  have B : Byr (m.new (.cells (List.replicate 50 (.int .u8 0)) 5 true)) m.next (List.replicate 50 0) := by rw [zeros_cells]; exact Brow.made _ _
  have x0 := Ext.new m (.cells (List.replicate 50 (.int .u8 0)) 5 true)
  generalize m.new (.cells (List.replicate 50 (.int .u8 0)) 5 true) = m0 at B x0 ⊢
  have cn : cutN (List.replicate 50 0) = 2 := by decide
  have sh : ∀ M, Ext m0 M → Shows M (.slice (some ⟨m.next, 0, none⟩) 50 1) (byteCells (List.replicate 50 0)) := fun M y => by
    have := (B.ext y).shows
    exact this
  refine cut_ret (f := 1) (l := 2) (by decide) sh (by decide) fun m1 a q r cs x1 o hr R => ?_
  rw [cn] at o R ⊢
  obtain ⟨c0, t0, rfl, h0, c1, t1, rfl, h1, ht⟩ := R
  rw [RowsOf] at ht
  subst ht
  obtain ⟨w0, rfl, f0⟩ := h0
  obtain ⟨w1, rfl, f1⟩ := h1
  obtain ⟨hlt, hv, hg⟩ := o.row (by decide)
  have ix : opIndexAddr Try.prog 26 (.slice a 2 q) (.int .i64 1) = some (.pointer (some ⟨r, 1 * 5, none⟩)) := o.index (P := Try.prog) Try.underlying26 ts32 (i := 1) rfl (by decide)
  have l2 := f1.len (P := Try.prog) Try.underlying22
  have cl : (chunk (List.replicate 50 0) 1).length = 2 := by decide
  rw [cl] at l2
  have ll : opLen Try.prog (some 26) (.slice a 2 q) = some (.int .i64 2) := o.len (P := Try.prog) Try.underlying26
  have e2 : ((2 : Nat) : Int) = 2 := rfl
  rw [e2] at l2
  simp only [evOp, evParts, okVal, ev1, evs, evOpt, envOf, List.lookup_nil, List.size_toArray, List.length_cons, List.length_nil, List.range, List.range.loop, Nat.zero_add, Nat.reduceAdd, Bool.not_false, Bool.not_true, Bool.true_or, if_true, if_false, reduceIte, Nat.reduceEqDiff, reduceCtorEq, List.getElem?_toArray, List.getElem?_cons_zero, List.getElem?_cons_succ, guardOf, constOk, constCell, evBuiltin, List.head?_cons, foldV, min2V, max2V, Int.reduceLT, Int.reduceEq, Kend, resOf, Bool.false_eq_true, Bool.true_eq_false, IntKind.signed, IntKind.max, opConvert, opLoad, aggOf, Option.some.injEq, Value.bool.injEq, exists_eq_left', true_and, forall_const, decide_eq_true_eq, decide_eq_false_iff_not, Int.natCast_nonneg, and_self, Int.toNat_natCast, Nat.mul_one, List.append_nil, beq_self_eq_true, Nat.lt_irrefl, Nat.zero_lt_succ, Nat.reduceLT, Option.bind_some, new_get_if, new_next, set_get_if, set_next, decide_true, decide_false, beq_tt, beq_tf, beq_ft, beq_ff, undef, Nat.left_eq_add, Nat.add_eq_left, List.drop_zero, List.drop_succ_cons, List.take_succ_cons, List.take_zero, List.drop_nil, opBox, Value.cells, opStore, setCells, List.length_append, Nat.reduceLeDiff, Nat.add_zero, Nat.add_assoc, Nat.add_right_cancel_iff, List.cons_append, List.nil_append, Array.toList, Option.isNone_none, Option.isNone_some, bin_weq, bin_wneq, bin_req, bin_rneq, ne_eq, not_true_eq_false, not_false_eq_true, bin_sneq, wk0, fxC18d, ll, ix, hg, l2, e2]
  exact hK _ (x0.trans x1)
end Go.Proofs.Ytiacdjobmfhgoaa
