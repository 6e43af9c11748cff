/- A text of the abstract machine. -/

/- What the functions of the writer come to. -/
import Derived.Test.YtejgoooanapjbaaAmWire
import Derived.Test.YtejgoooanapjbaaAmF17
import Derived.Test.YtejgoooanapjbaaAmBun
set_option linter.unusedSimpArgs false
set_option linter.unusedVariables false
set_option maxRecDepth 100000
set_option maxHeartbeats 4000000
namespace Go.Proofs.Ytejgoooanapjbaa
open Go Go.AM Go.AM.Crc Go.AM.Wire
theorem fxC17w : type_of% (And.intro (And.intro (And.intro (And.intro (And.intro (And.intro @Try.underlying3 @Try.underlying4) (And.intro @Try.underlying5 @Try.underlying9)) (And.intro (And.intro @Try.underlying23 @Try.underlying22) (And.intro @Try.underlying0 @Try.underlying100))) (And.intro (And.intro (And.intro @Try.underlying24 @Try.underlying66) (And.intro @Try.underlying68 @Try.underlying78)) (And.intro (And.intro @Try.underlying103 @Try.underlying47) (And.intro @ts3 @ts4)))) (And.intro (And.intro (And.intro (And.intro @ts5 @ts9) (And.intro @ts23 @ts22)) (And.intro (And.intro @ts0 @ts100) (And.intro @ts24 @ts66))) (And.intro (And.intro (And.intro @ts68 @ts78) (And.intro @ts103 @ts47)) (And.intro (And.intro @tz3 @tz4) (And.intro @tz5 (And.intro @tz9 @tz23)))))) (And.intro (And.intro (And.intro (And.intro (And.intro @tz22 @tz0) (And.intro @tz100 @tz24)) (And.intro (And.intro @tz66 @tz68) (And.intro @tz78 @tz103))) (And.intro (And.intro (And.intro @tz47 @tb3) (And.intro @tb4 @tb5)) (And.intro (And.intro @tb9 @tb23) (And.intro @tb22 (And.intro @tb0 @tb100))))) (And.intro (And.intro (And.intro (And.intro @tb24 @tb66) (And.intro @tb68 @tb78)) (And.intro (And.intro @tb103 @tb47) (And.intro @fr18 @fr19))) (And.intro (And.intro (And.intro @fr55 @fr24) (And.intro @bz103 @al68)) (And.intro (And.intro @al103 @fa68_0) (And.intro @fa103_0 (And.intro @fa103_1 @fa103_2))))))) := (And.intro (And.intro (And.intro (And.intro (And.intro (And.intro @Try.underlying3 @Try.underlying4) (And.intro @Try.underlying5 @Try.underlying9)) (And.intro (And.intro @Try.underlying23 @Try.underlying22) (And.intro @Try.underlying0 @Try.underlying100))) (And.intro (And.intro (And.intro @Try.underlying24 @Try.underlying66) (And.intro @Try.underlying68 @Try.underlying78)) (And.intro (And.intro @Try.underlying103 @Try.underlying47) (And.intro @ts3 @ts4)))) (And.intro (And.intro (And.intro (And.intro @ts5 @ts9) (And.intro @ts23 @ts22)) (And.intro (And.intro @ts0 @ts100) (And.intro @ts24 @ts66))) (And.intro (And.intro (And.intro @ts68 @ts78) (And.intro @ts103 @ts47)) (And.intro (And.intro @tz3 @tz4) (And.intro @tz5 (And.intro @tz9 @tz23)))))) (And.intro (And.intro (And.intro (And.intro (And.intro @tz22 @tz0) (And.intro @tz100 @tz24)) (And.intro (And.intro @tz66 @tz68) (And.intro @tz78 @tz103))) (And.intro (And.intro (And.intro @tz47 @tb3) (And.intro @tb4 @tb5)) (And.intro (And.intro @tb9 @tb23) (And.intro @tb22 (And.intro @tb0 @tb100))))) (And.intro (And.intro (And.intro (And.intro @tb24 @tb66) (And.intro @tb68 @tb78)) (And.intro (And.intro @tb103 @tb47) (And.intro @fr18 @fr19))) (And.intro (And.intro (And.intro @fr55 @fr24) (And.intro @bz103 @al68)) (And.intro (And.intro @al103 @fa68_0) (And.intro @fa103_0 (And.intro @fa103_1 @fa103_2)))))))
theorem bin_weq {a : Option Addr} : binV Try.prog .eql 66 (.pointer a) (.pointer none) = some (.bool a.isNone) := bin_ptr_eq Try.underlying66
theorem bin_wneq {a : Option Addr} : binV Try.prog .neq 66 (.pointer a) (.pointer none) = some (.bool (!a.isNone)) := bin_ptr_ne Try.underlying66
theorem bin_req {a : Option Addr} : binV Try.prog .eql 78 (.pointer a) (.pointer none) = some (.bool a.isNone) := bin_ptr_eq Try.underlying78
theorem bin_rneq {a : Option Addr} : binV Try.prog .neq 78 (.pointer a) (.pointer none) = some (.bool (!a.isNone)) := bin_ptr_ne Try.underlying78
theorem wt : WTy Try.prog 5 24 := ⟨Try.underlying24, Try.underlying5, ts5, tz5, tb5⟩
/-- The writer of this program. -/
abbrev Wri (m : Mem) (i r : Nat) (bs : List Int) : Prop := Wr 68 5 m i r bs

theorem two_row (m : Mem) (a b : Int) : opBuildSlice Try.prog 24 2 [(0, .int .u8 a), (1, .int .u8 b)] m = some (.slice (some ⟨m.next, 0, none⟩) 2 1, m.new (.cells (byteCells [a, b]) 5 true)) := by kernel_rfl
theorem one_row (m : Mem) (a : Int) : opBuildSlice Try.prog 24 1 [(0, .int .u8 a)] m = some (.slice (some ⟨m.next, 0, none⟩) 1 1, m.new (.cells (byteCells [a]) 5 true)) := by kernel_rfl
theorem no_row (m : Mem) : opBuildSlice Try.prog 24 0 [] m = some (.slice (some ⟨m.next, 0, none⟩) 0 1, m.new (.cells [] 5 true)) := by kernel_rfl
/-- A row as a string. -/
theorem conv_row {m : Mem} {r : Nat} {bs : List Int} (h : m.get r = some (.cells (byteCells bs) 5 true)) : opConvert Try.prog 24 9 (.slice (some ⟨r, 0, none⟩) bs.length 1) m = some (.string (strOf bs), m) := by
  have sh := Shows.whole h
  rw [byteCells_length] at sh
  exact conv_string (P := Try.prog) Try.underlying24 Try.underlying5 Try.underlying9 sh

theorem word_ret {m : Mem} {i r : Nat} {bs : List Int} {x : Int} (hw : Wri m i r bs) (h0 : 0 ≤ x) (h1 : x < 65536) (hl : bs.length < 2 ^ 40)
    {K : Value → Mem → Prop} (hK : ∀ m' r', Wri m' i r' (bs ++ wordB x) → (r' = r ∨ m.next ≤ r') → Fr2 i r m m' → K (.tuple #[]) m') : Ret Try.prog 18 [.pointer (some ⟨i, 0, none⟩), .int .u16 x] m K := by
  obtain ⟨v, g, ov⟩ := hw.val
  have tr : ∀ m : Mem, opBuildSlice Try.prog 24 2 [(0, .int .u8 (IntKind.u8.wrap (x.fdiv (2 ^ min (Int.toNat 8) IntKind.u16.bits)))), (1, .int .u8 (IntKind.u8.wrap x))] m = some (.slice (some ⟨m.next, 0, none⟩) 2 1, m.new (.cells (byteCells (wordB x)) 5 true)) := fun m => by
    rw [u8_hi h0 h1, u8_lo]; exact two_row m _ _
  obtain ⟨w, m2, e1, g2, l1, l2, l3, r', w', hr, fr⟩ := hw.push (tx := 24) (new := wordB x) wt (Ext.new m (.cells (byteCells (wordB x)) 5 true)) g (added_bytes (x := .slice (some ⟨m.next, 0, none⟩) 2 1) wt (Shows.whole (new_get _ _))) (by rw [wordB_length]; omega)
  refine ret_wp [] Try.func18 rfl (by decide) (by kernel_rfl) ?_
  simp only [evOp, evParts, ev1, evs, evOpt, envOf, List.lookup_nil, List.size_toArray, List.length_cons, List.length_nil, List.range, List.range.loop, Nat.zero_add, Nat.reduceAdd, Bool.not_false, Bool.not_true, Bool.true_or, if_true, if_false, reduceIte, Nat.reduceEqDiff, reduceCtorEq, List.getElem?_toArray, List.getElem?_cons_zero, List.getElem?_cons_succ, guardOf, constOk, constCell, evBuiltin, opLen, List.head?_cons, foldV, min2V, max2V, Int.reduceLT, Int.reduceEq, Kend, resOf, Bool.false_eq_true, Bool.true_eq_false, IntKind.signed, IntKind.max, opConvert, opIndexAddr, opLoad, aggOf, Option.some.injEq, Value.bool.injEq, exists_eq_left', true_and, forall_const, decide_eq_true_eq, decide_eq_false_iff_not, Int.natCast_nonneg, and_self, Int.toNat_natCast, Nat.mul_one, List.append_nil, beq_self_eq_true, Nat.lt_irrefl, Nat.zero_lt_succ, Nat.reduceLT, Option.bind_some, undef, opBox, opStore, setCells, Nat.reduceLeDiff, Array.toList, bin_weq, bin_wneq, bin_req, bin_rneq, wk5, wk0, fxC17w, okInt, g, tr, e1, g2, l1, l2]
  exact hK _ r' w' hr fr

theorem long_ret {m : Mem} {i r : Nat} {bs : List Int} {x : Int} (hw : Wri m i r bs) (h0 : 0 ≤ x) (h1 : x < 4294967296) (hl : bs.length < 2 ^ 39)
    {K : Value → Mem → Prop} (hK : ∀ m' r', Wri m' i r' (bs ++ longB x) → (r' = r ∨ m.next ≤ r') → Fr2 i r m m' → K (.tuple #[]) m') : Ret Try.prog 19 [.pointer (some ⟨i, 0, none⟩), .int .u32 x] m K := by
  refine ret_wp [] Try.func19 rfl (by decide) (by kernel_rfl) ?_
  simp only [Nat.reduceAdd, reduceIte, Nat.reduceEqDiff, reduceCtorEq, opLen, Int.reduceLT, Int.reduceEq, opConvert, opIndexAddr, opLoad, Nat.reduceLT, undef, Nat.reduceLeDiff, Array.toList, bin_weq, bin_wneq, bin_req, bin_rneq, wk4, wk5, wk0, fxC17w, u16_hi h0 h1, u16_lo]
  refine word_ret hw (by omega) (by omega) (by omega) fun m1 r1 w1 n1 f1 => ?_
  simp only [Nat.reduceAdd, reduceIte, Nat.reduceEqDiff, reduceCtorEq, opLen, Int.reduceLT, Int.reduceEq, opConvert, opIndexAddr, opLoad, Nat.reduceLT, undef, Nat.reduceLeDiff, Array.toList, bin_weq, bin_wneq, bin_req, bin_rneq, wk4, wk5, wk0, fxC17w, u16_hi h0 h1, u16_lo]
  refine word_ret w1 (by omega) (by omega) (by simp only [List.length_append, wordB_length]; omega) fun m2 r2 w2 n2 f2 => ?_
  simp only [Nat.reduceAdd, reduceIte, Nat.reduceEqDiff, reduceCtorEq, opLen, Int.reduceLT, Int.reduceEq, opConvert, opIndexAddr, opLoad, Nat.reduceLT, undef, Nat.reduceLeDiff, Array.toList, bin_weq, bin_wneq, bin_req, bin_rneq, wk4, wk5, wk0, fxC17w]
  rw [List.append_assoc] at w2
  exact hK _ r2 w2 (by have := f1.1; omega) (f1.trans f2 n1)

theorem text_ret {m : Mem} {i r : Nat} {bs s : List Int} (hw : Wri m i r bs) (hs : Bytes s) (hl : bs.length < 2 ^ 39) (hl2 : s.length < 65536)
    {K : Value → Mem → Prop} (hK : ∀ m' r', Wri m' i r' (bs ++ textB s) → (r' = r ∨ m.next ≤ r') → Fr2 i r m m' → K (.tuple #[]) m') : Ret Try.prog 55 [.pointer (some ⟨i, 0, none⟩), .string (strOf s)] m K := by
  refine ret_wp [] Try.func55 rfl (by decide) (by kernel_rfl) ?_
  have wl : (strOf s).size = s.length := strOf_size s
  have e16 : IntKind.u16.wrap (s.length : Int) = s.length := by rw [u16_lo]; omega
  simp only [Nat.reduceAdd, reduceIte, Nat.reduceEqDiff, reduceCtorEq, opLen, Int.reduceLT, Int.reduceEq, opConvert, opIndexAddr, opLoad, Nat.reduceLT, undef, Nat.reduceLeDiff, Array.toList, bin_weq, bin_wneq, bin_req, bin_rneq, wk4, wk5, wk0, fxC17w, wl, e16]
  refine word_ret hw (by omega) (by omega) (by omega) fun m1 r1 w1 n1 f1 => ?_
  obtain ⟨v, g, ov⟩ := w1.val
  obtain ⟨w, m2, e1, g2, l1, l2, l3, r2, w2, n2, f2⟩ := w1.push (tx := 9) (new := s) wt (Ext.refl m1) g (by have h := added_string (P := Try.prog) (m := m1) (z := .int .u8 0) (y := strOf s) Try.underlying9; rw [cellsOf_strOf hs, byteCells_length] at h; exact h) (by simp only [List.length_append, wordB_length]; omega)
  have hmod : Int.tmod (s.length : Int) 2 = ((s.length % 2 : Nat) : Int) := by
    rw [Int.tmod_eq_emod_of_nonneg (by omega)]
    simp
  simp only [evOp, evParts, ev1, evs, evOpt, envOf, List.lookup_nil, List.size_toArray, List.length_cons, List.length_nil, List.range, List.range.loop, Nat.zero_add, Nat.reduceAdd, Bool.not_false, Bool.not_true, Bool.true_or, if_true, if_false, reduceIte, Nat.reduceEqDiff, reduceCtorEq, List.getElem?_toArray, List.getElem?_cons_zero, List.getElem?_cons_succ, guardOf, constOk, constCell, evBuiltin, opLen, List.head?_cons, foldV, min2V, max2V, Int.reduceLT, Int.reduceEq, Kend, resOf, Bool.false_eq_true, Bool.true_eq_false, IntKind.signed, IntKind.max, opConvert, opIndexAddr, opLoad, aggOf, Option.some.injEq, Value.bool.injEq, exists_eq_left', true_and, forall_const, decide_eq_true_eq, decide_eq_false_iff_not, Int.natCast_nonneg, and_self, Int.toNat_natCast, Nat.mul_one, List.append_nil, beq_self_eq_true, Nat.lt_irrefl, Nat.zero_lt_succ, Nat.reduceLT, Option.bind_some, undef, opBox, opStore, setCells, Nat.reduceLeDiff, Array.toList, bin_weq, bin_wneq, bin_req, bin_rneq, wk5, wk0, fxC17w, okInt, g, e1, g2, l1, l2, wl, hmod]
  clear e1 g2
  have f12 := f1.trans f2 n1
  have n12 : r2 = r ∨ m.next ≤ r2 := by have := f1.1; omega
  generalize m2.set i (.cells [w] 68 true) = m3 at w2 f2 f12 ⊢
  rw [List.append_assoc] at w2
  refine cond_by (fun h1 => ?_) (fun h1 => ?_)
  · obtain ⟨v, g, ov⟩ := w2.val
    obtain ⟨w', m4, e1, g2, l1, l2, l3, r3, w3, n3, f3⟩ := w2.push (tx := 24) (new := [0]) wt (Ext.new m3 (.cells (byteCells [0]) 5 true)) g (added_bytes (x := .slice (some ⟨m3.next, 0, none⟩) 1 1) wt (Shows.whole (new_get _ _))) (by simp only [List.length_append, wordB_length, List.length_cons, List.length_nil]; omega)
    simp only [evOp, evParts, ev1, evs, evOpt, envOf, List.lookup_nil, List.size_toArray, List.length_cons, List.length_nil, List.range, List.range.loop, Nat.zero_add, Nat.reduceAdd, Bool.not_false, Bool.not_true, Bool.true_or, if_true, if_false, reduceIte, Nat.reduceEqDiff, reduceCtorEq, List.getElem?_toArray, List.getElem?_cons_zero, List.getElem?_cons_succ, guardOf, constOk, constCell, evBuiltin, opLen, List.head?_cons, foldV, min2V, max2V, Int.reduceLT, Int.reduceEq, Kend, resOf, Bool.false_eq_true, Bool.true_eq_false, IntKind.signed, IntKind.max, opConvert, opIndexAddr, opLoad, aggOf, Option.some.injEq, Value.bool.injEq, exists_eq_left', true_and, forall_const, decide_eq_true_eq, decide_eq_false_iff_not, Int.natCast_nonneg, and_self, Int.toNat_natCast, Nat.mul_one, List.append_nil, beq_self_eq_true, Nat.lt_irrefl, Nat.zero_lt_succ, Nat.reduceLT, Option.bind_some, undef, opBox, opStore, setCells, Nat.reduceLeDiff, Array.toList, bin_weq, bin_wneq, bin_req, bin_rneq, wk5, wk0, fxC17w, okInt, g, one_row, e1, g2, l1, l2]
    have et : bs ++ (wordB s.length ++ s) ++ [0] = bs ++ textB s := by rw [textB, if_pos (by omega), List.append_assoc]
    rw [et] at w3
    exact hK _ r3 w3 (by have := f12.1; omega) (f12.trans f3 n12)
  · have et : bs ++ (wordB s.length ++ s) = bs ++ textB s := by rw [textB, if_neg (by omega), List.append_nil]
    rw [et] at w2
    simp only [Nat.reduceAdd, reduceIte, Nat.reduceEqDiff, reduceCtorEq, opLen, Int.reduceLT, Int.reduceEq, opConvert, opIndexAddr, opLoad, Nat.reduceLT, undef, Nat.reduceLeDiff, Array.toList, bin_weq, bin_wneq, bin_req, bin_rneq, wk4, wk5, wk0, fxC17w]
    exact hK _ r2 w2 n12 f12

theorem bytes_ret {m : Mem} {i r : Nat} {bs : List Int} (hw : Wri m i r bs) (hl : bs.length < 2 ^ 40) {K : Value → Mem → Prop}
    (hK : ∀ m' r', Ext m m' → m.next ≤ r' → r' < m'.next → m'.get r' = some (.cells (byteCells bs) 5 true) → K (.slice (some ⟨r', 0, none⟩) bs.length 1) m') : Ret Try.prog 24 [.pointer (some ⟨i, 0, none⟩)] m K := by
  refine ret_wp [] Try.func24 rfl (by decide) (by kernel_rfl) ?_
  obtain ⟨v, g, ov⟩ := hw.val
  have hne : ¬ i = m.next := by have := hw.1; omega
  obtain ⟨m', r', e1, e2, e3, e4, e5⟩ := copy_row (P := Try.prog) (T := 24) (new := bs) wt (added_bytes wt (ov.ext (Ext.new m (.cells [] 5 true))).shows) (by omega)
  simp only [Nat.reduceAdd, reduceIte, Nat.reduceEqDiff, reduceCtorEq, opLen, Int.reduceLT, Int.reduceEq, opConvert, opIndexAddr, opLoad, Nat.reduceLT, undef, Nat.reduceLeDiff, Array.toList, bin_weq, bin_wneq, bin_req, bin_rneq, wk4, wk5, wk0, fxC17w, no_row, g, hne, e1]
  exact hK _ r' e5 e3 e4 e2
end Go.Proofs.Ytejgoooanapjbaa
