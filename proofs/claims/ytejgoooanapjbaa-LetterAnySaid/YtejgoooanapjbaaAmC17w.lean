/- A text of the abstract machine. -/

/- What the functions of the writer come to. -/
import Derived.Test.YtejgoooanapjbaaAmWire
import Derived.Test.YtejgoooanapjbaaAmF17
import Derived.Test.YtejgoooanapjbaaAmBun
set_option linter.unusedSimpArgs false
set_option linter.unusedVariables false
set_option maxRecDepth 100000
set_option maxHeartbeats 4000000
namespace Go.Proofs.Ytejgoooanapjbaa
open Go Go.AM Go.AM.Crc Go.AM.Wire
theorem fxC17w : type_of% (And.intro (And.intro (And.intro (And.intro (And.intro (And.intro @Try.underlying3 @Try.underlying4) (And.intro @Try.underlying5 @Try.underlying9)) (And.intro (And.intro @Try.underlying23 @Try.underlying22) (And.intro @Try.underlying0 @Try.underlying100))) (And.intro (And.intro (And.intro @Try.underlying24 @Try.underlying66) (And.intro @Try.underlying68 @Try.underlying78)) (And.intro (And.intro @Try.underlying103 @Try.underlying47) (And.intro @ts3 @ts4)))) (And.intro (And.intro (And.intro (And.intro @ts5 @ts9) (And.intro @ts23 @ts22)) (And.intro (And.intro @ts0 @ts100) (And.intro @ts24 @ts66))) (And.intro (And.intro (And.intro @ts68 @ts78) (And.intro @ts103 @ts47)) (And.intro (And.intro @tz3 @tz4) (And.intro @tz5 (And.intro @tz9 @tz23)))))) (And.intro (And.intro (And.intro (And.intro (And.intro @tz22 @tz0) (And.intro @tz100 @tz24)) (And.intro (And.intro @tz66 @tz68) (And.intro @tz78 @tz103))) (And.intro (And.intro (And.intro @tz47 @tb3) (And.intro @tb4 @tb5)) (And.intro (And.intro @tb9 @tb23) (And.intro @tb22 (And.intro @tb0 @tb100))))) (And.intro (And.intro (And.intro (And.intro @tb24 @tb66) (And.intro @tb68 @tb78)) (And.intro (And.intro @tb103 @tb47) (And.intro @fr18 @fr19))) (And.intro (And.intro (And.intro @fr55 @fr24) (And.intro @bz103 @al68)) (And.intro (And.intro @al103 @fa68_0) (And.intro @fa103_0 (And.intro @fa103_1 @fa103_2))))))) := (And.intro (And.intro (And.intro (And.intro (And.intro (And.intro @Try.underlying3 @Try.underlying4) (And.intro @Try.underlying5 @Try.underlying9)) (And.intro (And.intro @Try.underlying23 @Try.underlying22) (And.intro @Try.underlying0 @Try.underlying100))) (And.intro (And.intro (And.intro @Try.underlying24 @Try.underlying66) (And.intro @Try.underlying68 @Try.underlying78)) (And.intro (And.intro @Try.underlying103 @Try.underlying47) (And.intro @ts3 @ts4)))) (And.intro (And.intro (And.intro (And.intro @ts5 @ts9) (And.intro @ts23 @ts22)) (And.intro (And.intro @ts0 @ts100) (And.intro @ts24 @ts66))) (And.intro (And.intro (And.intro @ts68 @ts78) (And.intro @ts103 @ts47)) (And.intro (And.intro @tz3 @tz4) (And.intro @tz5 (And.intro @tz9 @tz23)))))) (And.intro (And.intro (And.intro (And.intro (And.intro @tz22 @tz0) (And.intro @tz100 @tz24)) (And.intro (And.intro @tz66 @tz68) (And.intro @tz78 @tz103))) (And.intro (And.intro (And.intro @tz47 @tb3) (And.intro @tb4 @tb5)) (And.intro (And.intro @tb9 @tb23) (And.intro @tb22 (And.intro @tb0 @tb100))))) (And.intro (And.intro (And.intro (And.intro @tb24 @tb66) (And.intro @tb68 @tb78)) (And.intro (And.intro @tb103 @tb47) (And.intro @fr18 @fr19))) (And.intro (And.intro (And.intro @fr55 @fr24) (And.intro @bz103 @al68)) (And.intro (And.intro @al103 @fa68_0) (And.intro @fa103_0 (And.intro @fa103_1 @fa103_2)))))))
theorem bin_weq {a : Option Addr} : binV Try.prog .eql 66 (.pointer a) (.pointer none) = some (.bool a.isNone) := bin_ptr_eq Try.underlying66
theorem bin_wneq {a : Option Addr} : binV Try.prog .neq 66 (.pointer a) (.pointer none) = some (.bool (!a.isNone)) := bin_ptr_ne Try.underlying66
theorem bin_req {a : Option Addr} : binV Try.prog .eql 78 (.pointer a) (.pointer none) = some (.bool a.isNone) := bin_ptr_eq Try.underlying78
theorem bin_rneq {a : Option Addr} : binV Try.prog .neq 78 (.pointer a) (.pointer none) = some (.bool (!a.isNone)) := bin_ptr_ne Try.underlying78
theorem wt : WTy Try.prog 5 24 := ⟨Try.underlying24, Try.underlying5, ts5, tz5, tb5⟩
/-- The writer of this program. -/
abbrev Wri (m : Mem) (i r : Nat) (bs : List Int) : Prop := Wr 68 5 m i r bs

theorem two_row (m : Mem) (a b : Int) : opBuildSlice Try.prog 24 2 [(0, .int .u8 a), (1, .int .u8 b)] m = some (.slice (some ⟨m.next, 0, none⟩) 2 1, m.new (.cells (byteCells [a, b]) 5 true)) := by kernel_rfl
theorem one_row (m : Mem) (a : Int) : opBuildSlice Try.prog 24 1 [(0, .int .u8 a)] m = some (.slice (some ⟨m.next, 0, none⟩) 1 1, m.new (.cells (byteCells [a]) 5 true)) := by kernel_rfl
theorem no_row (m : Mem) : opBuildSlice Try.prog 24 0 [] m = some (.slice (some ⟨m.next, 0, none⟩) 0 1, m.new (.cells [] 5 true)) := by kernel_rfl
/-- A row as a string. -/
theorem conv_row {m : Mem} {r : Nat} {bs : List Int} (h : m.get r = some (.cells (byteCells bs) 5 true)) : opConvert Try.prog 24 9 (.slice (some ⟨r, 0, none⟩) bs.length 1) m = some (.string (strOf bs), m) := by
  have sh := Shows.whole h
  rw [byteCells_length] at sh
  exact conv_string (P := Try.prog) Try.underlying24 Try.underlying5 Try.underlying9 sh

theorem word_ret {m : Mem} {i r : Nat} {bs : List Int} {x : Int} (hw : Wri m i r bs) (h0 : 0 ≤ x) (h1 : x < 65536) (hl : bs.length < 2 ^ 40)
    {K : Value → Mem → Prop} (hK : ∀ m' r', Wri m' i r' (bs ++ wordB x) → (r' = r ∨ m.next ≤ r') → Fr2 i r m m' → K (.tuple #[]) m') : Ret Try.prog 18 [.pointer (some ⟨i, 0, none⟩), .int .u16 x] m K := by
  obtain ⟨v, g, ov⟩ := hw.val
  have tr : ∀ m : Mem, opBuildSlice Try.prog 24 2 [(0, .int .u8 (IntKind.u8.wrap (x.fdiv (2 ^ min (Int.toNat 8) IntKind.u16.bits)))), (1, .int .u8 (IntKind.u8.wrap x))] m = some (.slice (some ⟨m.next, 0, none⟩) 2 1, m.new (.cells (byteCells (wordB x)) 5 true)) := fun m => by
    rw [u8_hi h0 h1, u8_lo]; exact two_row m _ _
  obtain ⟨w, m2, e1, g2, l1, l2, l3, r', w', hr, fr⟩ := hw.push (tx := 24) (new := wordB x) wt (Ext.new m (.cells (byteCells (wordB x)) 5 true)) g (added_bytes (x := .slice (some ⟨m.next, 0, none⟩) 2 1) wt (Shows.whole (new_get _ _))) (by rw [wordB_length]; omega)
  refine ret_wp [] Try.func18 rfl (by decide) (by kernel_rfl) ?_
  simp only [evOp, evParts, ev1, evs, evOpt, envOf, List.lookup_nil, List.size_toArray, List.length_cons, List.length_nil, List.range, List.range.loop, Nat.zero_add, Nat.reduceAdd, Bool.not_false, Bool.not_true, Bool.true_or, if_true, if_false, reduceIte, Nat.reduceEqDiff, reduceCtorEq, List.getElem?_toArray, List.getElem?_cons_zero, List.getElem?_cons_succ, guardOf, constOk, constCell, evBuiltin, opLen, List.head?_cons, foldV, min2V, max2V, Int.reduceLT, Int.reduceEq, Kend, resOf, Bool.false_eq_true, Bool.true_eq_false, IntKind.signed, IntKind.max, opConvert, opIndexAddr, opLoad, aggOf, Option.some.injEq, Value.bool.injEq, exists_eq_left', true_and, forall_const, decide_eq_true_eq, decide_eq_false_iff_not, Int.natCast_nonneg, and_self, Int.toNat_natCast, Nat.mul_one, List.append_nil, beq_self_eq_true, Nat.lt_irrefl, Nat.zero_lt_succ, Nat.reduceLT, Option.bind_some, undef, opBox, opStore, setCells, Nat.reduceLeDiff, Array.toList, bin_weq, bin_wneq, bin_req, bin_rneq, wk5, wk0, fxC17w, okInt, g, tr, e1, g2, l1, l2]
  exact hK _ r' w' hr fr

theorem long_ret {m : Mem} {i r : Nat} {bs : List Int} {x : Int} (hw : Wri m i r bs) (h0 : 0 ≤ x) (h1 : x < 4294967296) (hl : bs.length < 2 ^ 39)
    {K : Value → Mem → Prop} (hK : ∀ m' r', Wri m' i r' (bs ++ longB x) → (r' = r ∨ m.next ≤ r') → Fr2 i r m m' → K (.tuple #[]) m') : Ret Try.prog 19 [.pointer (some ⟨i, 0, none⟩), .int .u32 x] m K := by
  refine ret_wp [] Try.func19 rfl (by decide) (by kernel_rfl) ?_
  simp only [Nat.reduceAdd, reduceIte, Nat.reduceEqDiff, reduceCtorEq, opLen, Int.reduceLT, Int.reduceEq, opConvert, opIndexAddr, opLoad, Nat.reduceLT, undef, Nat.reduceLeDiff, Array.toList, bin_weq, bin_wneq, bin_req, bin_rneq, wk4, wk5, wk0, fxC17w, u16_hi h0 h1, u16_lo]
  refine word_ret hw (by omega) (by omega) (by omega) fun m1 r1 w1 n1 f1 => ?_
  simp only [Nat.reduceAdd, reduceIte, Nat.reduceEqDiff, reduceCtorEq, opLen, Int.reduceLT, Int.reduceEq, opConvert, opIndexAddr, opLoad, Nat.reduceLT, undef, Nat.reduceLeDiff, Array.toList, bin_weq, bin_wneq, bin_req, bin_rneq, wk4, wk5, wk0, fxC17w, u16_hi h0 h1, u16_lo]
  refine word_ret w1 (by omega) (by omega) (by simp only [List.length_append, wordB_length]; omega) fun m2 r2 w2 n2 f2 => ?_
  simp only [Nat.reduceAdd, reduceIte, Nat.reduceEqDiff, reduceCtorEq, opLen, Int.reduceLT, Int.reduceEq, opConvert, opIndexAddr, opLoad, Nat.reduceLT, undef, Nat.reduceLeDiff, Array.toList, bin_weq, bin_wneq, bin_req, bin_rneq, wk4, wk5, wk0, fxC17w]
  rw [List.append_assoc] at w2
  exact hK _ r2 w2 (by have := f1.1; omega) (f1.trans f2 n1)

theorem text_ret {m : Mem} {i r : Nat} {bs s : List Int} (hw : Wri m i r bs) (hs : Bytes s) (hl : bs.length < 2 ^ 39) (hl2 : s.length < 65536)
    {K : Value → Mem → Prop} (hK : ∀ m' r', Wri m' i r' (bs ++ textB s) → (r' = r ∨ m.next ≤ r') → Fr2 i r m m' → K (.tuple #[]) m') : Ret Try.prog 55 [.pointer (some ⟨i, 0, none⟩), .string (strOf s)] m K := by
  refine ret_wp [] Try.func55 rfl (by decide) (by kernel_rfl) ?_
  have wl : (strOf s).size = s.length := strOf_size s
  have e16 : IntKind.u16.wrap (s.length : Int) = s.length := by rw [u16_lo]; omega
  simp only [Nat.reduceAdd, reduceIte, Nat.reduceEqDiff, reduceCtorEq, opLen, Int.reduceLT, Int.reduceEq, opConvert, opIndexAddr, opLoad, Nat.reduceLT, undef, Nat.reduceLeDiff, Array.toList, bin_weq, bin_wneq, bin_req, bin_rneq, wk4, wk5, wk0, fxC17w, wl, e16]
  refine word_ret hw (by omega) (by omega) (by omega) fun m1 r1 w1 n1 f1 => ?_
  obtain ⟨v, g, ov⟩ := w1.val
  obtain ⟨w, m2, e1, g2, l1, l2, l3, r2, w2, n2, f2⟩ := w1.push (tx := 9) (new := s) wt (Ext.refl m1) g (by have h := added_string (P := Try.prog) (m := m1) (z := .int .u8 0) (y := strOf s) Try.underlying9; rw [cellsOf_strOf hs, byteCells_length] at h; exact h) (by simp only [List.length_append, wordB_length]; omega)
  have hmod : Int.tmod (s.length : Int) 2 = ((s.length % 2 : Nat) : Int) := by
    rw [Int.tmod_eq_emod_of_nonneg (by omega)]
    simp
  simp only [evOp, evParts, ev1, evs, evOpt, envOf, List.lookup_nil, List.size_toArray, List.length_cons, List.length_nil, List.range, List.range.loop, Nat.zero_add, Nat.reduceAdd, Bool.not_false, Bool.not_true, Bool.true_or, if_true, if_false, reduceIte, Nat.reduceEqDiff, reduceCtorEq, List.getElem?_toArray, List.getElem?_cons_zero, List.getElem?_cons_succ, guardOf, constOk, constCell, evBuiltin, opLen, List.head?_cons, foldV, min2V, max2V, Int.reduceLT, Int.reduceEq, Kend, resOf, Bool.false_eq_true, Bool.true_eq_false, IntKind.signed, IntKind.max, opConvert, opIndexAddr, opLoad, aggOf, Option.some.injEq, Value.bool.injEq, exists_eq_left', true_and, forall_const, decide_eq_true_eq, decide_eq_false_iff_not, Int.natCast_nonneg, and_self, Int.toNat_natCast, Nat.mul_one, List.append_nil, beq_self_eq_true, Nat.lt_irrefl, Nat.zero_lt_succ, Nat.reduceLT, Option.bind_some, undef, opBox, opStore, setCells, Nat.reduceLeDiff, Array.toList, bin_weq, bin_wneq, bin_req, bin_rneq, wk5, wk0, fxC17w, okInt, g, e1, g2, l1, l2, wl, hmod]
  clear e1 g2
  have f12 := f1.trans f2 n1
  have n12 : r2 = r ∨ m.next ≤ r2 := by have := f1.1; omega
  generalize m2.set i (.cells [w] 68 true) = m3 at w2 f2 f12 ⊢
  rw [List.append_assoc] at w2
  refine cond_by (fun h1 => ?_) (fun h1 => ?_)
  · obtain ⟨v, g, ov⟩ := w2.val
    obtain ⟨w', m4, e1, g2, l1, l2, l3, r3, w3, n3, f3⟩ := w2.push (tx := 24) (new := [0]) wt (Ext.new m3 (.cells (byteCells [0]) 5 true)) g (added_bytes (x := .slice (some ⟨m3.next, 0, none⟩) 1 1) wt (Shows.whole (new_get _ _))) (by simp only [List.length_append, wordB_length, List.length_cons, List.length_nil]; omega)
    simp only [evOp, evParts, ev1, evs, evOpt, envOf, List.lookup_nil, List.size_toArray, List.length_cons, List.length_nil, List.range, List.range.loop, Nat.zero_add, Nat.reduceAdd, Bool.not_false, Bool.not_true, Bool.true_or, if_true, if_false, reduceIte, Nat.reduceEqDiff, reduceCtorEq, List.getElem?_toArray, List.getElem?_cons_zero, List.getElem?_cons_succ, guardOf, constOk, constCell, evBuiltin, opLen, List.head?_cons, foldV, min2V, max2V, Int.reduceLT, Int.reduceEq, Kend, resOf, Bool.false_eq_true, Bool.true_eq_false, IntKind.signed, IntKind.max, opConvert, opIndexAddr, opLoad, aggOf, Option.some.injEq, Value.bool.injEq, exists_eq_left', true_and, forall_const, decide_eq_true_eq, decide_eq_false_iff_not, Int.natCast_nonneg, and_self, Int.toNat_natCast, Nat.mul_one, List.append_nil, beq_self_eq_true, Nat.lt_irrefl, Nat.zero_lt_succ, Nat.reduceLT, Option.bind_some, undef, opBox, opStore, setCells, Nat.reduceLeDiff, Array.toList, bin_weq, bin_wneq, bin_req, bin_rneq, wk5, wk0, fxC17w, okInt, g, one_row, e1, g2, l1, l2]
    have et : bs ++ (wordB s.length ++ s) ++ [0] = bs ++ textB s := by rw [textB, if_pos (by omega), List.append_assoc]
    rw [et] at w3
    exact hK _ r3 w3 (by have := f12.1; omega) (f12.trans f3 n12)
  · have et : bs ++ (wordB s.length ++ s) = bs ++ textB s := by rw [textB, if_neg (by omega), List.append_nil]
    rw [et] at w2
    simp only [Nat.reduceAdd, reduceIte, Nat.reduceEqDiff, reduceCtorEq, opLen, Int.reduceLT, Int.reduceEq, opConvert, opIndexAddr, opLoad, Nat.reduceLT, undef, Nat.reduceLeDiff, Array.toList, bin_weq, bin_wneq, bin_req, bin_rneq, wk4, wk5, wk0, fxC17w]
    exact hK _ r2 w2 n12 f12

theorem bytes_ret {m : Mem} {i r : Nat} {bs : List Int} (hw : Wri m i r bs) (hl : bs.length < 2 ^ 40) {K : Value → Mem → Prop}
    (hK : ∀ m' r', Ext m m' → m.next ≤ r' → r' < m'.next → m'.get r' = some (.cells (byteCells bs) 5 true) → K (.slice (some ⟨r', 0, none⟩) bs.length 1) m') : Ret Try.prog 24 [.pointer (some ⟨i, 0, none⟩)] m K := by
  refine ret_wp [] Try.func24 rfl (by decide) (by kernel_rfl) ?_
  obtain ⟨v, g, ov⟩ := hw.val
  have hne : ¬ i = m.next := by have := hw.1; omega
  obtain ⟨m', r', e1, e2, e3, e4, e5⟩ := copy_row (P := Try.prog) (T := 24) (new := bs) wt (added_bytes wt (ov.ext (Ext.new m (.cells [] 5 true))).shows) (by omega)
  simp only [Nat.reduceAdd, reduceIte, Nat.reduceEqDiff, reduceCtorEq, opLen, Int.reduceLT, Int.reduceEq, opConvert, opIndexAddr, opLoad, Nat.reduceLT, undef, Nat.reduceLeDiff, Array.toList, bin_weq, bin_wneq, bin_req, bin_rneq, wk4, wk5, wk0, fxC17w, no_row, g, hne, e1]
  exact hK _ r' e5 e3 e4 e2
end Go.Proofs.Ytejgoooanapjbaa

set_option maxRecDepth 100000
set_option maxHeartbeats 4000000
namespace Go.Proofs.Ytejgoooanapjbaa
open Go Go.AM Go.AM.Crc Go.AM.Wire
theorem fxC17r : type_of% (And.intro (And.intro (And.intro (And.intro (And.intro (And.intro @Try.underlying3 @Try.underlying4) (And.intro @Try.underlying5 @Try.underlying9)) (And.intro (And.intro @Try.underlying23 @Try.underlying22) (And.intro @Try.underlying0 (And.intro @Try.underlying100 @Try.underlying24)))) (And.intro (And.intro (And.intro @Try.underlying66 @Try.underlying68) (And.intro @Try.underlying78 (And.intro @Try.underlying103 @Try.underlying47))) (And.intro (And.intro @ts3 @ts4) (And.intro @ts5 (And.intro @ts9 @ts23))))) (And.intro (And.intro (And.intro (And.intro @ts22 @ts0) (And.intro @ts100 @ts24)) (And.intro (And.intro @ts66 @ts68) (And.intro @ts78 (And.intro @ts103 @ts47)))) (And.intro (And.intro (And.intro @tz3 @tz4) (And.intro @tz5 (And.intro @tz9 @tz23))) (And.intro (And.intro @tz22 @tz0) (And.intro @tz100 (And.intro @tz24 @tz66)))))) (And.intro (And.intro (And.intro (And.intro (And.intro @tz68 @tz78) (And.intro @tz103 @tz47)) (And.intro (And.intro @tb3 @tb4) (And.intro @tb5 (And.intro @tb9 @tb23)))) (And.intro (And.intro (And.intro @tb22 @tb0) (And.intro @tb100 (And.intro @tb24 @tb66))) (And.intro (And.intro @tb68 @tb78) (And.intro @tb103 (And.intro @tb47 @fr56))))) (And.intro (And.intro (And.intro (And.intro @fr57 @fr59) (And.intro @fr37 @fr35)) (And.intro (And.intro @fr30 @fr31) (And.intro @fr58 (And.intro @fr29 @bz103)))) (And.intro (And.intro (And.intro @al68 @al103) (And.intro @fa68_0 (And.intro @fa103_0 @fa103_1))) (And.intro (And.intro @fa103_2 @bin_weq) (And.intro @bin_wneq (And.intro @bin_req @bin_rneq))))))) := (And.intro (And.intro (And.intro (And.intro (And.intro (And.intro @Try.underlying3 @Try.underlying4) (And.intro @Try.underlying5 @Try.underlying9)) (And.intro (And.intro @Try.underlying23 @Try.underlying22) (And.intro @Try.underlying0 (And.intro @Try.underlying100 @Try.underlying24)))) (And.intro (And.intro (And.intro @Try.underlying66 @Try.underlying68) (And.intro @Try.underlying78 (And.intro @Try.underlying103 @Try.underlying47))) (And.intro (And.intro @ts3 @ts4) (And.intro @ts5 (And.intro @ts9 @ts23))))) (And.intro (And.intro (And.intro (And.intro @ts22 @ts0) (And.intro @ts100 @ts24)) (And.intro (And.intro @ts66 @ts68) (And.intro @ts78 (And.intro @ts103 @ts47)))) (And.intro (And.intro (And.intro @tz3 @tz4) (And.intro @tz5 (And.intro @tz9 @tz23))) (And.intro (And.intro @tz22 @tz0) (And.intro @tz100 (And.intro @tz24 @tz66)))))) (And.intro (And.intro (And.intro (And.intro (And.intro @tz68 @tz78) (And.intro @tz103 @tz47)) (And.intro (And.intro @tb3 @tb4) (And.intro @tb5 (And.intro @tb9 @tb23)))) (And.intro (And.intro (And.intro @tb22 @tb0) (And.intro @tb100 (And.intro @tb24 @tb66))) (And.intro (And.intro @tb68 @tb78) (And.intro @tb103 (And.intro @tb47 @fr56))))) (And.intro (And.intro (And.intro (And.intro @fr57 @fr59) (And.intro @fr37 @fr35)) (And.intro (And.intro @fr30 @fr31) (And.intro @fr58 (And.intro @fr29 @bz103)))) (And.intro (And.intro (And.intro @al68 @al103) (And.intro @fa68_0 (And.intro @fa103_0 @fa103_1))) (And.intro (And.intro @fa103_2 @bin_weq) (And.intro @bin_wneq (And.intro @bin_req @bin_rneq)))))))
/-- The reader of this program. -/
abbrev Rri (m : Mem) (i r : Nat) (all : List Int) (s : Nat × Int) : Prop := Rr 103 5 m i r all s
theorem bldR (v : Option Addr) (n z : Nat) : opBuild Try.prog 103 [(0, .slice v n z)] = some (.agg #[.slice v n z, .int .i64 0, .int .i64 0]) := by kernel_rfl
theorem read_any {m : Mem} {bs : List Int} {v : Value} (hv : Shows (m.new (.cells [] 5 true)) v (byteCells bs)) (hl : bs.length < 2 ^ 40) {K : Value → Mem → Prop}
    (hK : ∀ m' i r, Ext m m' → Rri m' i r bs (0, 0) → m.next ≤ i → m.next ≤ r → K (.pointer (some ⟨i, 0, none⟩)) m') : Ret Try.prog 29 [v] m K := by
  refine ret_wp [] Try.func29 rfl (by decide) (by kernel_rfl) ?_
  obtain ⟨m', r', e1, e2, e3, e4, e5⟩ := copy_row (P := Try.prog) (T := 24) (new := bs) wt (added_bytes wt hv) (by omega)
  simp only [Nat.reduceAdd, reduceIte, Nat.reduceEqDiff, reduceCtorEq, opLen, Int.reduceLT, Int.reduceEq, opConvert, opIndexAddr, opLoad, Nat.reduceLT, undef, Nat.reduceLeDiff, Array.toList, wk4, wk5, wk0, fxC17r, no_row, e1, bldR]
  exact hK _ m'.next r' (e5.trans (Ext.new _ _)) ⟨Nat.lt_succ_self _, Nat.lt_succ_of_lt e4, by omega, Nat.zero_le _, new_get _ _, by rw [new_get_ne _ (by omega), e2]⟩ e5.1 e3
theorem read_ret {m : Mem} {bs : List Int} {v : Value} (hv : Shows m v (byteCells bs)) (hu : Under m.next v) (hl : bs.length < 2 ^ 40) {K : Value → Mem → Prop}
    (hK : ∀ m' i r, Ext m m' → Rri m' i r bs (0, 0) → m.next ≤ i → m.next ≤ r → K (.pointer (some ⟨i, 0, none⟩)) m') : Ret Try.prog 29 [v] m K := read_any (hv.ext hu (Ext.new m (.cells [] 5 true))) hl hK

theorem fail_ret {m : Mem} {i r : Nat} {all : List Int} {s : Nat × Int} {e : Int} (hr : Rri m i r all s) {K : Value → Mem → Prop} (hK : ∀ m', Rri m' i r all (failS e s) → Fr1 i m m' → K (.tuple #[]) m') : Ret Try.prog 56 [.pointer (some ⟨i, 0, none⟩), .int .i64 e] m K := by
  refine ret_wp [] Try.func56 rfl (by decide) (by kernel_rfl) ?_
  have g := hr.2.2.2.2.1
  by_cases h : s.2 = 0
  · simp only [Nat.reduceAdd, reduceIte, Nat.reduceEqDiff, reduceCtorEq, opLen, Int.reduceLT, Int.reduceEq, opConvert, opIndexAddr, opLoad, Nat.reduceLT, undef, Nat.reduceLeDiff, Array.toList, wk4, wk5, wk0, fxC17r, g, h]
    exact hK _ (by rw [fail_ok h]; exact hr.put (t := (s.1, e)) hr.2.2.2.1) (Fr1.set _ _ _)
  · simp only [Nat.reduceAdd, reduceIte, Nat.reduceEqDiff, reduceCtorEq, opLen, Int.reduceLT, Int.reduceEq, opConvert, opIndexAddr, opLoad, Nat.reduceLT, undef, Nat.reduceLeDiff, Array.toList, wk4, wk5, wk0, fxC17r, g, h]
    exact hK _ (by rw [fail_err h]; exact hr) Fr1.refl

theorem err_ret {m : Mem} {i r : Nat} {all : List Int} {s : Nat × Int} (hr : Rri m i r all s) {K : Value → Mem → Prop} (hK : K (.int .i64 s.2) m) : Ret Try.prog 57 [.pointer (some ⟨i, 0, none⟩)] m K := by
  refine ret_wp [] Try.func57 rfl (by decide) (by kernel_rfl) ?_
  have g := hr.2.2.2.2.1
  simp only [Nat.reduceAdd, reduceIte, Nat.reduceEqDiff, reduceCtorEq, opLen, Int.reduceLT, Int.reduceEq, opConvert, opIndexAddr, opLoad, Nat.reduceLT, undef, Nat.reduceLeDiff, Array.toList, wk4, wk5, wk0, fxC17r, g]
  exact hK

theorem left_ret {m : Mem} {i r : Nat} {all : List Int} {s : Nat × Int} (hr : Rri m i r all s) (hl : all.length < 2 ^ 40) {K : Value → Mem → Prop} (hK : K (.int .i64 (left all.length s)) m) : Ret Try.prog 59 [.pointer (some ⟨i, 0, none⟩)] m K := by
  refine ret_wp [] Try.func59 rfl (by decide) (by kernel_rfl) ?_
  have g := hr.2.2.2.2.1
  have hs := hr.2.2.2.1
  by_cases h : s.2 = 0
  · have e : IntKind.i64.wrap ((all.length : Int) - s.1) = ((left all.length s : Nat) : Int) := by
      rw [left_ok h, wrap_i64 (by omega) (by omega)]; omega
    simp only [Nat.reduceAdd, reduceIte, Nat.reduceEqDiff, reduceCtorEq, opLen, Int.reduceLT, Int.reduceEq, opConvert, opIndexAddr, opLoad, Nat.reduceLT, undef, Nat.reduceLeDiff, Array.toList, wk4, wk5, wk0, fxC17r, g, h, e]
    exact hK
  · simp only [Nat.reduceAdd, reduceIte, Nat.reduceEqDiff, reduceCtorEq, opLen, Int.reduceLT, Int.reduceEq, opConvert, opIndexAddr, opLoad, Nat.reduceLT, undef, Nat.reduceLeDiff, Array.toList, wk4, wk5, wk0, fxC17r, g, h]
    rw [left_err h] at hK
    exact hK

theorem end_ret {m : Mem} {i r : Nat} {all : List Int} {s : Nat × Int} (hr : Rri m i r all s) {K : Value → Mem → Prop} (hK : K (.int .i64 (endS all.length s)) m) : Ret Try.prog 37 [.pointer (some ⟨i, 0, none⟩)] m K := by
  refine ret_wp [] Try.func37 rfl (by decide) (by kernel_rfl) ?_
  have g := hr.2.2.2.2.1
  by_cases h : s.2 = 0
  · by_cases h2 : (s.1 : Int) < all.length
    · simp only [Nat.reduceAdd, reduceIte, Nat.reduceEqDiff, reduceCtorEq, opLen, Int.reduceLT, Int.reduceEq, opConvert, opIndexAddr, opLoad, Nat.reduceLT, undef, Nat.reduceLeDiff, Array.toList, wk4, wk5, wk0, fxC17r, g, h, h2]
      rw [endS, if_pos ⟨h, by omega⟩] at hK
      exact hK
    · simp only [Nat.reduceAdd, reduceIte, Nat.reduceEqDiff, reduceCtorEq, opLen, Int.reduceLT, Int.reduceEq, opConvert, opIndexAddr, opLoad, Nat.reduceLT, undef, Nat.reduceLeDiff, Array.toList, wk4, wk5, wk0, fxC17r, g, h, h2]
      refine err_ret hr ?_
      simp only [Nat.reduceAdd, reduceIte, Nat.reduceEqDiff, reduceCtorEq, opLen, Int.reduceLT, Int.reduceEq, opConvert, opIndexAddr, opLoad, Nat.reduceLT, undef, Nat.reduceLeDiff, Array.toList, wk4, wk5, wk0, fxC17r]
      rw [endS, if_neg (by omega)] at hK
      exact hK
  · simp only [Nat.reduceAdd, reduceIte, Nat.reduceEqDiff, reduceCtorEq, opLen, Int.reduceLT, Int.reduceEq, opConvert, opIndexAddr, opLoad, Nat.reduceLT, undef, Nat.reduceLeDiff, Array.toList, wk4, wk5, wk0, fxC17r, g, h]
    refine err_ret hr ?_
    simp only [Nat.reduceAdd, reduceIte, Nat.reduceEqDiff, reduceCtorEq, opLen, Int.reduceLT, Int.reduceEq, opConvert, opIndexAddr, opLoad, Nat.reduceLT, undef, Nat.reduceLeDiff, Array.toList, wk4, wk5, wk0, fxC17r]
    rw [endS, if_neg (by omega)] at hK
    exact hK

theorem rword_ret {m : Mem} {i r : Nat} {all : List Int} {s : Nat × Int} (hr : Rri m i r all s) (hl : all.length < 2 ^ 40) (hb : Bytes all) {K : Value → Mem → Prop} (hK : ∀ m', Rri m' i r all (wordS all s).2 → Fr1 i m m' → K (.int .u16 (wordS all s).1) m') : Ret Try.prog 35 [.pointer (some ⟨i, 0, none⟩)] m K := by
  refine ret_wp [] Try.func35 rfl (by decide) (by kernel_rfl) ?_
  have g := hr.2.2.2.2.1
  have gr := hr.2.2.2.2.2
  simp only [Nat.reduceAdd, reduceIte, Nat.reduceEqDiff, reduceCtorEq, opLen, Int.reduceLT, Int.reduceEq, opConvert, opIndexAddr, opLoad, Nat.reduceLT, undef, Nat.reduceLeDiff, Array.toList, wk4, wk5, wk0, fxC17r]
  refine left_ret hr hl ?_
  by_cases h : left all.length s < 2
  · have e : wordS all s = (0, failS 3 s) := by rw [wordS, if_pos h]
    rw [e] at hK
    have h' : ((left all.length s : Nat) : Int) < 2 := by omega
    simp only [Nat.reduceAdd, reduceIte, Nat.reduceEqDiff, reduceCtorEq, opLen, Int.reduceLT, Int.reduceEq, opConvert, opIndexAddr, opLoad, Nat.reduceLT, undef, Nat.reduceLeDiff, Array.toList, wk4, wk5, wk0, fxC17r, h']
    refine fail_ret hr fun m1 r1 f1 => ?_
    simp only [Nat.reduceAdd, reduceIte, Nat.reduceEqDiff, reduceCtorEq, opLen, Int.reduceLT, Int.reduceEq, opConvert, opIndexAddr, opLoad, Nat.reduceLT, undef, Nat.reduceLeDiff, Array.toList, wk4, wk5, wk0, fxC17r]
    exact hK _ r1 f1
  · have h0 : s.2 = 0 := by
      refine Decidable.byContradiction fun h0 => ?_
      rw [left_err h0] at h
      omega
    have hn := left_ok (n := all.length) h0
    have e : wordS all s = (all.getD s.1 0 * 256 + all.getD (s.1 + 1) 0, (s.1 + 2, s.2)) := by rw [wordS, if_neg h]
    rw [e] at hK
    have h' : ¬ ((left all.length s : Nat) : Int) < 2 := by omega
    have w1 : IntKind.i64.wrap ((s.1 : Int) + 2) = ((s.1 + 2 : Nat) : Int) := by rw [wrap_i64 (by omega) (by omega)]; rfl
    have w2 : IntKind.i64.wrap (((s.1 + 2 : Nat) : Int) - 2) = ((s.1 : Nat) : Int) := by rw [wrap_i64 (by omega) (by omega)]; omega
    have w3 : IntKind.i64.wrap (((s.1 + 2 : Nat) : Int) - 1) = ((s.1 + 1 : Nat) : Int) := by rw [wrap_i64 (by omega) (by omega)]; omega
    have x1 : opIndexAddr Try.prog 24 (.slice (some ⟨r, 0, none⟩) all.length 1) (.int .i64 ((s.1 : Nat) : Int)) = _ := index_own (P := Try.prog) Try.underlying24 ts5 (by omega)
    have x2 : opIndexAddr Try.prog 24 (.slice (some ⟨r, 0, none⟩) all.length 1) (.int .i64 ((s.1 + 1 : Nat) : Int)) = _ := index_own (P := Try.prog) Try.underlying24 ts5 (by omega)
    have hri : ¬ r = i := hr.2.2.1
    have b1 := byteCells_at (all := all) (k := s.1) (by omega)
    have b2 := byteCells_at (all := all) (k := s.1 + 1) (by omega)
    simp only [Nat.reduceAdd, reduceIte, Nat.reduceEqDiff, reduceCtorEq, opLen, Int.reduceLT, Int.reduceEq, opConvert, opLoad, Nat.reduceLT, undef, Nat.reduceLeDiff, Array.toList, wk4, wk5, wk0, fxC17r, h', g, w1, w2, w3, x1, x2, gr, hri, b1, b2, or16 (getD_bytes hb s.1) (getD_bytes hb (s.1 + 1))]
    exact hK _ (hr.put (t := (s.1 + 2, s.2)) (by simp only; omega)) (Fr1.set _ _ _)

theorem within_ret {m : Mem} {i r : Nat} {all : List Int} {s : Nat × Int} {most : Int} (hr : Rri m i r all s) (hl : all.length < 2 ^ 40) (hb : Bytes all) {K : Value → Mem → Prop} (hK : ∀ m', Rri m' i r all (withinS all most s).2 → Fr1 i m m' → K (.int .i64 (withinS all most s).1) m') : Ret Try.prog 30 [.pointer (some ⟨i, 0, none⟩), .int .i64 most] m K := by
  refine ret_wp [] Try.func30 rfl (by decide) (by kernel_rfl) ?_
  simp only [Nat.reduceAdd, reduceIte, Nat.reduceEqDiff, reduceCtorEq, opLen, Int.reduceLT, Int.reduceEq, opConvert, opIndexAddr, opLoad, Nat.reduceLT, undef, Nat.reduceLeDiff, Array.toList, wk4, wk5, wk0, fxC17r]
  refine rword_ret hr hl hb fun m1 r1 f1 => ?_
  have hv := wordS_val (s := s) hb
  have e : IntKind.i64.wrap (wordS all s).1 = (wordS all s).1 := wrap_i64 (by omega) (by omega)
  simp only [Nat.reduceAdd, reduceIte, Nat.reduceEqDiff, reduceCtorEq, opLen, Int.reduceLT, Int.reduceEq, opConvert, opIndexAddr, opLoad, Nat.reduceLT, undef, Nat.reduceLeDiff, Array.toList, wk4, wk5, wk0, fxC17r, e]
  refine cond_by (fun h => ?_) (fun h => ?_)
  · have q : withinS all most s = (0, failS 7 (wordS all s).2) := by rw [withinS, if_pos h]
    rw [q] at hK
    simp only [Nat.reduceAdd, reduceIte, Nat.reduceEqDiff, reduceCtorEq, opLen, Int.reduceLT, Int.reduceEq, opConvert, opIndexAddr, opLoad, Nat.reduceLT, undef, Nat.reduceLeDiff, Array.toList, wk4, wk5, wk0, fxC17r]
    refine fail_ret r1 fun m2 r2 f2 => ?_
    simp only [Nat.reduceAdd, reduceIte, Nat.reduceEqDiff, reduceCtorEq, opLen, Int.reduceLT, Int.reduceEq, opConvert, opIndexAddr, opLoad, Nat.reduceLT, undef, Nat.reduceLeDiff, Array.toList, wk4, wk5, wk0, fxC17r]
    exact hK _ r2 (f1.trans f2)
  · have q : withinS all most s = wordS all s := by rw [withinS, if_neg h]
    rw [q] at hK
    simp only [Nat.reduceAdd, reduceIte, Nat.reduceEqDiff, reduceCtorEq, opLen, Int.reduceLT, Int.reduceEq, opConvert, opIndexAddr, opLoad, Nat.reduceLT, undef, Nat.reduceLeDiff, Array.toList, wk4, wk5, wk0, fxC17r, e]
    exact hK _ r1 f1

theorem rlong_ret {m : Mem} {i r : Nat} {all : List Int} {s : Nat × Int} (hr : Rri m i r all s) (hl : all.length < 2 ^ 40) (hb : Bytes all) {K : Value → Mem → Prop} (hK : ∀ m', Rri m' i r all (longS all s).2 → Fr1 i m m' → K (.int .u32 (longS all s).1) m') : Ret Try.prog 31 [.pointer (some ⟨i, 0, none⟩)] m K := by
  refine ret_wp [] Try.func31 rfl (by decide) (by kernel_rfl) ?_
  simp only [Nat.reduceAdd, reduceIte, Nat.reduceEqDiff, reduceCtorEq, opLen, Int.reduceLT, Int.reduceEq, opConvert, opIndexAddr, opLoad, Nat.reduceLT, undef, Nat.reduceLeDiff, Array.toList, wk4, wk5, wk0, fxC17r]
  refine rword_ret hr hl hb fun m1 r1 f1 => ?_
  simp only [Nat.reduceAdd, reduceIte, Nat.reduceEqDiff, reduceCtorEq, opLen, Int.reduceLT, Int.reduceEq, opConvert, opIndexAddr, opLoad, Nat.reduceLT, undef, Nat.reduceLeDiff, Array.toList, wk4, wk5, wk0, fxC17r]
  refine rword_ret r1 hl hb fun m2 r2 f2 => ?_
  have q := or32 (wordS_val (s := s) hb) (wordS_val (s := (wordS all s).2) hb)
  simp only [Nat.reduceAdd, reduceIte, Nat.reduceEqDiff, reduceCtorEq, opLen, Int.reduceLT, Int.reduceEq, opConvert, opIndexAddr, opLoad, Nat.reduceLT, undef, Nat.reduceLeDiff, Array.toList, wk4, wk5, wk0, fxC17r, q]
  refine err_ret r2 ?_
  by_cases h : (wordS all (wordS all s).2).2.2 = 0
  · have e : longS all s = ((wordS all s).1 * 65536 + (wordS all (wordS all s).2).1, (wordS all (wordS all s).2).2) := by rw [longS]; simp only [h]; rfl
    rw [e] at hK
    simp only [Nat.reduceAdd, reduceIte, Nat.reduceEqDiff, reduceCtorEq, opLen, Int.reduceLT, Int.reduceEq, opConvert, opIndexAddr, opLoad, Nat.reduceLT, undef, Nat.reduceLeDiff, Array.toList, wk4, wk5, wk0, fxC17r, h]
    exact hK _ r2 (f1.trans f2)
  · have e : longS all s = (0, (wordS all (wordS all s).2).2) := by rw [longS]; exact if_pos h
    rw [e] at hK
    simp only [Nat.reduceAdd, reduceIte, Nat.reduceEqDiff, reduceCtorEq, opLen, Int.reduceLT, Int.reduceEq, opConvert, opIndexAddr, opLoad, Nat.reduceLT, undef, Nat.reduceLeDiff, Array.toList, wk4, wk5, wk0, fxC17r, h]
    exact hK _ r2 (f1.trans f2)

theorem rtext_ret {m : Mem} {i r : Nat} {all : List Int} {s : Nat × Int} {most : Int} (hr : Rri m i r all s) (hl : all.length < 2 ^ 40) (hb : Bytes all) {K : Value → Mem → Prop} (hK : ∀ m', Rri m' i r all (textS all most s).2 → Fr1 i m m' → K (.string (strOf (textS all most s).1)) m') : Ret Try.prog 58 [.pointer (some ⟨i, 0, none⟩), .int .i64 most] m K := by
  refine ret_wp [] Try.func58 rfl (by decide) (by kernel_rfl) ?_
  simp only [Nat.reduceAdd, reduceIte, Nat.reduceEqDiff, reduceCtorEq, opLen, Int.reduceLT, Int.reduceEq, opConvert, opIndexAddr, opLoad, Nat.reduceLT, undef, Nat.reduceLeDiff, Array.toList, wk4, wk5, wk0, fxC17r]
  refine within_ret hr hl hb fun m1 r1 f1 => ?_
  have hv := withinS_val (s := s) (most := most) hb
  obtain ⟨a, ha⟩ : ∃ a, a = withinS all most s := ⟨_, rfl⟩
  have et : textS all most s = (if (if left all.length a.2 < a.1.toNat + a.1.toNat % 2 then failS 3 a.2 else a.2).2 ≠ 0 then ([], if left all.length a.2 < a.1.toNat + a.1.toNat % 2 then failS 3 a.2 else a.2) else
    if a.1.toNat < a.1.toNat + a.1.toNat % 2 ∧ all.getD ((if left all.length a.2 < a.1.toNat + a.1.toNat % 2 then failS 3 a.2 else a.2).1 + (a.1.toNat + a.1.toNat % 2) - 1) 0 ≠ 0 then ([], ((if left all.length a.2 < a.1.toNat + a.1.toNat % 2 then failS 3 a.2 else a.2).1 + (a.1.toNat + a.1.toNat % 2), 4)) else ((all.drop (if left all.length a.2 < a.1.toNat + a.1.toNat % 2 then failS 3 a.2 else a.2).1).take a.1.toNat, ((if left all.length a.2 < a.1.toNat + a.1.toNat % 2 then failS 3 a.2 else a.2).1 + (a.1.toNat + a.1.toNat % 2), 0))) := by
    subst ha
    rfl
  rw [← ha] at hv r1 ⊢
  clear ha
  obtain ⟨n, hn⟩ : ∃ n : Nat, a.1 = n := ⟨a.1.toNat, by omega⟩
  obtain ⟨A, s1⟩ := a
  simp only at hn hv r1 et
  subst hn
  rw [Int.toNat_natCast] at et
  have emod : IntKind.i64.wrap ((n : Int) + Int.tmod n 2) = ((n + n % 2 : Nat) : Int) := by
    rw [Int.tmod_eq_emod_of_nonneg (by omega), wrap_i64 (by omega) (by omega)]
    omega
  obtain ⟨k, hk⟩ : ∃ k, k = n + n % 2 := ⟨_, rfl⟩
  have hk2 : k = n ∨ k = n + 1 := by omega
  rw [← hk] at emod et
  clear hk
  simp only [Nat.reduceAdd, reduceIte, Nat.reduceEqDiff, reduceCtorEq, opLen, Int.reduceLT, Int.reduceEq, opConvert, opIndexAddr, opLoad, Nat.reduceLT, undef, Nat.reduceLeDiff, Array.toList, wk4, wk5, wk0, fxC17r, emod]
  refine left_ret r1 hl ?_
  by_cases h : left all.length s1 < k
  · rw [if_pos h] at et
    have h' : ((left all.length s1 : Nat) : Int) < k := by omega
    simp only [Nat.reduceAdd, reduceIte, Nat.reduceEqDiff, reduceCtorEq, opLen, Int.reduceLT, Int.reduceEq, opConvert, opIndexAddr, opLoad, Nat.reduceLT, undef, Nat.reduceLeDiff, Array.toList, wk4, wk5, wk0, fxC17r, h']
    refine fail_ret r1 fun m2 r2 f2 => ?_
    have he : ¬ (failS 3 s1).2 = 0 := by
      unfold failS
      split
      · simp
      · assumption
    rw [if_pos he] at et
    rw [et] at hK
    simp only [Nat.reduceAdd, reduceIte, Nat.reduceEqDiff, reduceCtorEq, opLen, Int.reduceLT, Int.reduceEq, opConvert, opIndexAddr, opLoad, Nat.reduceLT, undef, Nat.reduceLeDiff, Array.toList, wk4, wk5, wk0, fxC17r]
    refine err_ret r2 ?_
    simp only [Nat.reduceAdd, reduceIte, Nat.reduceEqDiff, reduceCtorEq, opLen, Int.reduceLT, Int.reduceEq, opConvert, opIndexAddr, opLoad, Nat.reduceLT, undef, Nat.reduceLeDiff, Array.toList, wk4, wk5, wk0, fxC17r, he]
    exact hK _ r2 (f1.trans f2)
  · rw [if_neg h] at et
    have h' : ¬ ((left all.length s1 : Nat) : Int) < k := by omega
    simp only [Nat.reduceAdd, reduceIte, Nat.reduceEqDiff, reduceCtorEq, opLen, Int.reduceLT, Int.reduceEq, opConvert, opIndexAddr, opLoad, Nat.reduceLT, undef, Nat.reduceLeDiff, Array.toList, wk4, wk5, wk0, fxC17r, h']
    refine err_ret r1 ?_
    by_cases he : s1.2 = 0
    · rw [if_neg (by exact fun h => h he)] at et
      have hlk := left_ok (n := all.length) he
      have hs1 : s1.1 ≤ all.length := r1.2.2.2.1
      have g := r1.2.2.2.2.1
      have gr := r1.2.2.2.2.2
      have hri : ¬ r = i := r1.2.2.1
      have w1 : IntKind.i64.wrap ((s1.1 : Int) + k) = ((s1.1 + k : Nat) : Int) := by rw [wrap_i64 (by omega) (by omega)]; omega
      have w2 : IntKind.i64.wrap (((s1.1 + k : Nat) : Int) - k) = ((s1.1 : Nat) : Int) := by rw [wrap_i64 (by omega) (by omega)]; omega
      have w3 : IntKind.i64.wrap (((s1.1 : Nat) : Int) + n) = ((s1.1 + n : Nat) : Int) := by rw [wrap_i64 (by omega) (by omega)]; omega
      have rest : ∀ (m2 : Mem), m2.get r = some (.cells (byteCells all) 5 true) → ∃ w, opSlice Try.prog 24 (.slice (some ⟨r, 0, none⟩) all.length 1) (some (.int .i64 ((s1.1 : Nat) : Int))) (some (.int .i64 ((s1.1 + n : Nat) : Int))) = some w ∧ opConvert Try.prog 24 9 w m2 = some (.string (strOf ((all.drop s1.1).take n)), m2) := by
        intro m2 hg
        have sh := Shows.whole hg
        rw [byteCells_length] at sh
        obtain ⟨w, e1, e2, _⟩ := sh.cut (P := Try.prog) (t := 24) Try.underlying24 ts5 (lo := some (.int .i64 ((s1.1 : Nat) : Int))) (hi := some (.int .i64 ((s1.1 + n : Nat) : Int))) (l := s1.1) (k := s1.1 + n) (by simp [boundOf]) (by simp only [boundOf]; rw [if_pos (by omega)]; simp; omega) (by omega) (by rw [byteCells_length]; omega)
        have e3 : (((byteCells all).drop s1.1).take (s1.1 + n - s1.1)) = ((all.drop s1.1).take n).map (.int .u8) := by
          rw [Nat.add_sub_cancel_left, List.map_take, List.map_drop]; rfl
        rw [e3] at e2
        exact ⟨w, e1, conv_string (P := Try.prog) Try.underlying24 Try.underlying5 Try.underlying9 e2⟩
      obtain ⟨m2, hm2⟩ : ∃ m2, m2 = m1.set i (.cells [.slice (some ⟨r, 0, none⟩) all.length 1, .int .i64 ((s1.1 + k : Nat) : Int), .int .i64 0] 103 true) := ⟨_, rfl⟩
      have r2 : Rri m2 i r all (s1.1 + k, 0) := by rw [hm2]; exact r1.put (t := (s1.1 + k, 0)) (by simp only; omega)
      have f2 : Fr1 i m1 m2 := by rw [hm2]; exact Fr1.set _ _ _
      obtain ⟨w, c1, c2⟩ := rest m2 r2.2.2.2.2.2
      have g2 := r2.2.2.2.2.1
      have gr2 := r2.2.2.2.2.2
      simp only at g2
      by_cases hnk : n < k
      · have w4 : IntKind.i64.wrap (((s1.1 + k : Nat) : Int) - 1) = ((s1.1 + k - 1 : Nat) : Int) := by rw [wrap_i64 (by omega) (by omega)]; omega
        have x1 : opIndexAddr Try.prog 24 (.slice (some ⟨r, 0, none⟩) all.length 1) (.int .i64 ((s1.1 + k - 1 : Nat) : Int)) = _ := index_own (P := Try.prog) Try.underlying24 ts5 (by omega)
        have b1 := byteCells_at (all := all) (k := s1.1 + k - 1) (by omega)
        have hnk' : (n : Int) < k := by omega
        by_cases hz : all.getD (s1.1 + k - 1) 0 = 0
        · rw [if_neg (by exact fun h => h.2 hz)] at et
          rw [et] at hK
          simp only [Nat.reduceAdd, reduceIte, Nat.reduceEqDiff, reduceCtorEq, opLen, Int.reduceLT, Int.reduceEq, opLoad, Nat.reduceLT, undef, Nat.reduceLeDiff, Array.toList, wk4, wk5, wk0, fxC17r, he, g, w1, ← hm2, hnk', g2, gr2, w4, x1, b1, hz, w2, w3, c1, c2]
          exact hK _ r2 (f1.trans f2)
        · rw [if_pos ⟨hnk, hz⟩] at et
          rw [et] at hK
          simp only [Nat.reduceAdd, reduceIte, Nat.reduceEqDiff, reduceCtorEq, opLen, Int.reduceLT, Int.reduceEq, opLoad, Nat.reduceLT, undef, Nat.reduceLeDiff, Array.toList, wk4, wk5, wk0, fxC17r, he, g, w1, ← hm2, hnk', g2, gr2, w4, x1, b1, hz, w2, w3, c1, c2]
          refine fail_ret r2 fun m3 r3 f3 => ?_
          rw [fail_ok rfl] at r3
          simp only [Nat.reduceAdd, reduceIte, Nat.reduceEqDiff, reduceCtorEq, opLen, Int.reduceLT, Int.reduceEq, opConvert, opIndexAddr, opLoad, Nat.reduceLT, undef, Nat.reduceLeDiff, Array.toList, wk4, wk5, wk0, fxC17r]
          exact hK _ r3 ((f1.trans f2).trans f3)
      · have hnk' : ¬ (n : Int) < k := by omega
        rw [if_neg (by exact fun h => hnk h.1)] at et
        rw [et] at hK
        simp only [Nat.reduceAdd, reduceIte, Nat.reduceEqDiff, reduceCtorEq, opLen, Int.reduceLT, Int.reduceEq, opLoad, Nat.reduceLT, undef, Nat.reduceLeDiff, Array.toList, wk4, wk5, wk0, fxC17r, he, g, w1, ← hm2, hnk', g2, gr2, w2, w3, c1, c2]
        exact hK _ r2 (f1.trans f2)
    · rw [if_pos he] at et
      rw [et] at hK
      simp only [Nat.reduceAdd, reduceIte, Nat.reduceEqDiff, reduceCtorEq, opLen, Int.reduceLT, Int.reduceEq, opConvert, opIndexAddr, opLoad, Nat.reduceLT, undef, Nat.reduceLeDiff, Array.toList, wk4, wk5, wk0, fxC17r, he]
      exact hK _ r1 f1
end Go.Proofs.Ytejgoooanapjbaa
