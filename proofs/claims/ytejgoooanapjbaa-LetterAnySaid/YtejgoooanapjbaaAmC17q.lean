/- A text of the abstract machine. -/

/- What the functions of the document's answer for layer 1 come to. -/
import Derived.Test.YtejgoooanapjbaaAmC17w
import Derived.Test.YtejgoooanapjbaaAmBun
set_option linter.unusedSimpArgs false
set_option linter.unusedVariables false
set_option maxRecDepth 100000
set_option maxHeartbeats 4000000
namespace Go.Proofs.Ytejgoooanapjbaa
open Go Go.AM Go.AM.Crc Go.AM.Wire
theorem fxC17q : type_of% (And.intro (And.intro (And.intro (And.intro (And.intro (And.intro @Try.underlying3 @Try.underlying4) (And.intro @Try.underlying5 @Try.underlying9)) (And.intro (And.intro @Try.underlying23 @Try.underlying22) (And.intro @Try.underlying0 @Try.underlying100))) (And.intro (And.intro (And.intro @Try.underlying24 @Try.underlying66) (And.intro @Try.underlying68 @Try.underlying78)) (And.intro (And.intro @Try.underlying103 @Try.underlying47) (And.intro @ts3 (And.intro @ts4 @ts5))))) (And.intro (And.intro (And.intro (And.intro @ts9 @ts23) (And.intro @ts22 @ts0)) (And.intro (And.intro @ts100 @ts24) (And.intro @ts66 (And.intro @ts68 @ts78)))) (And.intro (And.intro (And.intro @ts103 @ts47) (And.intro @tz3 @tz4)) (And.intro (And.intro @tz5 @tz9) (And.intro @tz23 (And.intro @tz22 @tz0)))))) (And.intro (And.intro (And.intro (And.intro (And.intro @tz100 @tz24) (And.intro @tz66 @tz68)) (And.intro (And.intro @tz78 @tz103) (And.intro @tz47 @tb3))) (And.intro (And.intro (And.intro @tb4 @tb5) (And.intro @tb9 @tb23)) (And.intro (And.intro @tb22 @tb0) (And.intro @tb100 (And.intro @tb24 @tb66))))) (And.intro (And.intro (And.intro (And.intro @tb68 @tb78) (And.intro @tb103 @tb47)) (And.intro (And.intro @fr44 @fr46) (And.intro @fr50 (And.intro @bz103 @al68)))) (And.intro (And.intro (And.intro @al103 @fa68_0) (And.intro @fa103_0 @fa103_1)) (And.intro (And.intro @fa103_2 @bin_weq) (And.intro @bin_wneq (And.intro @bin_req @bin_rneq))))))) := (And.intro (And.intro (And.intro (And.intro (And.intro (And.intro @Try.underlying3 @Try.underlying4) (And.intro @Try.underlying5 @Try.underlying9)) (And.intro (And.intro @Try.underlying23 @Try.underlying22) (And.intro @Try.underlying0 @Try.underlying100))) (And.intro (And.intro (And.intro @Try.underlying24 @Try.underlying66) (And.intro @Try.underlying68 @Try.underlying78)) (And.intro (And.intro @Try.underlying103 @Try.underlying47) (And.intro @ts3 (And.intro @ts4 @ts5))))) (And.intro (And.intro (And.intro (And.intro @ts9 @ts23) (And.intro @ts22 @ts0)) (And.intro (And.intro @ts100 @ts24) (And.intro @ts66 (And.intro @ts68 @ts78)))) (And.intro (And.intro (And.intro @ts103 @ts47) (And.intro @tz3 @tz4)) (And.intro (And.intro @tz5 @tz9) (And.intro @tz23 (And.intro @tz22 @tz0)))))) (And.intro (And.intro (And.intro (And.intro (And.intro @tz100 @tz24) (And.intro @tz66 @tz68)) (And.intro (And.intro @tz78 @tz103) (And.intro @tz47 @tb3))) (And.intro (And.intro (And.intro @tb4 @tb5) (And.intro @tb9 @tb23)) (And.intro (And.intro @tb22 @tb0) (And.intro @tb100 (And.intro @tb24 @tb66))))) (And.intro (And.intro (And.intro (And.intro @tb68 @tb78) (And.intro @tb103 @tb47)) (And.intro (And.intro @fr44 @fr46) (And.intro @fr50 (And.intro @bz103 @al68)))) (And.intro (And.intro (And.intro @al103 @fa68_0) (And.intro @fa103_0 @fa103_1)) (And.intro (And.intro @fa103_2 @bin_weq) (And.intro @bin_wneq (And.intro @bin_req @bin_rneq)))))))
abbrev Byr (m : Mem) (r : Nat) (bs : List Int) : Prop := Brow 5 m r bs

theorem refword_ret {m : Mem} {n : Int} (h0 : 0 ≤ n) (h1 : n < 65536) {K : Value → Mem → Prop} (hK : ∀ m' r, Ext m m' → m.next ≤ r → Byr m' r (wordB n) → K (rowV r (wordB n)) m') : Ret Try.prog 44 [.int .i64 n] m K := by
  refine ret_wp [] Try.func44 rfl (by decide) (by kernel_rfl) ?_
  simp only [Nat.reduceAdd, reduceIte, Nat.reduceEqDiff, reduceCtorEq, opLen, Int.reduceLT, Int.reduceEq, opConvert, opIndexAddr, opLoad, Nat.reduceLT, undef, Nat.reduceLeDiff, Array.toList, wk4, wk5, wk0, fxC17q, ref_hi h0 h1, ref_lo h0, two_row]
  exact hK _ m.next (Ext.new _ _) (Nat.le_refl _) (Brow.made m (wordB n))

theorem reflong_ret {m : Mem} {n : Int} (h0 : 0 ≤ n) (h1 : n < 4294967296) {K : Value → Mem → Prop} (hK : ∀ m' r, Ext m m' → m.next ≤ r → Byr m' r (longB n) → K (rowV r (longB n)) m') : Ret Try.prog 46 [.int .u32 n] m K := by
  refine ret_wp [] Try.func46 rfl (by decide) (by kernel_rfl) ?_
  have e1 : IntKind.i64.wrap (IntKind.u32.wrap (n.tdiv 65536)) = n / 65536 := by
    rw [Int.tdiv_eq_ediv_of_nonneg h0, wrap_u32 (by omega) (by omega), wrap_i64 (by omega) (by omega)]
  have e2 : IntKind.i64.wrap (n.tmod 65536) = n % 65536 := by
    rw [Int.tmod_eq_emod_of_nonneg h0, wrap_i64 (by omega) (by omega)]
  simp only [Nat.reduceAdd, reduceIte, Nat.reduceEqDiff, reduceCtorEq, opLen, Int.reduceLT, Int.reduceEq, opConvert, opIndexAddr, opLoad, Nat.reduceLT, undef, Nat.reduceLeDiff, Array.toList, wk4, wk5, wk0, fxC17q, e1]
  refine refword_ret (by omega) (by omega) fun m1 r1 x1 n1 b1 => ?_
  simp only [Nat.reduceAdd, reduceIte, Nat.reduceEqDiff, reduceCtorEq, opLen, Int.reduceLT, Int.reduceEq, opConvert, opIndexAddr, opLoad, Nat.reduceLT, undef, Nat.reduceLeDiff, Array.toList, wk4, wk5, wk0, fxC17q, e2]
  refine refword_ret (by omega) (by omega) fun m2 r2 x2 n2 b2 => ?_
  obtain ⟨m3, r3, e3, b3, n3, l3, f3⟩ := (b1.ext x2).push (P := Try.prog) (T := 24) (new := wordB (n % 65536)) wt (added_bytes wt b2.shows) (by simp only [wordB_length]; omega)
  simp only [Nat.reduceAdd, reduceIte, Nat.reduceEqDiff, reduceCtorEq, opLen, Int.reduceLT, Int.reduceEq, opConvert, opIndexAddr, opLoad, Nat.reduceLT, undef, Nat.reduceLeDiff, Array.toList, wk4, wk5, wk0, fxC17q, e3]
  have hx := x1.1
  have hx2 := x2.1
  exact hK _ r3 ⟨by omega, fun j hj => by rw [f3 j (by omega) (by omega), x2.2 j (by omega), x1.2 j hj]⟩ (by omega) b3

theorem reftext_ret {m : Mem} {s : List Int} (hs : Bytes s) (hl : s.length < 65536) {K : Value → Mem → Prop} (hK : ∀ m' r, Ext m m' → m.next ≤ r → Byr m' r (textB s) → K (rowV r (textB s)) m') : Ret Try.prog 50 [.string (strOf s)] m K := by
  refine ret_wp [] Try.func50 rfl (by decide) (by kernel_rfl) ?_
  have wl : (strOf s).size = s.length := strOf_size s
  simp only [Nat.reduceAdd, reduceIte, Nat.reduceEqDiff, reduceCtorEq, opLen, Int.reduceLT, Int.reduceEq, opConvert, opIndexAddr, opLoad, Nat.reduceLT, undef, Nat.reduceLeDiff, Array.toList, wk4, wk5, wk0, fxC17q, wl]
  refine refword_ret (by omega) (by omega) fun m1 r1 x1 n1 b1 => ?_
  obtain ⟨m2, r2, e2, b2, n2, l2, f2⟩ := b1.push (P := Try.prog) (T := 24) (tx := 9) (x := .string (strOf s)) (new := s) wt (by have h := added_string (P := Try.prog) (m := m1) (z := .int .u8 0) (y := strOf s) Try.underlying9; rw [cellsOf_strOf hs, byteCells_length] at h; exact h) (by rw [wordB_length]; omega)
  have hmod : Int.tmod (s.length : Int) 2 = ((s.length % 2 : Nat) : Int) := by
    rw [Int.tmod_eq_emod_of_nonneg (by omega)]
    simp
  have hx := x1.1
  have x2 : Ext m m2 := ⟨by omega, fun j hj => by rw [f2 j (by omega) (by omega), x1.2 j hj]⟩
  simp only [Nat.reduceAdd, reduceIte, Nat.reduceEqDiff, reduceCtorEq, opLen, Int.reduceLT, Int.reduceEq, opConvert, opIndexAddr, opLoad, Nat.reduceLT, undef, Nat.reduceLeDiff, Array.toList, wk4, wk5, wk0, fxC17q, e2, wl, hmod]
  refine cond_by (fun h1 => ?_) (fun h1 => ?_)
  · obtain ⟨m3, r3, e3, b3, n3, l3, f3⟩ := (b2.ext (Ext.new m2 (.cells (byteCells [0]) 5 true))).push (P := Try.prog) (T := 24) (tx := 24) (x := .slice (some ⟨m2.next, 0, none⟩) 1 1) (new := [0]) wt (added_bytes wt (Shows.whole (new_get _ _))) (by simp only [List.length_append, wordB_length, List.length_cons, List.length_nil]; omega)
    simp only [new_next] at n3 l3 f3
    simp only [Nat.reduceAdd, reduceIte, Nat.reduceEqDiff, reduceCtorEq, opLen, Int.reduceLT, Int.reduceEq, opConvert, opIndexAddr, opLoad, Nat.reduceLT, undef, Nat.reduceLeDiff, Array.toList, wk4, wk5, wk0, fxC17q, one_row, e3]
    have et : wordB s.length ++ s ++ [0] = textB s := by rw [textB, if_pos (by omega)]
    rw [et] at b3 ⊢
    exact hK _ r3 ⟨by omega, fun j hj => by rw [f3 j (by omega) (by omega), new_get_ne _ (by omega), x2.2 j hj]⟩ (by omega) b3
  · simp only [Nat.reduceAdd, reduceIte, Nat.reduceEqDiff, reduceCtorEq, opLen, Int.reduceLT, Int.reduceEq, opConvert, opIndexAddr, opLoad, Nat.reduceLT, undef, Nat.reduceLeDiff, Array.toList, wk4, wk5, wk0, fxC17q]
    have et : wordB s.length ++ s = textB s := by rw [textB, if_neg (by omega), List.append_nil]
    rw [et] at b2 ⊢
    exact hK _ r2 x2 (by omega) b2
end Go.Proofs.Ytejgoooanapjbaa
