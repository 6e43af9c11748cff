/- Floats: the functions of the package and of Go's library. -/
import Derived.Test.YtfhmfialnnhidaaAmF03
import Derived.Test.YtfhmfialnnhidaaAmFltw
import Derived.Test.YtfhmfialnnhidaaAmBun
set_option linter.unusedSimpArgs false
set_option linter.unusedVariables false
set_option maxRecDepth 100000
set_option maxHeartbeats 4000000
namespace Go.Proofs.Ytfhmfialnnhidaa
open Go Go.AM Go.AM.Flt
theorem fxC03 : type_of% (And.intro (And.intro (And.intro (And.intro (And.intro @Try.underlying2 (And.intro @Try.underlying3 @Try.underlying4)) (And.intro (And.intro @Try.underlying5 @Try.underlying9) (And.intro @Try.underlying22 @Try.underlying24))) (And.intro (And.intro @Try.underlying27 (And.intro @Try.underlying28 @ts2)) (And.intro (And.intro @ts3 @ts4) (And.intro @ts5 @ts9)))) (And.intro (And.intro (And.intro @ts22 (And.intro @ts24 @ts27)) (And.intro (And.intro @ts28 @tz2) (And.intro @tz3 @tz4))) (And.intro (And.intro (And.intro @tz5 @tz9) (And.intro @tz22 @tz24)) (And.intro (And.intro @tz27 @tz28) (And.intro @tb2 @tb3))))) (And.intro (And.intro (And.intro (And.intro @tb4 (And.intro @tb5 @tb9)) (And.intro (And.intro @tb22 @tb24) (And.intro @tb27 @tb28))) (And.intro (And.intro @fr3 (And.intro @fr4 @fr5)) (And.intro (And.intro @fr6 @fr7) (And.intro @fr8 @fr9)))) (And.intro (And.intro (And.intro @fr10 (And.intro @fr11 @fr13)) (And.intro (And.intro @fr14 @fr15) (And.intro @fr16 @fr17))) (And.intro (And.intro (And.intro @fr18 @fr19) (And.intro @fr20 @fr21)) (And.intro (And.intro @fr23 @fr24) (And.intro @fr25 @fr26)))))) := (And.intro (And.intro (And.intro (And.intro (And.intro @Try.underlying2 (And.intro @Try.underlying3 @Try.underlying4)) (And.intro (And.intro @Try.underlying5 @Try.underlying9) (And.intro @Try.underlying22 @Try.underlying24))) (And.intro (And.intro @Try.underlying27 (And.intro @Try.underlying28 @ts2)) (And.intro (And.intro @ts3 @ts4) (And.intro @ts5 @ts9)))) (And.intro (And.intro (And.intro @ts22 (And.intro @ts24 @ts27)) (And.intro (And.intro @ts28 @tz2) (And.intro @tz3 @tz4))) (And.intro (And.intro (And.intro @tz5 @tz9) (And.intro @tz22 @tz24)) (And.intro (And.intro @tz27 @tz28) (And.intro @tb2 @tb3))))) (And.intro (And.intro (And.intro (And.intro @tb4 (And.intro @tb5 @tb9)) (And.intro (And.intro @tb22 @tb24) (And.intro @tb27 @tb28))) (And.intro (And.intro @fr3 (And.intro @fr4 @fr5)) (And.intro (And.intro @fr6 @fr7) (And.intro @fr8 @fr9)))) (And.intro (And.intro (And.intro @fr10 (And.intro @fr11 @fr13)) (And.intro (And.intro @fr14 @fr15) (And.intro @fr16 @fr17))) (And.intro (And.intro (And.intro @fr18 @fr19) (And.intro @fr20 @fr21)) (And.intro (And.intro @fr23 @fr24) (And.intro @fr25 @fr26))))))
theorem bits12_ret {m : Mem} {x : Nat} (h : x ≠ lax) {K : Value → Mem → Prop} (hK : K (.int .u64 x) m) : Ret Try.prog 12 [.float .f64 x] m K := by
  refine ret_ext Try.func12 rfl (by decide) (v := .int .u64 x) ?_ hK
  have h1 : Try.f12.name = "math.Float64bits" ∧ (Try.f12.origin = "math.Float64bits" ∨ Try.f12.origin = "") := by decide
  unfold extF
  rw [if_pos h1]
  exact if_neg h
theorem from22_ret {m : Mem} {n : Int} {K : Value → Mem → Prop} (hK : K (.float .f64 n.toNat) m) : Ret Try.prog 22 [.int .u64 n] m K := by
  refine ret_ext Try.func22 rfl (by decide) (v := .float .f64 n.toNat) ?_ hK
  have h1 : ¬ (Try.f22.name = "math.Float64bits" ∧ (Try.f22.origin = "math.Float64bits" ∨ Try.f22.origin = "")) := by decide
  have h2 : Try.f22.name = "math.Float64frombits" ∧ (Try.f22.origin = "math.Float64frombits" ∨ Try.f22.origin = "") := by decide
  unfold extF
  rw [if_neg h1, if_pos h2]
theorem tell_nan {x : Nat} (h : nanX x = true) : tell x = 9221120237041090560 := by unfold tell; rw [if_pos h]; rfl
theorem tell_num {x : Nat} (h : nanX x = false) : tell x = x := by unfold tell; rw [if_neg (by rw [h]; decide)]
theorem bits_ret {m : Mem} {x : Nat} {K : Value → Mem → Prop} (hK : K (.int .u64 (tell x)) m) : Ret Try.prog 21 [.float .f64 x] m K := by
  refine ret_wp [] Try.func21 rfl (by decide) (by kernel_rfl) ?_
  cases h : nanX x with
  | true =>
    rw [tell_nan h] at hK
    simp only [Nat.reduceAdd, reduceIte, Nat.reduceEqDiff, reduceCtorEq, opLen, Int.reduceLT, Int.reduceEq, opConvert, opIndexAddr, opLoad, Nat.reduceLT, undef, Nat.reduceLeDiff, Array.toList, bin_fadd, bin_fsub, bin_fmul, bin_fquo, bin_feql, bin_fneq, bin_flss, bin_fleq, bin_fgtr, bin_fgeq, un_fneg, neqf_self, eqf_self, wk4, wk5, wk0, fxC03, h]
    exact hK
  | false =>
    rw [tell_num h] at hK
    simp only [Nat.reduceAdd, reduceIte, Nat.reduceEqDiff, reduceCtorEq, opLen, Int.reduceLT, Int.reduceEq, opConvert, opIndexAddr, opLoad, Nat.reduceLT, undef, Nat.reduceLeDiff, Array.toList, bin_fadd, bin_fsub, bin_fmul, bin_fquo, bin_feql, bin_fneq, bin_flss, bin_fleq, bin_fgtr, bin_fgeq, un_fneg, neqf_self, eqf_self, wk4, wk5, wk0, fxC03, h]
    refine bits12_ret (by rintro rfl; rw [lax_nan] at h; cases h) ?_
    simp only [Nat.reduceAdd, reduceIte, Nat.reduceEqDiff, reduceCtorEq, opLen, Int.reduceLT, Int.reduceEq, opConvert, opIndexAddr, opLoad, Nat.reduceLT, undef, Nat.reduceLeDiff, Array.toList, bin_fadd, bin_fsub, bin_fmul, bin_fquo, bin_feql, bin_fneq, bin_flss, bin_fleq, bin_fgtr, bin_fgeq, un_fneg, neqf_self, eqf_self, wk4, wk5, wk0, fxC03]
    exact hK
theorem refbits_ret {m : Mem} {x : Nat} {K : Value → Mem → Prop} (hK : K (.int .u64 (tell x)) m) : Ret Try.prog 13 [.float .f64 x] m K := by
  refine ret_wp [] Try.func13 rfl (by decide) (by kernel_rfl) ?_
  cases h : nanX x with
  | true =>
    rw [tell_nan h] at hK
    simp only [Nat.reduceAdd, reduceIte, Nat.reduceEqDiff, reduceCtorEq, opLen, Int.reduceLT, Int.reduceEq, opConvert, opIndexAddr, opLoad, Nat.reduceLT, undef, Nat.reduceLeDiff, Array.toList, bin_fadd, bin_fsub, bin_fmul, bin_fquo, bin_feql, bin_fneq, bin_flss, bin_fleq, bin_fgtr, bin_fgeq, un_fneg, neqf_self, eqf_self, wk4, wk5, wk0, fxC03, h]
    exact hK
  | false =>
    rw [tell_num h] at hK
    simp only [Nat.reduceAdd, reduceIte, Nat.reduceEqDiff, reduceCtorEq, opLen, Int.reduceLT, Int.reduceEq, opConvert, opIndexAddr, opLoad, Nat.reduceLT, undef, Nat.reduceLeDiff, Array.toList, bin_fadd, bin_fsub, bin_fmul, bin_fquo, bin_feql, bin_fneq, bin_flss, bin_fleq, bin_fgtr, bin_fgeq, un_fneg, neqf_self, eqf_self, wk4, wk5, wk0, fxC03, h]
    refine bits12_ret (by rintro rfl; rw [lax_nan] at h; cases h) ?_
    simp only [Nat.reduceAdd, reduceIte, Nat.reduceEqDiff, reduceCtorEq, opLen, Int.reduceLT, Int.reduceEq, opConvert, opIndexAddr, opLoad, Nat.reduceLT, undef, Nat.reduceLeDiff, Array.toList, bin_fadd, bin_fsub, bin_fmul, bin_fquo, bin_feql, bin_fneq, bin_flss, bin_fleq, bin_fgtr, bin_fgeq, un_fneg, neqf_self, eqf_self, wk4, wk5, wk0, fxC03]
    exact hK
theorem one_ret {m : Mem} {x : Nat} {K : Value → Mem → Prop} (hK : K (.float .f64 (tell x)) m) : Ret Try.prog 25 [.float .f64 x] m K := by
  refine ret_wp [] Try.func25 rfl (by decide) (by kernel_rfl) ?_
  simp only [Nat.reduceAdd, reduceIte, Nat.reduceEqDiff, reduceCtorEq, opLen, Int.reduceLT, Int.reduceEq, opConvert, opIndexAddr, opLoad, Nat.reduceLT, undef, Nat.reduceLeDiff, Array.toList, bin_fadd, bin_fsub, bin_fmul, bin_fquo, bin_feql, bin_fneq, bin_flss, bin_fleq, bin_fgtr, bin_fgeq, un_fneg, neqf_self, eqf_self, wk4, wk5, wk0, fxC03]
  refine bits_ret ?_
  simp only [Nat.reduceAdd, reduceIte, Nat.reduceEqDiff, reduceCtorEq, opLen, Int.reduceLT, Int.reduceEq, opConvert, opIndexAddr, opLoad, Nat.reduceLT, undef, Nat.reduceLeDiff, Array.toList, bin_fadd, bin_fsub, bin_fmul, bin_fquo, bin_feql, bin_fneq, bin_flss, bin_fleq, bin_fgtr, bin_fgeq, un_fneg, neqf_self, eqf_self, wk4, wk5, wk0, fxC03]
  refine from22_ret ?_
  rw [Int.toNat_natCast]
  simp only [Nat.reduceAdd, reduceIte, Nat.reduceEqDiff, reduceCtorEq, opLen, Int.reduceLT, Int.reduceEq, opConvert, opIndexAddr, opLoad, Nat.reduceLT, undef, Nat.reduceLeDiff, Array.toList, bin_fadd, bin_fsub, bin_fmul, bin_fquo, bin_feql, bin_fneq, bin_flss, bin_fleq, bin_fgtr, bin_fgeq, un_fneg, neqf_self, eqf_self, wk4, wk5, wk0, fxC03]
  exact hK
def addX (x y : Nat) : Nat := tell ((F.add x y).getD lax)
def mulX (x y : Nat) : Nat := tell ((F.mul x y).getD lax)
def divX (x y : Nat) : Nat := tell ((F.div x y).getD lax)
theorem add_ret {m : Mem} {x y : Nat} {K : Value → Mem → Prop} (hK : K (.float .f64 (addX x y)) m) : Ret Try.prog 9 [.float .f64 x, .float .f64 y] m K := by
  refine ret_wp [] Try.func9 rfl (by decide) (by kernel_rfl) ?_
  simp only [Nat.reduceAdd, reduceIte, Nat.reduceEqDiff, reduceCtorEq, opLen, Int.reduceLT, Int.reduceEq, opConvert, opIndexAddr, opLoad, Nat.reduceLT, undef, Nat.reduceLeDiff, Array.toList, bin_fadd, bin_fsub, bin_fmul, bin_fquo, bin_feql, bin_fneq, bin_flss, bin_fleq, bin_fgtr, bin_fgeq, un_fneg, neqf_self, eqf_self, wk4, wk5, wk0, fxC03]
  refine one_ret ?_
  simp only [Nat.reduceAdd, reduceIte, Nat.reduceEqDiff, reduceCtorEq, opLen, Int.reduceLT, Int.reduceEq, opConvert, opIndexAddr, opLoad, Nat.reduceLT, undef, Nat.reduceLeDiff, Array.toList, bin_fadd, bin_fsub, bin_fmul, bin_fquo, bin_feql, bin_fneq, bin_flss, bin_fleq, bin_fgtr, bin_fgeq, un_fneg, neqf_self, eqf_self, wk4, wk5, wk0, fxC03]
  exact hK
theorem mul_ret {m : Mem} {x y : Nat} {K : Value → Mem → Prop} (hK : K (.float .f64 (mulX x y)) m) : Ret Try.prog 10 [.float .f64 x, .float .f64 y] m K := by
  refine ret_wp [] Try.func10 rfl (by decide) (by kernel_rfl) ?_
  simp only [Nat.reduceAdd, reduceIte, Nat.reduceEqDiff, reduceCtorEq, opLen, Int.reduceLT, Int.reduceEq, opConvert, opIndexAddr, opLoad, Nat.reduceLT, undef, Nat.reduceLeDiff, Array.toList, bin_fadd, bin_fsub, bin_fmul, bin_fquo, bin_feql, bin_fneq, bin_flss, bin_fleq, bin_fgtr, bin_fgeq, un_fneg, neqf_self, eqf_self, wk4, wk5, wk0, fxC03]
  refine one_ret ?_
  simp only [Nat.reduceAdd, reduceIte, Nat.reduceEqDiff, reduceCtorEq, opLen, Int.reduceLT, Int.reduceEq, opConvert, opIndexAddr, opLoad, Nat.reduceLT, undef, Nat.reduceLeDiff, Array.toList, bin_fadd, bin_fsub, bin_fmul, bin_fquo, bin_feql, bin_fneq, bin_flss, bin_fleq, bin_fgtr, bin_fgeq, un_fneg, neqf_self, eqf_self, wk4, wk5, wk0, fxC03]
  exact hK
theorem div_ret {m : Mem} {x y : Nat} {K : Value → Mem → Prop} (hK : K (.float .f64 (divX x y)) m) : Ret Try.prog 11 [.float .f64 x, .float .f64 y] m K := by
  refine ret_wp [] Try.func11 rfl (by decide) (by kernel_rfl) ?_
  simp only [Nat.reduceAdd, reduceIte, Nat.reduceEqDiff, reduceCtorEq, opLen, Int.reduceLT, Int.reduceEq, opConvert, opIndexAddr, opLoad, Nat.reduceLT, undef, Nat.reduceLeDiff, Array.toList, bin_fadd, bin_fsub, bin_fmul, bin_fquo, bin_feql, bin_fneq, bin_flss, bin_fleq, bin_fgtr, bin_fgeq, un_fneg, neqf_self, eqf_self, wk4, wk5, wk0, fxC03]
  refine one_ret ?_
  simp only [Nat.reduceAdd, reduceIte, Nat.reduceEqDiff, reduceCtorEq, opLen, Int.reduceLT, Int.reduceEq, opConvert, opIndexAddr, opLoad, Nat.reduceLT, undef, Nat.reduceLeDiff, Array.toList, bin_fadd, bin_fsub, bin_fmul, bin_fquo, bin_feql, bin_fneq, bin_flss, bin_fleq, bin_fgtr, bin_fgeq, un_fneg, neqf_self, eqf_self, wk4, wk5, wk0, fxC03]
  exact hK
theorem same_ret {m : Mem} {x y : Nat} {K : Value → Mem → Prop} (hK : K (.bool (decide (tell x = tell y))) m) : Ret Try.prog 14 [.float .f64 x, .float .f64 y] m K := by
  refine ret_wp [] Try.func14 rfl (by decide) (by kernel_rfl) ?_
  simp only [Nat.reduceAdd, reduceIte, Nat.reduceEqDiff, reduceCtorEq, opLen, Int.reduceLT, Int.reduceEq, opConvert, opIndexAddr, opLoad, Nat.reduceLT, undef, Nat.reduceLeDiff, Array.toList, bin_fadd, bin_fsub, bin_fmul, bin_fquo, bin_feql, bin_fneq, bin_flss, bin_fleq, bin_fgtr, bin_fgeq, un_fneg, neqf_self, eqf_self, wk4, wk5, wk0, fxC03]
  refine bits_ret ?_
  simp only [Nat.reduceAdd, reduceIte, Nat.reduceEqDiff, reduceCtorEq, opLen, Int.reduceLT, Int.reduceEq, opConvert, opIndexAddr, opLoad, Nat.reduceLT, undef, Nat.reduceLeDiff, Array.toList, bin_fadd, bin_fsub, bin_fmul, bin_fquo, bin_feql, bin_fneq, bin_flss, bin_fleq, bin_fgtr, bin_fgeq, un_fneg, neqf_self, eqf_self, wk4, wk5, wk0, fxC03]
  refine bits_ret ?_
  simp only [Nat.reduceAdd, reduceIte, Nat.reduceEqDiff, reduceCtorEq, opLen, Int.reduceLT, Int.reduceEq, opConvert, opIndexAddr, opLoad, Nat.reduceLT, undef, Nat.reduceLeDiff, Array.toList, bin_fadd, bin_fsub, bin_fmul, bin_fquo, bin_feql, bin_fneq, bin_flss, bin_fleq, bin_fgtr, bin_fgeq, un_fneg, neqf_self, eqf_self, wk4, wk5, wk0, fxC03]
  have e : decide ((tell x : Int) = (tell y : Int)) = decide (tell x = tell y) := decide_eq_decide.2 (by omega)
  try rw [e]
  exact hK
theorem beq_dec (o p : Option Ordering) : (o == p) = decide (o = p) := by
  by_cases h : o = p
  · subst h; simp
  · rw [decide_eq_false h]; simp [h]
theorem whole_ret {m : Mem} {x : Nat} {K : Value → Mem → Prop} (hK : K (.int .i64 (wholeX x)) m) : Ret Try.prog 16 [.float .f64 x] m K := by
  refine ret_wp [] Try.func16 rfl (by decide) (by kernel_rfl) ?_
  unfold wholeX at hK
  cases hn : nanX x with
  | true =>
    rw [if_pos hn] at hK
    simp only [Nat.reduceAdd, reduceIte, Nat.reduceEqDiff, reduceCtorEq, opLen, Int.reduceLT, Int.reduceEq, opConvert, opIndexAddr, opLoad, Nat.reduceLT, undef, Nat.reduceLeDiff, Array.toList, bin_fadd, bin_fsub, bin_fmul, bin_fquo, bin_feql, bin_fneq, bin_flss, bin_fleq, bin_fgtr, bin_fgeq, un_fneg, neqf_self, eqf_self, wk4, wk5, wk0, fxC03, hn]
    exact hK
  | false =>
    rw [if_neg (by rw [hn]; decide)] at hK
    have c1 : (F.order x 4746794007248502784 == some .gt || F.order x 4746794007248502784 == some .eq) = decide (F.order x FAR = some .gt ∨ F.order x FAR = some .eq) := by
      rw [beq_dec, beq_dec, Bool.decide_or]; rfl
    have c2 : (F.order x 13970166044103278592 == some .lt || F.order x 13970166044103278592 == some .eq) = decide (F.order x NFAR = some .lt ∨ F.order x NFAR = some .eq) := by
      rw [beq_dec, beq_dec, Bool.decide_or]; rfl
    by_cases h1 : F.order x FAR = some .gt ∨ F.order x FAR = some .eq
    · rw [if_pos h1] at hK
      rw [decide_eq_true h1] at c1
      simp only [Nat.reduceAdd, reduceIte, Nat.reduceEqDiff, reduceCtorEq, opLen, Int.reduceLT, Int.reduceEq, opConvert, opIndexAddr, opLoad, Nat.reduceLT, undef, Nat.reduceLeDiff, Array.toList, bin_fadd, bin_fsub, bin_fmul, bin_fquo, bin_feql, bin_fneq, bin_flss, bin_fleq, bin_fgtr, bin_fgeq, un_fneg, neqf_self, eqf_self, wk4, wk5, wk0, fxC03, hn, c1]
      exact hK
    · rw [if_neg h1] at hK
      rw [decide_eq_false h1] at c1
      by_cases h2 : F.order x NFAR = some .lt ∨ F.order x NFAR = some .eq
      · rw [if_pos h2] at hK
        rw [decide_eq_true h2] at c2
        simp only [Nat.reduceAdd, reduceIte, Nat.reduceEqDiff, reduceCtorEq, opLen, Int.reduceLT, Int.reduceEq, opConvert, opIndexAddr, opLoad, Nat.reduceLT, undef, Nat.reduceLeDiff, Array.toList, bin_fadd, bin_fsub, bin_fmul, bin_fquo, bin_feql, bin_fneq, bin_flss, bin_fleq, bin_fgtr, bin_fgeq, un_fneg, neqf_self, eqf_self, wk4, wk5, wk0, fxC03, hn, c1, c2]
        exact hK
      · rw [if_neg h2] at hK
        rw [decide_eq_false h2] at c2
        obtain ⟨mm, e, _, hf, _⟩ := floatInt_some hn h1 h2
        rw [hf] at hK
        simp only [Nat.reduceAdd, reduceIte, Nat.reduceEqDiff, reduceCtorEq, opLen, Int.reduceLT, Int.reduceEq, opConvert, opIndexAddr, opLoad, Nat.reduceLT, undef, Nat.reduceLeDiff, Array.toList, bin_fadd, bin_fsub, bin_fmul, bin_fquo, bin_feql, bin_fneq, bin_flss, bin_fleq, bin_fgtr, bin_fgeq, un_fneg, neqf_self, eqf_self, wk4, wk5, wk0, fxC03, hn, c1, c2, hf]
        exact hK
theorem refwhole_ret {m : Mem} {x : Nat} {K : Value → Mem → Prop} (hK : K (.int .i64 (wholeX x)) m) : Ret Try.prog 23 [.float .f64 x] m K := by
  refine ret_wp [] Try.func23 rfl (by decide) (by kernel_rfl) ?_
  unfold wholeX at hK
  cases hn : nanX x with
  | true =>
    rw [if_pos hn] at hK
    simp only [Nat.reduceAdd, reduceIte, Nat.reduceEqDiff, reduceCtorEq, opLen, Int.reduceLT, Int.reduceEq, opConvert, opIndexAddr, opLoad, Nat.reduceLT, undef, Nat.reduceLeDiff, Array.toList, bin_fadd, bin_fsub, bin_fmul, bin_fquo, bin_feql, bin_fneq, bin_flss, bin_fleq, bin_fgtr, bin_fgeq, un_fneg, neqf_self, eqf_self, wk4, wk5, wk0, fxC03, hn]
    exact hK
  | false =>
    rw [if_neg (by rw [hn]; decide)] at hK
    have c1 : (F.order x 4746794007248502784 == some .gt || F.order x 4746794007248502784 == some .eq) = decide (F.order x FAR = some .gt ∨ F.order x FAR = some .eq) := by
      rw [beq_dec, beq_dec, Bool.decide_or]; rfl
    have c2 : (F.order x 13970166044103278592 == some .lt || F.order x 13970166044103278592 == some .eq) = decide (F.order x NFAR = some .lt ∨ F.order x NFAR = some .eq) := by
      rw [beq_dec, beq_dec, Bool.decide_or]; rfl
    by_cases h1 : F.order x FAR = some .gt ∨ F.order x FAR = some .eq
    · rw [if_pos h1] at hK
      rw [decide_eq_true h1] at c1
      simp only [Nat.reduceAdd, reduceIte, Nat.reduceEqDiff, reduceCtorEq, opLen, Int.reduceLT, Int.reduceEq, opConvert, opIndexAddr, opLoad, Nat.reduceLT, undef, Nat.reduceLeDiff, Array.toList, bin_fadd, bin_fsub, bin_fmul, bin_fquo, bin_feql, bin_fneq, bin_flss, bin_fleq, bin_fgtr, bin_fgeq, un_fneg, neqf_self, eqf_self, wk4, wk5, wk0, fxC03, hn, c1]
      exact hK
    · rw [if_neg h1] at hK
      rw [decide_eq_false h1] at c1
      by_cases h2 : F.order x NFAR = some .lt ∨ F.order x NFAR = some .eq
      · rw [if_pos h2] at hK
        rw [decide_eq_true h2] at c2
        simp only [Nat.reduceAdd, reduceIte, Nat.reduceEqDiff, reduceCtorEq, opLen, Int.reduceLT, Int.reduceEq, opConvert, opIndexAddr, opLoad, Nat.reduceLT, undef, Nat.reduceLeDiff, Array.toList, bin_fadd, bin_fsub, bin_fmul, bin_fquo, bin_feql, bin_fneq, bin_flss, bin_fleq, bin_fgtr, bin_fgeq, un_fneg, neqf_self, eqf_self, wk4, wk5, wk0, fxC03, hn, c1, c2]
        exact hK
      · rw [if_neg h2] at hK
        rw [decide_eq_false h2] at c2
        obtain ⟨mm, e, _, hf, _⟩ := floatInt_some hn h1 h2
        rw [hf] at hK
        simp only [Nat.reduceAdd, reduceIte, Nat.reduceEqDiff, reduceCtorEq, opLen, Int.reduceLT, Int.reduceEq, opConvert, opIndexAddr, opLoad, Nat.reduceLT, undef, Nat.reduceLeDiff, Array.toList, bin_fadd, bin_fsub, bin_fmul, bin_fquo, bin_feql, bin_fneq, bin_flss, bin_fleq, bin_fgtr, bin_fgeq, un_fneg, neqf_self, eqf_self, wk4, wk5, wk0, fxC03, hn, c1, c2, hf]
        exact hK
theorem lt_lax {x : Nat} (h : x < 2 ^ 64) : x ≠ lax := by have := lax_big; omega
theorem signbit_ret {m : Mem} {x : Nat} (hx : x < 2 ^ 64) {K : Value → Mem → Prop} (hK : K (.bool (sgn x)) m) : Ret Try.prog 18 [.float .f64 x] m K := by
  refine ret_wp [] Try.func18 rfl (by decide) (by kernel_rfl) ?_
  simp only [Nat.reduceAdd, reduceIte, Nat.reduceEqDiff, reduceCtorEq, opLen, Int.reduceLT, Int.reduceEq, opConvert, opIndexAddr, opLoad, Nat.reduceLT, undef, Nat.reduceLeDiff, Array.toList, bin_fadd, bin_fsub, bin_fmul, bin_fquo, bin_feql, bin_fneq, bin_flss, bin_fleq, bin_fgtr, bin_fgeq, un_fneg, neqf_self, eqf_self, wk4, wk5, wk0, fxC03]
  refine bits12_ret (lt_lax hx) ?_
  have e : decide (IntKind.i64.wrap (x : Int) < 0) = sgn x := by
    rw [IntKind.wrap_i64]
    unfold sgn
    by_cases h : x / 2 ^ 63 % 2 = 1
    · simp only [h, beq_self_eq_true]
      exact decide_eq_true (by omega)
    · have : (x / 2 ^ 63 % 2 == 1) = false := by simpa using h
      rw [this]
      exact decide_eq_false (by omega)
  simp only [Nat.reduceAdd, reduceIte, Nat.reduceEqDiff, reduceCtorEq, opLen, Int.reduceLT, Int.reduceEq, opConvert, opIndexAddr, opLoad, Nat.reduceLT, undef, Nat.reduceLeDiff, Array.toList, bin_fadd, bin_fsub, bin_fmul, bin_fquo, bin_feql, bin_fneq, bin_flss, bin_fleq, bin_fgtr, bin_fgeq, un_fneg, neqf_self, eqf_self, wk4, wk5, wk0, fxC03]
  rw [e]
  exact hK
end Go.Proofs.Ytfhmfialnnhidaa
