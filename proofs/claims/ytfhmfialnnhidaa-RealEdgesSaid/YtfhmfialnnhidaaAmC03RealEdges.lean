/- A text of the abstract machine. -/

/- The law RealEdges, simp only [Nat.reduceAdd, reduceIte, Nat.reduceEqDiff, reduceCtorEq, opLen, Int.reduceLT, Int.reduceEq, opConvert, opIndexAddr, opLoad, Nat.reduceLT, undef, Nat.reduceLeDiff, Array.toList, bin_fadd, bin_fsub, bin_fmul, bin_fquo, bin_feql, bin_fneq, bin_flss, bin_fleq, bin_fgtr, bin_fgeq, un_fneg, neqf_self, eqf_self, wk4, wk5, wk0, fxC03RealEdges]ed. -/
import Derived.Test.YtfhmfialnnhidaaAmC03c
import Derived.Test.YtfhmfialnnhidaaAmBun
set_option linter.unusedSimpArgs false
set_option linter.unusedVariables false
set_option maxRecDepth 100000
set_option maxHeartbeats 4000000
namespace Go.Proofs.Ytfhmfialnnhidaa
open Go Go.AM Go.AM.Flt
theorem fxC03RealEdges : type_of% (And.intro (And.intro (And.intro (And.intro (And.intro @Try.underlying2 (And.intro @Try.underlying3 @Try.underlying4)) (And.intro (And.intro @Try.underlying5 @Try.underlying9) (And.intro @Try.underlying22 @Try.underlying24))) (And.intro (And.intro @Try.underlying27 (And.intro @Try.underlying28 @ts2)) (And.intro (And.intro @ts3 @ts4) (And.intro @ts5 @ts9)))) (And.intro (And.intro (And.intro @ts22 (And.intro @ts24 @ts27)) (And.intro (And.intro @ts28 @tz2) (And.intro @tz3 @tz4))) (And.intro (And.intro (And.intro @tz5 @tz9) (And.intro @tz22 @tz24)) (And.intro (And.intro @tz27 @tz28) (And.intro @tb2 @tb3))))) (And.intro (And.intro (And.intro (And.intro @tb4 (And.intro @tb5 @tb9)) (And.intro (And.intro @tb22 @tb24) (And.intro @tb27 @tb28))) (And.intro (And.intro @fr3 (And.intro @fr4 @fr5)) (And.intro (And.intro @fr6 @fr7) (And.intro @fr8 @fr9)))) (And.intro (And.intro (And.intro @fr10 (And.intro @fr11 @fr13)) (And.intro (And.intro @fr14 @fr15) (And.intro @fr16 @fr17))) (And.intro (And.intro (And.intro @fr18 @fr19) (And.intro @fr20 @fr21)) (And.intro (And.intro @fr23 @fr24) (And.intro @fr25 @fr26)))))) := (And.intro (And.intro (And.intro (And.intro (And.intro @Try.underlying2 (And.intro @Try.underlying3 @Try.underlying4)) (And.intro (And.intro @Try.underlying5 @Try.underlying9) (And.intro @Try.underlying22 @Try.underlying24))) (And.intro (And.intro @Try.underlying27 (And.intro @Try.underlying28 @ts2)) (And.intro (And.intro @ts3 @ts4) (And.intro @ts5 @ts9)))) (And.intro (And.intro (And.intro @ts22 (And.intro @ts24 @ts27)) (And.intro (And.intro @ts28 @tz2) (And.intro @tz3 @tz4))) (And.intro (And.intro (And.intro @tz5 @tz9) (And.intro @tz22 @tz24)) (And.intro (And.intro @tz27 @tz28) (And.intro @tb2 @tb3))))) (And.intro (And.intro (And.intro (And.intro @tb4 (And.intro @tb5 @tb9)) (And.intro (And.intro @tb22 @tb24) (And.intro @tb27 @tb28))) (And.intro (And.intro @fr3 (And.intro @fr4 @fr5)) (And.intro (And.intro @fr6 @fr7) (And.intro @fr8 @fr9)))) (And.intro (And.intro (And.intro @fr10 (And.intro @fr11 @fr13)) (And.intro (And.intro @fr14 @fr15) (And.intro @fr16 @fr17))) (And.intro (And.intro (And.intro @fr18 @fr19) (And.intro @fr20 @fr21)) (And.intro (And.intro @fr23 @fr24) (And.intro @fr25 @fr26))))))
def zeroX (x : Nat) : Bool := (F.read x).isZero
theorem ord0 {x : Nat} (hn : nanX x = false) : (F.order x 0 == some .gt) = (!zeroX x && !sgn x) ∧ (F.order x 0 == some .eq) = zeroX x := by
  unfold Ieee.Format.order zeroX
  rw [zero_read]
  cases read_kind x with
  | num m e h c r =>
    rw [h]
    have p := Nat.two_pow_pos (e - min e (-1074)).toNat
    have z0 : Ieee.signed false 0 ((-1074 : Int) - min e (-1074)).toNat = 0 := by rw [signed_pos]; simp
    simp only [Ieee.Datum.order, z0]
    cases m with
    | zero =>
      have z1 : ∀ s, Ieee.signed s 0 (e - min e (-1074)).toNat = 0 := fun s => by
        cases s
        · rw [signed_pos]; simp
        · rw [signed_neg]; simp
      rw [z1, cmp_int.2 rfl]
      exact ⟨rfl, rfl⟩
    | succ m =>
      have q : 0 < (m + 1) * 2 ^ (e - min e (-1074)).toNat := Nat.mul_pos (Nat.succ_pos _) p
      cases hs : sgn x with
      | false =>
        rw [signed_pos, cmp_int_gt.2 (by omega)]
        exact ⟨rfl, rfl⟩
      | true =>
        rw [signed_neg, cmp_int_lt.2 (by omega)]
        exact ⟨rfl, rfl⟩
  | inf h r =>
    rw [h]
    cases hs : sgn x <;> exact ⟨rfl, rfl⟩
  | nan f h r =>
    rw [(nan_iff64 x).2 r] at hn
    cases hn
theorem bneqb (a : Bool) : binV Try.prog .neq 4 (.bool a) (.bool (!a)) = some (.bool true) := by cases a <;> kernel_rfl
theorem beqb (a : Bool) : binV Try.prog .eql 4 (.bool a) (.bool a) = some (.bool true) := by cases a <;> kernel_rfl
theorem nb1 : binV Try.prog .neq 4 (.bool false) (.bool true) = some (.bool true) := by kernel_rfl
theorem nb2 : binV Try.prog .neq 4 (.bool true) (.bool false) = some (.bool true) := by kernel_rfl
theorem minus_is : cps 0 13830554455654793216 = 0x8000000000000000 := by decide
/-- An infinity. -/
theorem word_inf (s : Bool) : F.word s (2047 * 2 ^ 52) < 2 ^ 64 ∧ nanX (F.word s (2047 * 2 ^ 52)) = false ∧ infB (F.word s (2047 * 2 ^ 52)) = true ∧ (F.order (F.word s (2047 * 2 ^ 52)) 0 == some .gt) = !s := by
  cases s <;> decide
theorem word_zero (s : Bool) : F.word s 0 < 2 ^ 64 ∧ nanX (F.word s 0) = false ∧ (F.order (F.word s 0) 0 == some .eq) = true ∧ sgn (F.word s 0) = s := by
  cases s <;> decide
theorem realedges_ret {m : Mem} {n : Int} {e : Int} (hn : 0 ≤ n ∧ n < 2 ^ 64) (he : 0 ≤ e ∧ e < 256) : Ret Try.prog 5 [.int .u64 n, .int .u8 e] m fun v _ => v = .bool true := by
  refine ret_wp [] Try.func5 rfl (by decide) (by kernel_rfl) ?_
  simp only [Nat.reduceAdd, reduceIte, Nat.reduceEqDiff, reduceCtorEq, opLen, Int.reduceLT, Int.reduceEq, opConvert, opIndexAddr, opLoad, Nat.reduceLT, undef, Nat.reduceLeDiff, Array.toList, bin_fadd, bin_fsub, bin_fmul, bin_fquo, bin_feql, bin_fneq, bin_flss, bin_fleq, bin_fgtr, bin_fgeq, un_fneg, neqf_self, eqf_self, wk4, wk5, wk0, fxC03RealEdges]
  refine awake_ret ?_
  simp only [Nat.reduceAdd, reduceIte, Nat.reduceEqDiff, reduceCtorEq, opLen, Int.reduceLT, Int.reduceEq, opConvert, opIndexAddr, opLoad, Nat.reduceLT, undef, Nat.reduceLeDiff, Array.toList, bin_fadd, bin_fsub, bin_fmul, bin_fquo, bin_feql, bin_fneq, bin_flss, bin_fleq, bin_fgtr, bin_fgeq, un_fneg, neqf_self, eqf_self, wk4, wk5, wk0, fxC03RealEdges]
  refine float_ret hn he fun x hx => ?_
  simp only [Nat.reduceAdd, reduceIte, Nat.reduceEqDiff, reduceCtorEq, opLen, Int.reduceLT, Int.reduceEq, opConvert, opIndexAddr, opLoad, Nat.reduceLT, undef, Nat.reduceLeDiff, Array.toList, bin_fadd, bin_fsub, bin_fmul, bin_fquo, bin_feql, bin_fneq, bin_flss, bin_fleq, bin_fgtr, bin_fgeq, un_fneg, neqf_self, eqf_self, wk4, wk5, wk0, fxC03RealEdges]
  refine inf_ret ?_
  rw [if_pos (show (0 : Int) ≤ 1 by decide)]
  cases h : nanX x with
  | true =>
    have a0 : addX x 0 = one := by
      unfold addX
      have : F.add x 0 = none := by
        unfold Ieee.Format.add
        rw [sum_nan_l (d := F.read x) h]
        rfl
      rw [this]
      decide
    have m0 : mulX x 9218868437227405312 = one := by
      unfold mulX
      have : F.mul x 9218868437227405312 = none := by
        unfold Ieee.Format.mul
        rw [prod_nan_l (d := F.read x) h]
        rfl
      rw [this]
      decide
    have to : tell one = tell x := by rw [tell_nan h]; decide
    have wx : wholeX x = 0 := by unfold wholeX; rw [if_pos h]
    simp only [Nat.reduceAdd, reduceIte, Nat.reduceEqDiff, reduceCtorEq, opLen, Int.reduceLT, Int.reduceEq, opConvert, opIndexAddr, opLoad, Nat.reduceLT, undef, Nat.reduceLeDiff, Array.toList, bin_fadd, bin_fsub, bin_fmul, bin_fquo, bin_feql, bin_fneq, bin_flss, bin_fleq, bin_fgtr, bin_fgeq, un_fneg, neqf_self, eqf_self, wk4, wk5, wk0, fxC03RealEdges, h]
    refine add_ret ?_
    rw [a0]
    simp only [Nat.reduceAdd, reduceIte, Nat.reduceEqDiff, reduceCtorEq, opLen, Int.reduceLT, Int.reduceEq, opConvert, opIndexAddr, opLoad, Nat.reduceLT, undef, Nat.reduceLeDiff, Array.toList, bin_fadd, bin_fsub, bin_fmul, bin_fquo, bin_feql, bin_fneq, bin_flss, bin_fleq, bin_fgtr, bin_fgeq, un_fneg, neqf_self, eqf_self, wk4, wk5, wk0, fxC03RealEdges]
    refine same_ret ?_
    rw [decide_eq_true to]
    simp only [Nat.reduceAdd, reduceIte, Nat.reduceEqDiff, reduceCtorEq, opLen, Int.reduceLT, Int.reduceEq, opConvert, opIndexAddr, opLoad, Nat.reduceLT, undef, Nat.reduceLeDiff, Array.toList, bin_fadd, bin_fsub, bin_fmul, bin_fquo, bin_feql, bin_fneq, bin_flss, bin_fleq, bin_fgtr, bin_fgeq, un_fneg, neqf_self, eqf_self, wk4, wk5, wk0, fxC03RealEdges]
    refine mul_ret ?_
    rw [m0]
    simp only [Nat.reduceAdd, reduceIte, Nat.reduceEqDiff, reduceCtorEq, opLen, Int.reduceLT, Int.reduceEq, opConvert, opIndexAddr, opLoad, Nat.reduceLT, undef, Nat.reduceLeDiff, Array.toList, bin_fadd, bin_fsub, bin_fmul, bin_fquo, bin_feql, bin_fneq, bin_flss, bin_fleq, bin_fgtr, bin_fgeq, un_fneg, neqf_self, eqf_self, wk4, wk5, wk0, fxC03RealEdges]
    refine same_ret ?_
    rw [decide_eq_true to]
    simp only [Nat.reduceAdd, reduceIte, Nat.reduceEqDiff, reduceCtorEq, opLen, Int.reduceLT, Int.reduceEq, opConvert, opIndexAddr, opLoad, Nat.reduceLT, undef, Nat.reduceLeDiff, Array.toList, bin_fadd, bin_fsub, bin_fmul, bin_fquo, bin_feql, bin_fneq, bin_flss, bin_fleq, bin_fgtr, bin_fgeq, un_fneg, neqf_self, eqf_self, wk4, wk5, wk0, fxC03RealEdges]
    refine whole_ret ?_
    rw [wx]
    simp only [Nat.reduceAdd, reduceIte, Nat.reduceEqDiff, reduceCtorEq, opLen, Int.reduceLT, Int.reduceEq, opConvert, opIndexAddr, opLoad, Nat.reduceLT, undef, Nat.reduceLeDiff, Array.toList, bin_fadd, bin_fsub, bin_fmul, bin_fquo, bin_feql, bin_fneq, bin_flss, bin_fleq, bin_fgtr, bin_fgeq, un_fneg, neqf_self, eqf_self, wk4, wk5, wk0, fxC03RealEdges]
  | false =>
    obtain ⟨o1, o2⟩ := ord0 h
    have am : addX x 0x8000000000000000 = x := by
      unfold addX
      rw [add_minus hx h]
      exact tell_num h
    have m1 : mulX x 4607182418800017408 = x := by
      unfold mulX
      rw [show (4607182418800017408 : Nat) = 0x3ff0000000000000 by decide, mul_one hx h]
      exact tell_num h
    have dx := decide_eq_true (rfl : tell x = tell x)
    have dxx := dx
    have o3 : (F.order x 0 != some .eq) = !zeroX x := by rw [← o2]; rfl
    have dz := div_zero h
    have hz : (F.read x).isZero = zeroX x := rfl
    rw [hz] at dz
    have isn : infB x = false → ∀ s, sgn x = s → divX x 9218868437227405312 = F.word s 0 := by
      intro g s hs
      cases read_kind x with
      | num m e hr c r =>
        unfold divX
        rw [show (9218868437227405312 : Nat) = 0x7ff0000000000000 by decide, div_pinf_num hr, hs]
        exact tell_num (word_zero s).2.1
      | inf hr r =>
        unfold infB at g
        rw [decide_eq_true r] at g
        cases g
      | nan f hr r =>
        rw [(nan_iff64 x).2 r] at h
        cases h
    have isz : zeroX x = true → infB x = false := by
      intro g
      cases hb : infB x with
      | false => rfl
      | true =>
        cases read_kind x with
        | num m e hr c r =>
          have hb := of_decide_eq_true (show decide (rung x = 2047 * 2 ^ 52) = true from hb)
          rcases c with ⟨c1, c2⟩ | ⟨c1, c2, c3, c4⟩ <;> omega
        | inf hr r => unfold zeroX at g; rw [hr] at g; cases g
        | nan f hr r => unfold zeroX at g; rw [hr] at g; cases g
    cases z : zeroX x with
    | true =>
      rw [z] at o1 o2 o3 dz
      have o1 : (F.order x 0 == some .gt) = false := o1
      have o3 : (F.order x 0 != some .eq) = false := o3
      have nq : nanX (divX x 0) = true := by unfold divX; rw [dz, if_pos rfl]; decide
      have g := isz z
      cases s : sgn x with
      | false =>
        obtain ⟨w1, w2, w3, w4⟩ := word_zero false
        have dw := isn g _ s
        simp only [Nat.reduceAdd, reduceIte, Nat.reduceEqDiff, reduceCtorEq, opLen, Int.reduceLT, Int.reduceEq, opConvert, opIndexAddr, opLoad, Nat.reduceLT, undef, Nat.reduceLeDiff, Array.toList, bin_fadd, bin_fsub, bin_fmul, bin_fquo, bin_feql, bin_fneq, bin_flss, bin_fleq, bin_fgtr, bin_fgeq, un_fneg, neqf_self, eqf_self, wk4, wk5, wk0, fxC03RealEdges, h, o1, o2, o3]
        refine signbit_ret hx ?_
        rw [s]
        simp only [Nat.reduceAdd, reduceIte, Nat.reduceEqDiff, reduceCtorEq, opLen, Int.reduceLT, Int.reduceEq, opConvert, opIndexAddr, opLoad, Nat.reduceLT, undef, Nat.reduceLeDiff, Array.toList, bin_fadd, bin_fsub, bin_fmul, bin_fquo, bin_feql, bin_fneq, bin_flss, bin_fleq, bin_fgtr, bin_fgeq, un_fneg, neqf_self, eqf_self, wk4, wk5, wk0, fxC03RealEdges]
        refine div_ret ?_
        simp only [Nat.reduceAdd, reduceIte, Nat.reduceEqDiff, reduceCtorEq, opLen, Int.reduceLT, Int.reduceEq, opConvert, opIndexAddr, opLoad, Nat.reduceLT, undef, Nat.reduceLeDiff, Array.toList, bin_fadd, bin_fsub, bin_fmul, bin_fquo, bin_feql, bin_fneq, bin_flss, bin_fleq, bin_fgtr, bin_fgeq, un_fneg, neqf_self, eqf_self, wk4, wk5, wk0, fxC03RealEdges]
        refine copysign_ret (by decide) (by decide) ?_
        rw [minus_is]
        simp only [Nat.reduceAdd, reduceIte, Nat.reduceEqDiff, reduceCtorEq, opLen, Int.reduceLT, Int.reduceEq, opConvert, opIndexAddr, opLoad, Nat.reduceLT, undef, Nat.reduceLeDiff, Array.toList, bin_fadd, bin_fsub, bin_fmul, bin_fquo, bin_feql, bin_fneq, bin_flss, bin_fleq, bin_fgtr, bin_fgeq, un_fneg, neqf_self, eqf_self, wk4, wk5, wk0, fxC03RealEdges]
        refine add_ret ?_
        rw [am]
        simp only [Nat.reduceAdd, reduceIte, Nat.reduceEqDiff, reduceCtorEq, opLen, Int.reduceLT, Int.reduceEq, opConvert, opIndexAddr, opLoad, Nat.reduceLT, undef, Nat.reduceLeDiff, Array.toList, bin_fadd, bin_fsub, bin_fmul, bin_fquo, bin_feql, bin_fneq, bin_flss, bin_fleq, bin_fgtr, bin_fgeq, un_fneg, neqf_self, eqf_self, wk4, wk5, wk0, fxC03RealEdges]
        refine same_ret ?_
        rw [dx]
        simp only [Nat.reduceAdd, reduceIte, Nat.reduceEqDiff, reduceCtorEq, opLen, Int.reduceLT, Int.reduceEq, opConvert, opIndexAddr, opLoad, Nat.reduceLT, undef, Nat.reduceLeDiff, Array.toList, bin_fadd, bin_fsub, bin_fmul, bin_fquo, bin_feql, bin_fneq, bin_flss, bin_fleq, bin_fgtr, bin_fgeq, un_fneg, neqf_self, eqf_self, wk4, wk5, wk0, fxC03RealEdges]
        refine mul_ret ?_
        rw [m1]
        simp only [Nat.reduceAdd, reduceIte, Nat.reduceEqDiff, reduceCtorEq, opLen, Int.reduceLT, Int.reduceEq, opConvert, opIndexAddr, opLoad, Nat.reduceLT, undef, Nat.reduceLeDiff, Array.toList, bin_fadd, bin_fsub, bin_fmul, bin_fquo, bin_feql, bin_fneq, bin_flss, bin_fleq, bin_fgtr, bin_fgeq, un_fneg, neqf_self, eqf_self, wk4, wk5, wk0, fxC03RealEdges]
        refine same_ret ?_
        rw [dx]
        simp only [Nat.reduceAdd, reduceIte, Nat.reduceEqDiff, reduceCtorEq, opLen, Int.reduceLT, Int.reduceEq, opConvert, opIndexAddr, opLoad, Nat.reduceLT, undef, Nat.reduceLeDiff, Array.toList, bin_fadd, bin_fsub, bin_fmul, bin_fquo, bin_feql, bin_fneq, bin_flss, bin_fleq, bin_fgtr, bin_fgeq, un_fneg, neqf_self, eqf_self, wk4, wk5, wk0, fxC03RealEdges, o2, nq]
        refine isinf_ret hx ?_
        rw [g]
        simp only [Nat.reduceAdd, reduceIte, Nat.reduceEqDiff, reduceCtorEq, opLen, Int.reduceLT, Int.reduceEq, opConvert, opIndexAddr, opLoad, Nat.reduceLT, undef, Nat.reduceLeDiff, Array.toList, bin_fadd, bin_fsub, bin_fmul, bin_fquo, bin_feql, bin_fneq, bin_flss, bin_fleq, bin_fgtr, bin_fgeq, un_fneg, neqf_self, eqf_self, wk4, wk5, wk0, fxC03RealEdges]
        refine div_ret ?_
        rw [dw]
        simp only [Nat.reduceAdd, reduceIte, Nat.reduceEqDiff, reduceCtorEq, opLen, Int.reduceLT, Int.reduceEq, opConvert, opIndexAddr, opLoad, Nat.reduceLT, undef, Nat.reduceLeDiff, Array.toList, bin_fadd, bin_fsub, bin_fmul, bin_fquo, bin_feql, bin_fneq, bin_flss, bin_fleq, bin_fgtr, bin_fgeq, un_fneg, neqf_self, eqf_self, wk4, wk5, wk0, fxC03RealEdges, w3]
        refine div_ret ?_
        rw [dw]
        simp only [Nat.reduceAdd, reduceIte, Nat.reduceEqDiff, reduceCtorEq, opLen, Int.reduceLT, Int.reduceEq, opConvert, opIndexAddr, opLoad, Nat.reduceLT, undef, Nat.reduceLeDiff, Array.toList, bin_fadd, bin_fsub, bin_fmul, bin_fquo, bin_feql, bin_fneq, bin_flss, bin_fleq, bin_fgtr, bin_fgeq, un_fneg, neqf_self, eqf_self, wk4, wk5, wk0, fxC03RealEdges]
        refine signbit_ret w1 ?_
        rw [w4]
        simp only [Nat.reduceAdd, reduceIte, Nat.reduceEqDiff, reduceCtorEq, opLen, Int.reduceLT, Int.reduceEq, opConvert, opIndexAddr, opLoad, Nat.reduceLT, undef, Nat.reduceLeDiff, Array.toList, bin_fadd, bin_fsub, bin_fmul, bin_fquo, bin_feql, bin_fneq, bin_flss, bin_fleq, bin_fgtr, bin_fgeq, un_fneg, neqf_self, eqf_self, wk4, wk5, wk0, fxC03RealEdges, nb1, nb2]
      | true =>
        obtain ⟨w1, w2, w3, w4⟩ := word_zero true
        have dw := isn g _ s
        simp only [Nat.reduceAdd, reduceIte, Nat.reduceEqDiff, reduceCtorEq, opLen, Int.reduceLT, Int.reduceEq, opConvert, opIndexAddr, opLoad, Nat.reduceLT, undef, Nat.reduceLeDiff, Array.toList, bin_fadd, bin_fsub, bin_fmul, bin_fquo, bin_feql, bin_fneq, bin_flss, bin_fleq, bin_fgtr, bin_fgeq, un_fneg, neqf_self, eqf_self, wk4, wk5, wk0, fxC03RealEdges, h, o1, o2, o3]
        refine signbit_ret hx ?_
        rw [s]
        simp only [Nat.reduceAdd, reduceIte, Nat.reduceEqDiff, reduceCtorEq, opLen, Int.reduceLT, Int.reduceEq, opConvert, opIndexAddr, opLoad, Nat.reduceLT, undef, Nat.reduceLeDiff, Array.toList, bin_fadd, bin_fsub, bin_fmul, bin_fquo, bin_feql, bin_fneq, bin_flss, bin_fleq, bin_fgtr, bin_fgeq, un_fneg, neqf_self, eqf_self, wk4, wk5, wk0, fxC03RealEdges]
        refine div_ret ?_
        simp only [Nat.reduceAdd, reduceIte, Nat.reduceEqDiff, reduceCtorEq, opLen, Int.reduceLT, Int.reduceEq, opConvert, opIndexAddr, opLoad, Nat.reduceLT, undef, Nat.reduceLeDiff, Array.toList, bin_fadd, bin_fsub, bin_fmul, bin_fquo, bin_feql, bin_fneq, bin_flss, bin_fleq, bin_fgtr, bin_fgeq, un_fneg, neqf_self, eqf_self, wk4, wk5, wk0, fxC03RealEdges]
        refine copysign_ret (by decide) (by decide) ?_
        rw [minus_is]
        simp only [Nat.reduceAdd, reduceIte, Nat.reduceEqDiff, reduceCtorEq, opLen, Int.reduceLT, Int.reduceEq, opConvert, opIndexAddr, opLoad, Nat.reduceLT, undef, Nat.reduceLeDiff, Array.toList, bin_fadd, bin_fsub, bin_fmul, bin_fquo, bin_feql, bin_fneq, bin_flss, bin_fleq, bin_fgtr, bin_fgeq, un_fneg, neqf_self, eqf_self, wk4, wk5, wk0, fxC03RealEdges]
        refine add_ret ?_
        rw [am]
        simp only [Nat.reduceAdd, reduceIte, Nat.reduceEqDiff, reduceCtorEq, opLen, Int.reduceLT, Int.reduceEq, opConvert, opIndexAddr, opLoad, Nat.reduceLT, undef, Nat.reduceLeDiff, Array.toList, bin_fadd, bin_fsub, bin_fmul, bin_fquo, bin_feql, bin_fneq, bin_flss, bin_fleq, bin_fgtr, bin_fgeq, un_fneg, neqf_self, eqf_self, wk4, wk5, wk0, fxC03RealEdges]
        refine same_ret ?_
        rw [dx]
        simp only [Nat.reduceAdd, reduceIte, Nat.reduceEqDiff, reduceCtorEq, opLen, Int.reduceLT, Int.reduceEq, opConvert, opIndexAddr, opLoad, Nat.reduceLT, undef, Nat.reduceLeDiff, Array.toList, bin_fadd, bin_fsub, bin_fmul, bin_fquo, bin_feql, bin_fneq, bin_flss, bin_fleq, bin_fgtr, bin_fgeq, un_fneg, neqf_self, eqf_self, wk4, wk5, wk0, fxC03RealEdges]
        refine mul_ret ?_
        rw [m1]
        simp only [Nat.reduceAdd, reduceIte, Nat.reduceEqDiff, reduceCtorEq, opLen, Int.reduceLT, Int.reduceEq, opConvert, opIndexAddr, opLoad, Nat.reduceLT, undef, Nat.reduceLeDiff, Array.toList, bin_fadd, bin_fsub, bin_fmul, bin_fquo, bin_feql, bin_fneq, bin_flss, bin_fleq, bin_fgtr, bin_fgeq, un_fneg, neqf_self, eqf_self, wk4, wk5, wk0, fxC03RealEdges]
        refine same_ret ?_
        rw [dx]
        simp only [Nat.reduceAdd, reduceIte, Nat.reduceEqDiff, reduceCtorEq, opLen, Int.reduceLT, Int.reduceEq, opConvert, opIndexAddr, opLoad, Nat.reduceLT, undef, Nat.reduceLeDiff, Array.toList, bin_fadd, bin_fsub, bin_fmul, bin_fquo, bin_feql, bin_fneq, bin_flss, bin_fleq, bin_fgtr, bin_fgeq, un_fneg, neqf_self, eqf_self, wk4, wk5, wk0, fxC03RealEdges, o2, nq]
        refine isinf_ret hx ?_
        rw [g]
        simp only [Nat.reduceAdd, reduceIte, Nat.reduceEqDiff, reduceCtorEq, opLen, Int.reduceLT, Int.reduceEq, opConvert, opIndexAddr, opLoad, Nat.reduceLT, undef, Nat.reduceLeDiff, Array.toList, bin_fadd, bin_fsub, bin_fmul, bin_fquo, bin_feql, bin_fneq, bin_flss, bin_fleq, bin_fgtr, bin_fgeq, un_fneg, neqf_self, eqf_self, wk4, wk5, wk0, fxC03RealEdges]
        refine div_ret ?_
        rw [dw]
        simp only [Nat.reduceAdd, reduceIte, Nat.reduceEqDiff, reduceCtorEq, opLen, Int.reduceLT, Int.reduceEq, opConvert, opIndexAddr, opLoad, Nat.reduceLT, undef, Nat.reduceLeDiff, Array.toList, bin_fadd, bin_fsub, bin_fmul, bin_fquo, bin_feql, bin_fneq, bin_flss, bin_fleq, bin_fgtr, bin_fgeq, un_fneg, neqf_self, eqf_self, wk4, wk5, wk0, fxC03RealEdges, w3]
        refine div_ret ?_
        rw [dw]
        simp only [Nat.reduceAdd, reduceIte, Nat.reduceEqDiff, reduceCtorEq, opLen, Int.reduceLT, Int.reduceEq, opConvert, opIndexAddr, opLoad, Nat.reduceLT, undef, Nat.reduceLeDiff, Array.toList, bin_fadd, bin_fsub, bin_fmul, bin_fquo, bin_feql, bin_fneq, bin_flss, bin_fleq, bin_fgtr, bin_fgeq, un_fneg, neqf_self, eqf_self, wk4, wk5, wk0, fxC03RealEdges]
        refine signbit_ret w1 ?_
        rw [w4]
        simp only [Nat.reduceAdd, reduceIte, Nat.reduceEqDiff, reduceCtorEq, opLen, Int.reduceLT, Int.reduceEq, opConvert, opIndexAddr, opLoad, Nat.reduceLT, undef, Nat.reduceLeDiff, Array.toList, bin_fadd, bin_fsub, bin_fmul, bin_fquo, bin_feql, bin_fneq, bin_flss, bin_fleq, bin_fgtr, bin_fgeq, un_fneg, neqf_self, eqf_self, wk4, wk5, wk0, fxC03RealEdges, nb1, nb2]
    | false =>
      rw [z] at o1 o2 o3 dz
      have o3 : (F.order x 0 != some .eq) = true := o3
      cases s : sgn x with
      | false =>
        rw [s] at o1 dz
        have o1 : (F.order x 0 == some .gt) = true := o1
        obtain ⟨i1, i2, i3, i4⟩ := word_inf false
        have dq : divX x 0 = F.word false (2047 * 2 ^ 52) := by unfold divX; rw [dz]; exact tell_num i2
        have i4 : (F.order (F.word false (2047 * 2 ^ 52)) 0 == some .gt) = true := i4
        simp only [Nat.reduceAdd, reduceIte, Nat.reduceEqDiff, reduceCtorEq, opLen, Int.reduceLT, Int.reduceEq, opConvert, opIndexAddr, opLoad, Nat.reduceLT, undef, Nat.reduceLeDiff, Array.toList, bin_fadd, bin_fsub, bin_fmul, bin_fquo, bin_feql, bin_fneq, bin_flss, bin_fleq, bin_fgtr, bin_fgeq, un_fneg, neqf_self, eqf_self, wk4, wk5, wk0, fxC03RealEdges, h, o1, o2, o3]
        refine div_ret ?_
        rw [dq]
        simp only [Nat.reduceAdd, reduceIte, Nat.reduceEqDiff, reduceCtorEq, opLen, Int.reduceLT, Int.reduceEq, opConvert, opIndexAddr, opLoad, Nat.reduceLT, undef, Nat.reduceLeDiff, Array.toList, bin_fadd, bin_fsub, bin_fmul, bin_fquo, bin_feql, bin_fneq, bin_flss, bin_fleq, bin_fgtr, bin_fgeq, un_fneg, neqf_self, eqf_self, wk4, wk5, wk0, fxC03RealEdges]
        refine copysign_ret (by decide) (by decide) ?_
        rw [minus_is]
        simp only [Nat.reduceAdd, reduceIte, Nat.reduceEqDiff, reduceCtorEq, opLen, Int.reduceLT, Int.reduceEq, opConvert, opIndexAddr, opLoad, Nat.reduceLT, undef, Nat.reduceLeDiff, Array.toList, bin_fadd, bin_fsub, bin_fmul, bin_fquo, bin_feql, bin_fneq, bin_flss, bin_fleq, bin_fgtr, bin_fgeq, un_fneg, neqf_self, eqf_self, wk4, wk5, wk0, fxC03RealEdges]
        refine add_ret ?_
        rw [am]
        simp only [Nat.reduceAdd, reduceIte, Nat.reduceEqDiff, reduceCtorEq, opLen, Int.reduceLT, Int.reduceEq, opConvert, opIndexAddr, opLoad, Nat.reduceLT, undef, Nat.reduceLeDiff, Array.toList, bin_fadd, bin_fsub, bin_fmul, bin_fquo, bin_feql, bin_fneq, bin_flss, bin_fleq, bin_fgtr, bin_fgeq, un_fneg, neqf_self, eqf_self, wk4, wk5, wk0, fxC03RealEdges]
        refine same_ret ?_
        rw [dx]
        simp only [Nat.reduceAdd, reduceIte, Nat.reduceEqDiff, reduceCtorEq, opLen, Int.reduceLT, Int.reduceEq, opConvert, opIndexAddr, opLoad, Nat.reduceLT, undef, Nat.reduceLeDiff, Array.toList, bin_fadd, bin_fsub, bin_fmul, bin_fquo, bin_feql, bin_fneq, bin_flss, bin_fleq, bin_fgtr, bin_fgeq, un_fneg, neqf_self, eqf_self, wk4, wk5, wk0, fxC03RealEdges]
        refine mul_ret ?_
        rw [m1]
        simp only [Nat.reduceAdd, reduceIte, Nat.reduceEqDiff, reduceCtorEq, opLen, Int.reduceLT, Int.reduceEq, opConvert, opIndexAddr, opLoad, Nat.reduceLT, undef, Nat.reduceLeDiff, Array.toList, bin_fadd, bin_fsub, bin_fmul, bin_fquo, bin_feql, bin_fneq, bin_flss, bin_fleq, bin_fgtr, bin_fgeq, un_fneg, neqf_self, eqf_self, wk4, wk5, wk0, fxC03RealEdges]
        refine same_ret ?_
        rw [dx]
        simp only [Nat.reduceAdd, reduceIte, Nat.reduceEqDiff, reduceCtorEq, opLen, Int.reduceLT, Int.reduceEq, opConvert, opIndexAddr, opLoad, Nat.reduceLT, undef, Nat.reduceLeDiff, Array.toList, bin_fadd, bin_fsub, bin_fmul, bin_fquo, bin_feql, bin_fneq, bin_flss, bin_fleq, bin_fgtr, bin_fgeq, un_fneg, neqf_self, eqf_self, wk4, wk5, wk0, fxC03RealEdges, o2, o3]
        refine isinf_ret i1 ?_
        rw [i3]
        simp only [Nat.reduceAdd, reduceIte, Nat.reduceEqDiff, reduceCtorEq, opLen, Int.reduceLT, Int.reduceEq, opConvert, opIndexAddr, opLoad, Nat.reduceLT, undef, Nat.reduceLeDiff, Array.toList, bin_fadd, bin_fsub, bin_fmul, bin_fquo, bin_feql, bin_fneq, bin_flss, bin_fleq, bin_fgtr, bin_fgeq, un_fneg, neqf_self, eqf_self, wk4, wk5, wk0, fxC03RealEdges, i4]
        refine isinf_ret hx ?_
        cases g : infB x with
        | true => simp only [Nat.reduceAdd, reduceIte, Nat.reduceEqDiff, reduceCtorEq, opLen, Int.reduceLT, Int.reduceEq, opConvert, opIndexAddr, opLoad, Nat.reduceLT, undef, Nat.reduceLeDiff, Array.toList, bin_fadd, bin_fsub, bin_fmul, bin_fquo, bin_feql, bin_fneq, bin_flss, bin_fleq, bin_fgtr, bin_fgeq, un_fneg, neqf_self, eqf_self, wk4, wk5, wk0, fxC03RealEdges]
        | false =>
          obtain ⟨w1, w2, w3, w4⟩ := word_zero false
          have dw := isn g _ s
          simp only [Nat.reduceAdd, reduceIte, Nat.reduceEqDiff, reduceCtorEq, opLen, Int.reduceLT, Int.reduceEq, opConvert, opIndexAddr, opLoad, Nat.reduceLT, undef, Nat.reduceLeDiff, Array.toList, bin_fadd, bin_fsub, bin_fmul, bin_fquo, bin_feql, bin_fneq, bin_flss, bin_fleq, bin_fgtr, bin_fgeq, un_fneg, neqf_self, eqf_self, wk4, wk5, wk0, fxC03RealEdges]
          refine div_ret ?_
          rw [dw]
          simp only [Nat.reduceAdd, reduceIte, Nat.reduceEqDiff, reduceCtorEq, opLen, Int.reduceLT, Int.reduceEq, opConvert, opIndexAddr, opLoad, Nat.reduceLT, undef, Nat.reduceLeDiff, Array.toList, bin_fadd, bin_fsub, bin_fmul, bin_fquo, bin_feql, bin_fneq, bin_flss, bin_fleq, bin_fgtr, bin_fgeq, un_fneg, neqf_self, eqf_self, wk4, wk5, wk0, fxC03RealEdges, w3]
          refine div_ret ?_
          rw [dw]
          simp only [Nat.reduceAdd, reduceIte, Nat.reduceEqDiff, reduceCtorEq, opLen, Int.reduceLT, Int.reduceEq, opConvert, opIndexAddr, opLoad, Nat.reduceLT, undef, Nat.reduceLeDiff, Array.toList, bin_fadd, bin_fsub, bin_fmul, bin_fquo, bin_feql, bin_fneq, bin_flss, bin_fleq, bin_fgtr, bin_fgeq, un_fneg, neqf_self, eqf_self, wk4, wk5, wk0, fxC03RealEdges]
          refine signbit_ret w1 ?_
          rw [w4]
          simp only [Nat.reduceAdd, reduceIte, Nat.reduceEqDiff, reduceCtorEq, opLen, Int.reduceLT, Int.reduceEq, opConvert, opIndexAddr, opLoad, Nat.reduceLT, undef, Nat.reduceLeDiff, Array.toList, bin_fadd, bin_fsub, bin_fmul, bin_fquo, bin_feql, bin_fneq, bin_flss, bin_fleq, bin_fgtr, bin_fgeq, un_fneg, neqf_self, eqf_self, wk4, wk5, wk0, fxC03RealEdges, nb1, nb2]
      | true =>
        rw [s] at o1 dz
        have o1 : (F.order x 0 == some .gt) = false := o1
        obtain ⟨i1, i2, i3, i4⟩ := word_inf true
        have dq : divX x 0 = F.word true (2047 * 2 ^ 52) := by unfold divX; rw [dz]; exact tell_num i2
        have i4 : (F.order (F.word true (2047 * 2 ^ 52)) 0 == some .gt) = false := i4
        simp only [Nat.reduceAdd, reduceIte, Nat.reduceEqDiff, reduceCtorEq, opLen, Int.reduceLT, Int.reduceEq, opConvert, opIndexAddr, opLoad, Nat.reduceLT, undef, Nat.reduceLeDiff, Array.toList, bin_fadd, bin_fsub, bin_fmul, bin_fquo, bin_feql, bin_fneq, bin_flss, bin_fleq, bin_fgtr, bin_fgeq, un_fneg, neqf_self, eqf_self, wk4, wk5, wk0, fxC03RealEdges, h, o1, o2, o3]
        refine div_ret ?_
        rw [dq]
        simp only [Nat.reduceAdd, reduceIte, Nat.reduceEqDiff, reduceCtorEq, opLen, Int.reduceLT, Int.reduceEq, opConvert, opIndexAddr, opLoad, Nat.reduceLT, undef, Nat.reduceLeDiff, Array.toList, bin_fadd, bin_fsub, bin_fmul, bin_fquo, bin_feql, bin_fneq, bin_flss, bin_fleq, bin_fgtr, bin_fgeq, un_fneg, neqf_self, eqf_self, wk4, wk5, wk0, fxC03RealEdges]
        refine copysign_ret (by decide) (by decide) ?_
        rw [minus_is]
        simp only [Nat.reduceAdd, reduceIte, Nat.reduceEqDiff, reduceCtorEq, opLen, Int.reduceLT, Int.reduceEq, opConvert, opIndexAddr, opLoad, Nat.reduceLT, undef, Nat.reduceLeDiff, Array.toList, bin_fadd, bin_fsub, bin_fmul, bin_fquo, bin_feql, bin_fneq, bin_flss, bin_fleq, bin_fgtr, bin_fgeq, un_fneg, neqf_self, eqf_self, wk4, wk5, wk0, fxC03RealEdges]
        refine add_ret ?_
        rw [am]
        simp only [Nat.reduceAdd, reduceIte, Nat.reduceEqDiff, reduceCtorEq, opLen, Int.reduceLT, Int.reduceEq, opConvert, opIndexAddr, opLoad, Nat.reduceLT, undef, Nat.reduceLeDiff, Array.toList, bin_fadd, bin_fsub, bin_fmul, bin_fquo, bin_feql, bin_fneq, bin_flss, bin_fleq, bin_fgtr, bin_fgeq, un_fneg, neqf_self, eqf_self, wk4, wk5, wk0, fxC03RealEdges]
        refine same_ret ?_
        rw [dx]
        simp only [Nat.reduceAdd, reduceIte, Nat.reduceEqDiff, reduceCtorEq, opLen, Int.reduceLT, Int.reduceEq, opConvert, opIndexAddr, opLoad, Nat.reduceLT, undef, Nat.reduceLeDiff, Array.toList, bin_fadd, bin_fsub, bin_fmul, bin_fquo, bin_feql, bin_fneq, bin_flss, bin_fleq, bin_fgtr, bin_fgeq, un_fneg, neqf_self, eqf_self, wk4, wk5, wk0, fxC03RealEdges]
        refine mul_ret ?_
        rw [m1]
        simp only [Nat.reduceAdd, reduceIte, Nat.reduceEqDiff, reduceCtorEq, opLen, Int.reduceLT, Int.reduceEq, opConvert, opIndexAddr, opLoad, Nat.reduceLT, undef, Nat.reduceLeDiff, Array.toList, bin_fadd, bin_fsub, bin_fmul, bin_fquo, bin_feql, bin_fneq, bin_flss, bin_fleq, bin_fgtr, bin_fgeq, un_fneg, neqf_self, eqf_self, wk4, wk5, wk0, fxC03RealEdges]
        refine same_ret ?_
        rw [dx]
        simp only [Nat.reduceAdd, reduceIte, Nat.reduceEqDiff, reduceCtorEq, opLen, Int.reduceLT, Int.reduceEq, opConvert, opIndexAddr, opLoad, Nat.reduceLT, undef, Nat.reduceLeDiff, Array.toList, bin_fadd, bin_fsub, bin_fmul, bin_fquo, bin_feql, bin_fneq, bin_flss, bin_fleq, bin_fgtr, bin_fgeq, un_fneg, neqf_self, eqf_self, wk4, wk5, wk0, fxC03RealEdges, o2, o3]
        refine isinf_ret i1 ?_
        rw [i3]
        simp only [Nat.reduceAdd, reduceIte, Nat.reduceEqDiff, reduceCtorEq, opLen, Int.reduceLT, Int.reduceEq, opConvert, opIndexAddr, opLoad, Nat.reduceLT, undef, Nat.reduceLeDiff, Array.toList, bin_fadd, bin_fsub, bin_fmul, bin_fquo, bin_feql, bin_fneq, bin_flss, bin_fleq, bin_fgtr, bin_fgeq, un_fneg, neqf_self, eqf_self, wk4, wk5, wk0, fxC03RealEdges, i4]
        refine isinf_ret hx ?_
        cases g : infB x with
        | true => simp only [Nat.reduceAdd, reduceIte, Nat.reduceEqDiff, reduceCtorEq, opLen, Int.reduceLT, Int.reduceEq, opConvert, opIndexAddr, opLoad, Nat.reduceLT, undef, Nat.reduceLeDiff, Array.toList, bin_fadd, bin_fsub, bin_fmul, bin_fquo, bin_feql, bin_fneq, bin_flss, bin_fleq, bin_fgtr, bin_fgeq, un_fneg, neqf_self, eqf_self, wk4, wk5, wk0, fxC03RealEdges]
        | false =>
          obtain ⟨w1, w2, w3, w4⟩ := word_zero true
          have dw := isn g _ s
          simp only [Nat.reduceAdd, reduceIte, Nat.reduceEqDiff, reduceCtorEq, opLen, Int.reduceLT, Int.reduceEq, opConvert, opIndexAddr, opLoad, Nat.reduceLT, undef, Nat.reduceLeDiff, Array.toList, bin_fadd, bin_fsub, bin_fmul, bin_fquo, bin_feql, bin_fneq, bin_flss, bin_fleq, bin_fgtr, bin_fgeq, un_fneg, neqf_self, eqf_self, wk4, wk5, wk0, fxC03RealEdges]
          refine div_ret ?_
          rw [dw]
          simp only [Nat.reduceAdd, reduceIte, Nat.reduceEqDiff, reduceCtorEq, opLen, Int.reduceLT, Int.reduceEq, opConvert, opIndexAddr, opLoad, Nat.reduceLT, undef, Nat.reduceLeDiff, Array.toList, bin_fadd, bin_fsub, bin_fmul, bin_fquo, bin_feql, bin_fneq, bin_flss, bin_fleq, bin_fgtr, bin_fgeq, un_fneg, neqf_self, eqf_self, wk4, wk5, wk0, fxC03RealEdges, w3]
          refine div_ret ?_
          rw [dw]
          simp only [Nat.reduceAdd, reduceIte, Nat.reduceEqDiff, reduceCtorEq, opLen, Int.reduceLT, Int.reduceEq, opConvert, opIndexAddr, opLoad, Nat.reduceLT, undef, Nat.reduceLeDiff, Array.toList, bin_fadd, bin_fsub, bin_fmul, bin_fquo, bin_feql, bin_fneq, bin_flss, bin_fleq, bin_fgtr, bin_fgeq, un_fneg, neqf_self, eqf_self, wk4, wk5, wk0, fxC03RealEdges]
          refine signbit_ret w1 ?_
          rw [w4]
          simp only [Nat.reduceAdd, reduceIte, Nat.reduceEqDiff, reduceCtorEq, opLen, Int.reduceLT, Int.reduceEq, opConvert, opIndexAddr, opLoad, Nat.reduceLT, undef, Nat.reduceLeDiff, Array.toList, bin_fadd, bin_fsub, bin_fmul, bin_fquo, bin_feql, bin_fneq, bin_flss, bin_fleq, bin_fgtr, bin_fgeq, un_fneg, neqf_self, eqf_self, wk4, wk5, wk0, fxC03RealEdges, nb1, nb2]
theorem realEdges_true {H : Type} {m : Mem} {xs : List Value} {ds : List (DataW H)} (hd : IsDs Try.prog 8 [22, 5] ds) (hl : LieAll Try.prog m [22, 5] ds xs) : Ret Try.prog 5 xs m fun v _ => v = .bool true := by
  obtain ⟨d0, dr, rfl, i0, hd⟩ := isDs_cons hd
  obtain ⟨d1, dr, rfl, i1, hd⟩ := isDs_cons hd
  obtain rfl := isDs_nil hd
  obtain ⟨v0, _, rfl, l0, v1, _, rfl, l1, rfl⟩ := hl
  obtain ⟨a, rfl, w1⟩ := lies_int (k := 7) Try.underlying22 i0 l0
  obtain ⟨b, rfl, w2⟩ := lies_int (k := 7) Try.underlying5 i1 l1
  exact realedges_ret (wf_u64 w1) (wf_u8 w2)
end Go.Proofs.Ytfhmfialnnhidaa
