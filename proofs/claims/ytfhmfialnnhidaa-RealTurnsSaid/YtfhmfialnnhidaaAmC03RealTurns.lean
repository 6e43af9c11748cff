/- A text of the abstract machine. -/

/- The law RealTurns, simp only [Nat.reduceAdd, reduceIte, Nat.reduceEqDiff, reduceCtorEq, opLen, Int.reduceLT, Int.reduceEq, opConvert, opIndexAddr, opLoad, Nat.reduceLT, undef, Nat.reduceLeDiff, Array.toList, bin_fadd, bin_fsub, bin_fmul, bin_fquo, bin_feql, bin_fneq, bin_flss, bin_fleq, bin_fgtr, bin_fgeq, un_fneg, neqf_self, eqf_self, wk4, wk5, wk0, fxC03RealTurns]ed. -/
import Derived.Test.YtfhmfialnnhidaaAmC03c
import Derived.Test.YtfhmfialnnhidaaAmBun
set_option linter.unusedSimpArgs false
set_option linter.unusedVariables false
set_option maxRecDepth 100000
set_option maxHeartbeats 4000000
namespace Go.Proofs.Ytfhmfialnnhidaa
open Go Go.AM Go.AM.Flt
theorem fxC03RealTurns : type_of% (And.intro (And.intro (And.intro (And.intro (And.intro @Try.underlying2 (And.intro @Try.underlying3 @Try.underlying4)) (And.intro (And.intro @Try.underlying5 @Try.underlying9) (And.intro @Try.underlying22 @Try.underlying24))) (And.intro (And.intro @Try.underlying27 (And.intro @Try.underlying28 @ts2)) (And.intro (And.intro @ts3 @ts4) (And.intro @ts5 @ts9)))) (And.intro (And.intro (And.intro @ts22 (And.intro @ts24 @ts27)) (And.intro (And.intro @ts28 @tz2) (And.intro @tz3 @tz4))) (And.intro (And.intro (And.intro @tz5 @tz9) (And.intro @tz22 @tz24)) (And.intro (And.intro @tz27 @tz28) (And.intro @tb2 @tb3))))) (And.intro (And.intro (And.intro (And.intro @tb4 (And.intro @tb5 @tb9)) (And.intro (And.intro @tb22 @tb24) (And.intro @tb27 @tb28))) (And.intro (And.intro @fr3 (And.intro @fr4 @fr5)) (And.intro (And.intro @fr6 @fr7) (And.intro @fr8 @fr9)))) (And.intro (And.intro (And.intro @fr10 (And.intro @fr11 @fr13)) (And.intro (And.intro @fr14 @fr15) (And.intro @fr16 @fr17))) (And.intro (And.intro (And.intro @fr18 @fr19) (And.intro @fr20 @fr21)) (And.intro (And.intro @fr23 @fr24) (And.intro @fr25 @fr26)))))) := (And.intro (And.intro (And.intro (And.intro (And.intro @Try.underlying2 (And.intro @Try.underlying3 @Try.underlying4)) (And.intro (And.intro @Try.underlying5 @Try.underlying9) (And.intro @Try.underlying22 @Try.underlying24))) (And.intro (And.intro @Try.underlying27 (And.intro @Try.underlying28 @ts2)) (And.intro (And.intro @ts3 @ts4) (And.intro @ts5 @ts9)))) (And.intro (And.intro (And.intro @ts22 (And.intro @ts24 @ts27)) (And.intro (And.intro @ts28 @tz2) (And.intro @tz3 @tz4))) (And.intro (And.intro (And.intro @tz5 @tz9) (And.intro @tz22 @tz24)) (And.intro (And.intro @tz27 @tz28) (And.intro @tb2 @tb3))))) (And.intro (And.intro (And.intro (And.intro @tb4 (And.intro @tb5 @tb9)) (And.intro (And.intro @tb22 @tb24) (And.intro @tb27 @tb28))) (And.intro (And.intro @fr3 (And.intro @fr4 @fr5)) (And.intro (And.intro @fr6 @fr7) (And.intro @fr8 @fr9)))) (And.intro (And.intro (And.intro @fr10 (And.intro @fr11 @fr13)) (And.intro (And.intro @fr14 @fr15) (And.intro @fr16 @fr17))) (And.intro (And.intro (And.intro @fr18 @fr19) (And.intro @fr20 @fr21)) (And.intro (And.intro @fr23 @fr24) (And.intro @fr25 @fr26))))))
theorem beqn (a : Bool) : binV Try.prog .neq 4 (.bool a) (.bool a) = some (.bool false) := by cases a <;> kernel_rfl
theorem div_one {x : Nat} (hn : nanX x = false) (hi : infB x = false) (hz : (F.order x 0 == some .eq) = false) : divX x x = 4607182418800017408 := by
  unfold divX
  cases read_kind x with
  | num m e h c r =>
    have hm : m ≠ 0 := by
      rintro rfl
      have : (F.order x 0 == some .eq) = true := by
        unfold Ieee.Format.order
        rw [h, zero_read]
        have z0 : ∀ s u, Ieee.signed s 0 u = 0 := fun s u => by
          cases s
          · rw [signed_pos]; simp
          · rw [signed_neg]; simp
        simp only [Ieee.Datum.order, z0]
        rw [cmp_int.2 rfl]
        rfl
      rw [this] at hz
      cases hz
    rw [div_self h hm]
    decide
  | inf h r =>
    unfold infB at hi
    rw [decide_eq_true r] at hi
    cases hi
  | nan f h r =>
    rw [(nan_iff64 x).2 r] at hn
    cases hn
theorem div_nan {x : Nat} (h : nanX x = true ∨ infB x = true ∨ (F.order x 0 == some .eq) = true) : divX x x = one := by
  have key : F.div x x = none := by
    cases read_kind x with
    | num m e hr c r =>
      rcases h with h | h | h
      · rw [nan_num c r] at h; cases h
      · unfold infB at h
        have h := of_decide_eq_true h
        rcases c with ⟨c1, c2⟩ | ⟨c1, c2, c3, c4⟩ <;> omega
      · have hm : m = 0 := by
          unfold Ieee.Format.order at h
          rw [hr, zero_read] at h
          simp only [Ieee.Datum.order, beq_iff_eq, Option.some.injEq, cmp_int] at h
          rw [signed_pos 0, Nat.zero_mul] at h
          have p := Nat.two_pow_pos (e - min e (-1074)).toNat
          cases hs : sgn x with
          | false =>
            rw [hs, signed_pos] at h
            have h : m * 2 ^ (e - min e (-1074)).toNat = 0 := by exact_mod_cast h
            rcases Nat.mul_eq_zero.1 h with h | h
            · exact h
            · omega
          | true =>
            rw [hs, signed_neg] at h
            have h : m * 2 ^ (e - min e (-1074)).toNat = 0 := by
              have : ((m * 2 ^ (e - min e (-1074)).toNat : Nat) : Int) = 0 := by
                have h' : -((m * 2 ^ (e - min e (-1074)).toNat : Nat) : Int) = ((0 : Nat) : Int) := h
                omega
              exact_mod_cast this
            rcases Nat.mul_eq_zero.1 h with h | h
            · exact h
            · omega
        subst hm
        exact div_self_zero hr
    | inf hr r => exact div_self_inf hr
    | nan f hr r => exact div_self_nan hr
  unfold divX
  rw [key]
  decide
theorem bin_neg {k : IntKind} {a : Int} : unV .neg (.int k a) = some (.int k (k.wrap (0 - a))) := rfl
theorem whole_bound (x : Nat) : -4611686018427387904 < wholeX x ∧ wholeX x < 4611686018427387904 := by
  unfold wholeX
  cases hn : nanX x with
  | true => rw [if_pos rfl]; decide
  | false =>
    rw [if_neg (by decide)]
    by_cases h1 : F.order x FAR = some .gt ∨ F.order x FAR = some .eq
    · rw [if_pos h1]; decide
    · rw [if_neg h1]
      by_cases h2 : F.order x NFAR = some .lt ∨ F.order x NFAR = some .eq
      · rw [if_pos h2]; decide
      · rw [if_neg h2]
        obtain ⟨mm, e, _, hf, hw⟩ := floatInt_some hn h1 h2
        rw [hf]
        have ha := signed_zero_abs (sgn x) (whole mm e)
        show -4611686018427387904 < Ieee.signed (sgn x) (whole mm e) 0 ∧ Ieee.signed (sgn x) (whole mm e) 0 < 4611686018427387904
        omega
theorem realturns_ret {m : Mem} {n k : Int} {e f : Int} (hn : 0 ≤ n ∧ n < 2 ^ 64) (hk : 0 ≤ k ∧ k < 2 ^ 64) (he : 0 ≤ e ∧ e < 256) (hf : 0 ≤ f ∧ f < 256) : Ret Try.prog 4 [.int .u64 n, .int .u64 k, .int .u8 e, .int .u8 f] m fun v _ => v = .bool true := by
  refine ret_wp [] Try.func4 rfl (by decide) (by kernel_rfl) ?_
  simp only [Nat.reduceAdd, reduceIte, Nat.reduceEqDiff, reduceCtorEq, opLen, Int.reduceLT, Int.reduceEq, opConvert, opIndexAddr, opLoad, Nat.reduceLT, undef, Nat.reduceLeDiff, Array.toList, bin_fadd, bin_fsub, bin_fmul, bin_fquo, bin_feql, bin_fneq, bin_flss, bin_fleq, bin_fgtr, bin_fgeq, un_fneg, neqf_self, eqf_self, wk4, wk5, wk0, fxC03RealTurns]
  refine awake_ret ?_
  simp only [Nat.reduceAdd, reduceIte, Nat.reduceEqDiff, reduceCtorEq, opLen, Int.reduceLT, Int.reduceEq, opConvert, opIndexAddr, opLoad, Nat.reduceLT, undef, Nat.reduceLeDiff, Array.toList, bin_fadd, bin_fsub, bin_fmul, bin_fquo, bin_feql, bin_fneq, bin_flss, bin_fleq, bin_fgtr, bin_fgeq, un_fneg, neqf_self, eqf_self, wk4, wk5, wk0, fxC03RealTurns]
  refine float_ret hn he fun x hx => ?_
  simp only [Nat.reduceAdd, reduceIte, Nat.reduceEqDiff, reduceCtorEq, opLen, Int.reduceLT, Int.reduceEq, opConvert, opIndexAddr, opLoad, Nat.reduceLT, undef, Nat.reduceLeDiff, Array.toList, bin_fadd, bin_fsub, bin_fmul, bin_fquo, bin_feql, bin_fneq, bin_flss, bin_fleq, bin_fgtr, bin_fgeq, un_fneg, neqf_self, eqf_self, wk4, wk5, wk0, fxC03RealTurns]
  refine float_ret hk hf fun y hy => ?_
  have ac : addX x y = addX y x := by unfold addX; rw [add_comm]
  have mc : mulX x y = mulX y x := by unfold mulX; rw [mul_comm]
  have sc : decide (tell y = tell x) = decide (tell x = tell y) := decide_eq_decide.2 eq_comm
  simp only [Nat.reduceAdd, reduceIte, Nat.reduceEqDiff, reduceCtorEq, opLen, Int.reduceLT, Int.reduceEq, opConvert, opIndexAddr, opLoad, Nat.reduceLT, undef, Nat.reduceLeDiff, Array.toList, bin_fadd, bin_fsub, bin_fmul, bin_fquo, bin_feql, bin_fneq, bin_flss, bin_fleq, bin_fgtr, bin_fgeq, un_fneg, neqf_self, eqf_self, wk4, wk5, wk0, fxC03RealTurns]
  refine add_ret ?_
  simp only [Nat.reduceAdd, reduceIte, Nat.reduceEqDiff, reduceCtorEq, opLen, Int.reduceLT, Int.reduceEq, opConvert, opIndexAddr, opLoad, Nat.reduceLT, undef, Nat.reduceLeDiff, Array.toList, bin_fadd, bin_fsub, bin_fmul, bin_fquo, bin_feql, bin_fneq, bin_flss, bin_fleq, bin_fgtr, bin_fgeq, un_fneg, neqf_self, eqf_self, wk4, wk5, wk0, fxC03RealTurns]
  refine add_ret ?_
  rw [ac]
  simp only [Nat.reduceAdd, reduceIte, Nat.reduceEqDiff, reduceCtorEq, opLen, Int.reduceLT, Int.reduceEq, opConvert, opIndexAddr, opLoad, Nat.reduceLT, undef, Nat.reduceLeDiff, Array.toList, bin_fadd, bin_fsub, bin_fmul, bin_fquo, bin_feql, bin_fneq, bin_flss, bin_fleq, bin_fgtr, bin_fgeq, un_fneg, neqf_self, eqf_self, wk4, wk5, wk0, fxC03RealTurns]
  refine same_ret ?_
  rw [decide_eq_true (rfl : tell (addX y x) = tell (addX y x))]
  simp only [Nat.reduceAdd, reduceIte, Nat.reduceEqDiff, reduceCtorEq, opLen, Int.reduceLT, Int.reduceEq, opConvert, opIndexAddr, opLoad, Nat.reduceLT, undef, Nat.reduceLeDiff, Array.toList, bin_fadd, bin_fsub, bin_fmul, bin_fquo, bin_feql, bin_fneq, bin_flss, bin_fleq, bin_fgtr, bin_fgeq, un_fneg, neqf_self, eqf_self, wk4, wk5, wk0, fxC03RealTurns]
  refine mul_ret ?_
  simp only [Nat.reduceAdd, reduceIte, Nat.reduceEqDiff, reduceCtorEq, opLen, Int.reduceLT, Int.reduceEq, opConvert, opIndexAddr, opLoad, Nat.reduceLT, undef, Nat.reduceLeDiff, Array.toList, bin_fadd, bin_fsub, bin_fmul, bin_fquo, bin_feql, bin_fneq, bin_flss, bin_fleq, bin_fgtr, bin_fgeq, un_fneg, neqf_self, eqf_self, wk4, wk5, wk0, fxC03RealTurns]
  refine mul_ret ?_
  rw [mc]
  simp only [Nat.reduceAdd, reduceIte, Nat.reduceEqDiff, reduceCtorEq, opLen, Int.reduceLT, Int.reduceEq, opConvert, opIndexAddr, opLoad, Nat.reduceLT, undef, Nat.reduceLeDiff, Array.toList, bin_fadd, bin_fsub, bin_fmul, bin_fquo, bin_feql, bin_fneq, bin_flss, bin_fleq, bin_fgtr, bin_fgeq, un_fneg, neqf_self, eqf_self, wk4, wk5, wk0, fxC03RealTurns]
  refine same_ret ?_
  rw [decide_eq_true (rfl : tell (mulX y x) = tell (mulX y x))]
  simp only [Nat.reduceAdd, reduceIte, Nat.reduceEqDiff, reduceCtorEq, opLen, Int.reduceLT, Int.reduceEq, opConvert, opIndexAddr, opLoad, Nat.reduceLT, undef, Nat.reduceLeDiff, Array.toList, bin_fadd, bin_fsub, bin_fmul, bin_fquo, bin_feql, bin_fneq, bin_flss, bin_fleq, bin_fgtr, bin_fgeq, un_fneg, neqf_self, eqf_self, wk4, wk5, wk0, fxC03RealTurns]
  refine same_ret ?_
  simp only [Nat.reduceAdd, reduceIte, Nat.reduceEqDiff, reduceCtorEq, opLen, Int.reduceLT, Int.reduceEq, opConvert, opIndexAddr, opLoad, Nat.reduceLT, undef, Nat.reduceLeDiff, Array.toList, bin_fadd, bin_fsub, bin_fmul, bin_fquo, bin_feql, bin_fneq, bin_flss, bin_fleq, bin_fgtr, bin_fgeq, un_fneg, neqf_self, eqf_self, wk4, wk5, wk0, fxC03RealTurns]
  refine same_ret ?_
  rw [sc]
  simp only [Nat.reduceAdd, reduceIte, Nat.reduceEqDiff, reduceCtorEq, opLen, Int.reduceLT, Int.reduceEq, opConvert, opIndexAddr, opLoad, Nat.reduceLT, undef, Nat.reduceLeDiff, Array.toList, bin_fadd, bin_fsub, bin_fmul, bin_fquo, bin_feql, bin_fneq, bin_flss, bin_fleq, bin_fgtr, bin_fgeq, un_fneg, neqf_self, eqf_self, wk4, wk5, wk0, fxC03RealTurns, beqn]
  have bad : nanX x = true ∨ infB x = true ∨ (F.order x 0 == some .eq) = true → nanX (divX x x) = true := fun h => by rw [div_nan h]; exact one_nan
  cases h : nanX x with
  | true =>
    have dn := bad (.inl h)
    simp only [Nat.reduceAdd, reduceIte, Nat.reduceEqDiff, reduceCtorEq, opLen, Int.reduceLT, Int.reduceEq, opConvert, opIndexAddr, opLoad, Nat.reduceLT, undef, Nat.reduceLeDiff, Array.toList, bin_fadd, bin_fsub, bin_fmul, bin_fquo, bin_feql, bin_fneq, bin_flss, bin_fleq, bin_fgtr, bin_fgeq, un_fneg, neqf_self, eqf_self, wk4, wk5, wk0, fxC03RealTurns, h]
    refine div_ret ?_
    simp only [Nat.reduceAdd, reduceIte, Nat.reduceEqDiff, reduceCtorEq, opLen, Int.reduceLT, Int.reduceEq, opConvert, opIndexAddr, opLoad, Nat.reduceLT, undef, Nat.reduceLeDiff, Array.toList, bin_fadd, bin_fsub, bin_fmul, bin_fquo, bin_feql, bin_fneq, bin_flss, bin_fleq, bin_fgtr, bin_fgeq, un_fneg, neqf_self, eqf_self, wk4, wk5, wk0, fxC03RealTurns]
    refine div_ret ?_
    simp only [Nat.reduceAdd, reduceIte, Nat.reduceEqDiff, reduceCtorEq, opLen, Int.reduceLT, Int.reduceEq, opConvert, opIndexAddr, opLoad, Nat.reduceLT, undef, Nat.reduceLeDiff, Array.toList, bin_fadd, bin_fsub, bin_fmul, bin_fquo, bin_feql, bin_fneq, bin_flss, bin_fleq, bin_fgtr, bin_fgeq, un_fneg, neqf_self, eqf_self, wk4, wk5, wk0, fxC03RealTurns, dn]
  | false =>
    simp only [Nat.reduceAdd, reduceIte, Nat.reduceEqDiff, reduceCtorEq, opLen, Int.reduceLT, Int.reduceEq, opConvert, opIndexAddr, opLoad, Nat.reduceLT, undef, Nat.reduceLeDiff, Array.toList, bin_fadd, bin_fsub, bin_fmul, bin_fquo, bin_feql, bin_fneq, bin_flss, bin_fleq, bin_fgtr, bin_fgeq, un_fneg, neqf_self, eqf_self, wk4, wk5, wk0, fxC03RealTurns, h]
    refine isinf_ret hx ?_
    cases g : infB x with
    | true =>
      have dn := bad (.inr (.inl g))
      simp only [Nat.reduceAdd, reduceIte, Nat.reduceEqDiff, reduceCtorEq, opLen, Int.reduceLT, Int.reduceEq, opConvert, opIndexAddr, opLoad, Nat.reduceLT, undef, Nat.reduceLeDiff, Array.toList, bin_fadd, bin_fsub, bin_fmul, bin_fquo, bin_feql, bin_fneq, bin_flss, bin_fleq, bin_fgtr, bin_fgeq, un_fneg, neqf_self, eqf_self, wk4, wk5, wk0, fxC03RealTurns]
      refine div_ret ?_
      simp only [Nat.reduceAdd, reduceIte, Nat.reduceEqDiff, reduceCtorEq, opLen, Int.reduceLT, Int.reduceEq, opConvert, opIndexAddr, opLoad, Nat.reduceLT, undef, Nat.reduceLeDiff, Array.toList, bin_fadd, bin_fsub, bin_fmul, bin_fquo, bin_feql, bin_fneq, bin_flss, bin_fleq, bin_fgtr, bin_fgeq, un_fneg, neqf_self, eqf_self, wk4, wk5, wk0, fxC03RealTurns]
      refine div_ret ?_
      simp only [Nat.reduceAdd, reduceIte, Nat.reduceEqDiff, reduceCtorEq, opLen, Int.reduceLT, Int.reduceEq, opConvert, opIndexAddr, opLoad, Nat.reduceLT, undef, Nat.reduceLeDiff, Array.toList, bin_fadd, bin_fsub, bin_fmul, bin_fquo, bin_feql, bin_fneq, bin_flss, bin_fleq, bin_fgtr, bin_fgeq, un_fneg, neqf_self, eqf_self, wk4, wk5, wk0, fxC03RealTurns, dn]
    | false =>
      cases o : (F.order x 0 == some .eq) with
      | true =>
        have dn := bad (.inr (.inr o))
        simp only [Nat.reduceAdd, reduceIte, Nat.reduceEqDiff, reduceCtorEq, opLen, Int.reduceLT, Int.reduceEq, opConvert, opIndexAddr, opLoad, Nat.reduceLT, undef, Nat.reduceLeDiff, Array.toList, bin_fadd, bin_fsub, bin_fmul, bin_fquo, bin_feql, bin_fneq, bin_flss, bin_fleq, bin_fgtr, bin_fgeq, un_fneg, neqf_self, eqf_self, wk4, wk5, wk0, fxC03RealTurns, o]
        refine div_ret ?_
        simp only [Nat.reduceAdd, reduceIte, Nat.reduceEqDiff, reduceCtorEq, opLen, Int.reduceLT, Int.reduceEq, opConvert, opIndexAddr, opLoad, Nat.reduceLT, undef, Nat.reduceLeDiff, Array.toList, bin_fadd, bin_fsub, bin_fmul, bin_fquo, bin_feql, bin_fneq, bin_flss, bin_fleq, bin_fgtr, bin_fgeq, un_fneg, neqf_self, eqf_self, wk4, wk5, wk0, fxC03RealTurns]
        refine div_ret ?_
        simp only [Nat.reduceAdd, reduceIte, Nat.reduceEqDiff, reduceCtorEq, opLen, Int.reduceLT, Int.reduceEq, opConvert, opIndexAddr, opLoad, Nat.reduceLT, undef, Nat.reduceLeDiff, Array.toList, bin_fadd, bin_fsub, bin_fmul, bin_fquo, bin_feql, bin_fneq, bin_flss, bin_fleq, bin_fgtr, bin_fgeq, un_fneg, neqf_self, eqf_self, wk4, wk5, wk0, fxC03RealTurns, dn]
      | false =>
        simp only [Nat.reduceAdd, reduceIte, Nat.reduceEqDiff, reduceCtorEq, opLen, Int.reduceLT, Int.reduceEq, opConvert, opIndexAddr, opLoad, Nat.reduceLT, undef, Nat.reduceLeDiff, Array.toList, bin_fadd, bin_fsub, bin_fmul, bin_fquo, bin_feql, bin_fneq, bin_flss, bin_fleq, bin_fgtr, bin_fgeq, un_fneg, neqf_self, eqf_self, wk4, wk5, wk0, fxC03RealTurns, o]
        refine div_ret ?_
        have d1 : (F.order (divX x x) 4607182418800017408 == some .eq) = true := by rw [div_one h g o]; decide
        have nx : ¬ x = lax := lt_lax hx
        have ny : ¬ y = lax := lt_lax hy
        simp only [Nat.reduceAdd, reduceIte, Nat.reduceEqDiff, reduceCtorEq, opLen, Int.reduceLT, Int.reduceEq, opConvert, opIndexAddr, opLoad, Nat.reduceLT, undef, Nat.reduceLeDiff, Array.toList, bin_fadd, bin_fsub, bin_fmul, bin_fquo, bin_feql, bin_fneq, bin_flss, bin_fleq, bin_fgtr, bin_fgeq, un_fneg, neqf_self, eqf_self, wk4, wk5, wk0, fxC03RealTurns, d1, nx]
        refine mul_ret ?_
        simp only [Nat.reduceAdd, reduceIte, Nat.reduceEqDiff, reduceCtorEq, opLen, Int.reduceLT, Int.reduceEq, opConvert, opIndexAddr, opLoad, Nat.reduceLT, undef, Nat.reduceLeDiff, Array.toList, bin_fadd, bin_fsub, bin_fmul, bin_fquo, bin_feql, bin_fneq, bin_flss, bin_fleq, bin_fgtr, bin_fgeq, un_fneg, neqf_self, eqf_self, wk4, wk5, wk0, fxC03RealTurns, ny]
        refine mul_ret ?_
        have mn : mulX (neg x) y = mulX x (neg y) := by unfold mulX; rw [mul_neg]
        rw [mn]
        simp only [Nat.reduceAdd, reduceIte, Nat.reduceEqDiff, reduceCtorEq, opLen, Int.reduceLT, Int.reduceEq, opConvert, opIndexAddr, opLoad, Nat.reduceLT, undef, Nat.reduceLeDiff, Array.toList, bin_fadd, bin_fsub, bin_fmul, bin_fquo, bin_feql, bin_fneq, bin_flss, bin_fleq, bin_fgtr, bin_fgeq, un_fneg, neqf_self, eqf_self, wk4, wk5, wk0, fxC03RealTurns]
        refine same_ret ?_
        rw [decide_eq_true (rfl : tell (mulX x (neg y)) = tell (mulX x (neg y)))]
        simp only [Nat.reduceAdd, reduceIte, Nat.reduceEqDiff, reduceCtorEq, opLen, Int.reduceLT, Int.reduceEq, opConvert, opIndexAddr, opLoad, Nat.reduceLT, undef, Nat.reduceLeDiff, Array.toList, bin_fadd, bin_fsub, bin_fmul, bin_fquo, bin_feql, bin_fneq, bin_flss, bin_fleq, bin_fgtr, bin_fgeq, un_fneg, neqf_self, eqf_self, wk4, wk5, wk0, fxC03RealTurns, nx]
        refine whole_ret ?_
        simp only [Nat.reduceAdd, reduceIte, Nat.reduceEqDiff, reduceCtorEq, opLen, Int.reduceLT, Int.reduceEq, opConvert, opIndexAddr, opLoad, Nat.reduceLT, undef, Nat.reduceLeDiff, Array.toList, bin_fadd, bin_fsub, bin_fmul, bin_fquo, bin_feql, bin_fneq, bin_flss, bin_fleq, bin_fgtr, bin_fgeq, un_fneg, neqf_self, eqf_self, wk4, wk5, wk0, fxC03RealTurns]
        refine whole_ret ?_
        have wb := whole_bound x
        have ww : IntKind.i64.wrap (0 - wholeX x) = -wholeX x := by rw [wrap_i64 (by omega) (by omega)]; omega
        have wn : decide (wholeX (neg x) = -wholeX x) = true := decide_eq_true (whole_neg x)
        simp only [Nat.reduceAdd, reduceIte, Nat.reduceEqDiff, reduceCtorEq, opLen, Int.reduceLT, Int.reduceEq, opConvert, opIndexAddr, opLoad, Nat.reduceLT, undef, Nat.reduceLeDiff, Array.toList, bin_fadd, bin_fsub, bin_fmul, bin_fquo, bin_feql, bin_fneq, bin_flss, bin_fleq, bin_fgtr, bin_fgeq, un_fneg, neqf_self, eqf_self, wk4, wk5, wk0, fxC03RealTurns, bin_neg, ww, wn]
theorem realTurns_true {H : Type} {m : Mem} {xs : List Value} {ds : List (DataW H)} (hd : IsDs Try.prog 8 [22, 22, 5, 5] ds) (hl : LieAll Try.prog m [22, 22, 5, 5] ds xs) : Ret Try.prog 4 xs m fun v _ => v = .bool true := by
  obtain ⟨d0, dr, rfl, i0, hd⟩ := isDs_cons hd
  obtain ⟨d1, dr, rfl, i1, hd⟩ := isDs_cons hd
  obtain ⟨d2, dr, rfl, i2, hd⟩ := isDs_cons hd
  obtain ⟨d3, dr, rfl, i3, hd⟩ := isDs_cons hd
  obtain rfl := isDs_nil hd
  obtain ⟨v0, _, rfl, l0, v1, _, rfl, l1, v2, _, rfl, l2, v3, _, rfl, l3, rfl⟩ := hl
  obtain ⟨a, rfl, w1⟩ := lies_int (k := 7) Try.underlying22 i0 l0
  obtain ⟨b, rfl, w2⟩ := lies_int (k := 7) Try.underlying22 i1 l1
  obtain ⟨c, rfl, w3⟩ := lies_int (k := 7) Try.underlying5 i2 l2
  obtain ⟨d, rfl, w4⟩ := lies_int (k := 7) Try.underlying5 i3 l3
  exact realturns_ret (wf_u64 w1) (wf_u64 w2) (wf_u8 w3) (wf_u8 w4)
end Go.Proofs.Ytfhmfialnnhidaa
