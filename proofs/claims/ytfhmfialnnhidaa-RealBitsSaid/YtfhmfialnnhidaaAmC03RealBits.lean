/- A text of the abstract machine. -/

/- The law RealBits, simp only [Nat.reduceAdd, reduceIte, Nat.reduceEqDiff, reduceCtorEq, opLen, Int.reduceLT, Int.reduceEq, opConvert, opIndexAddr, opLoad, Nat.reduceLT, undef, Nat.reduceLeDiff, Array.toList, bin_fadd, bin_fsub, bin_fmul, bin_fquo, bin_feql, bin_fneq, bin_flss, bin_fleq, bin_fgtr, bin_fgeq, un_fneg, neqf_self, eqf_self, wk4, wk5, wk0, fxC03RealBits]ed. -/
import Derived.Test.YtfhmfialnnhidaaAmC03c
import Derived.Test.YtfhmfialnnhidaaAmBun
set_option linter.unusedSimpArgs false
set_option linter.unusedVariables false
set_option maxRecDepth 100000
set_option maxHeartbeats 4000000
namespace Go.Proofs.Ytfhmfialnnhidaa
open Go Go.AM Go.AM.Flt
theorem fxC03RealBits : type_of% (And.intro (And.intro (And.intro (And.intro (And.intro @Try.underlying2 (And.intro @Try.underlying3 @Try.underlying4)) (And.intro (And.intro @Try.underlying5 @Try.underlying9) (And.intro @Try.underlying22 @Try.underlying24))) (And.intro (And.intro @Try.underlying27 (And.intro @Try.underlying28 @ts2)) (And.intro (And.intro @ts3 @ts4) (And.intro @ts5 @ts9)))) (And.intro (And.intro (And.intro @ts22 (And.intro @ts24 @ts27)) (And.intro (And.intro @ts28 @tz2) (And.intro @tz3 @tz4))) (And.intro (And.intro (And.intro @tz5 @tz9) (And.intro @tz22 @tz24)) (And.intro (And.intro @tz27 @tz28) (And.intro @tb2 @tb3))))) (And.intro (And.intro (And.intro (And.intro @tb4 (And.intro @tb5 @tb9)) (And.intro (And.intro @tb22 @tb24) (And.intro @tb27 @tb28))) (And.intro (And.intro @fr3 (And.intro @fr4 @fr5)) (And.intro (And.intro @fr6 @fr7) (And.intro @fr8 @fr9)))) (And.intro (And.intro (And.intro @fr10 (And.intro @fr11 @fr13)) (And.intro (And.intro @fr14 @fr15) (And.intro @fr16 @fr17))) (And.intro (And.intro (And.intro @fr18 @fr19) (And.intro @fr20 @fr21)) (And.intro (And.intro @fr23 @fr24) (And.intro @fr25 @fr26)))))) := (And.intro (And.intro (And.intro (And.intro (And.intro @Try.underlying2 (And.intro @Try.underlying3 @Try.underlying4)) (And.intro (And.intro @Try.underlying5 @Try.underlying9) (And.intro @Try.underlying22 @Try.underlying24))) (And.intro (And.intro @Try.underlying27 (And.intro @Try.underlying28 @ts2)) (And.intro (And.intro @ts3 @ts4) (And.intro @ts5 @ts9)))) (And.intro (And.intro (And.intro @ts22 (And.intro @ts24 @ts27)) (And.intro (And.intro @ts28 @tz2) (And.intro @tz3 @tz4))) (And.intro (And.intro (And.intro @tz5 @tz9) (And.intro @tz22 @tz24)) (And.intro (And.intro @tz27 @tz28) (And.intro @tb2 @tb3))))) (And.intro (And.intro (And.intro (And.intro @tb4 (And.intro @tb5 @tb9)) (And.intro (And.intro @tb22 @tb24) (And.intro @tb27 @tb28))) (And.intro (And.intro @fr3 (And.intro @fr4 @fr5)) (And.intro (And.intro @fr6 @fr7) (And.intro @fr8 @fr9)))) (And.intro (And.intro (And.intro @fr10 (And.intro @fr11 @fr13)) (And.intro (And.intro @fr14 @fr15) (And.intro @fr16 @fr17))) (And.intro (And.intro (And.intro @fr18 @fr19) (And.intro @fr20 @fr21)) (And.intro (And.intro @fr23 @fr24) (And.intro @fr25 @fr26))))))
theorem tell_tell (x : Nat) : tell (tell x) = tell x := by
  cases h : nanX x with
  | true => rw [tell_nan h]; decide
  | false => rw [tell_num h, tell_num h]
/-- Two floats that are told as the same. -/
theorem tell_same {x y : Nat} (hx : x < 2 ^ 64) (hy : y < 2 ^ 64) : decide (tell x = tell y) = (nanX x && nanX y || (!nanX x && (F.order x y == some .eq && (sgn x == sgn y)))) := by
  have one_is : (9221120237041090560 : Nat) = one := by decide
  cases h : nanX x with
  | true =>
    cases g : nanX y with
    | true => rw [tell_nan h, tell_nan g]; rfl
    | false =>
      rw [tell_nan h, tell_num g]
      refine decide_eq_false fun e => ?_
      rw [← e, one_is, one_nan] at g
      cases g
  | false =>
    cases g : nanX y with
    | true =>
      rw [tell_num h, tell_nan g]
      have n1 : F.order x y = none := by
        have := order_nan_r (d := F.read x) (e := F.read y) g
        unfold Ieee.Format.order
        exact this
      rw [n1]
      refine decide_eq_false fun e => ?_
      rw [e, one_is, one_nan] at h
      cases h
    | false =>
      rw [tell_num h, tell_num g]
      have := order_bits_iff hx hy h
      rw [Bool.eq_iff_iff]
      simp only [decide_eq_true_eq, Bool.false_and, Bool.false_or, Bool.not_false, Bool.true_and, Bool.and_eq_true, beq_iff_eq]
      exact this.symm
theorem beqb (a : Bool) : binV Try.prog .eql 4 (.bool a) (.bool a) = some (.bool true) := by cases a <;> kernel_rfl
theorem realbits_ret {m : Mem} {n k : Int} {e f : Int} (hn : 0 ≤ n ∧ n < 2 ^ 64) (hk : 0 ≤ k ∧ k < 2 ^ 64) (he : 0 ≤ e ∧ e < 256) (hf : 0 ≤ f ∧ f < 256) : Ret Try.prog 6 [.int .u64 n, .int .u64 k, .int .u8 e, .int .u8 f] m fun v _ => v = .bool true := by
  obtain ⟨N, rfl⟩ : ∃ N : Nat, n = N := ⟨n.toNat, by omega⟩
  have hN : N < 2 ^ 64 := by omega
  refine ret_wp [] Try.func6 rfl (by decide) (by kernel_rfl) ?_
  simp only [Nat.reduceAdd, reduceIte, Nat.reduceEqDiff, reduceCtorEq, opLen, Int.reduceLT, Int.reduceEq, opConvert, opIndexAddr, opLoad, Nat.reduceLT, undef, Nat.reduceLeDiff, Array.toList, bin_fadd, bin_fsub, bin_fmul, bin_fquo, bin_feql, bin_fneq, bin_flss, bin_fleq, bin_fgtr, bin_fgeq, un_fneg, neqf_self, eqf_self, wk4, wk5, wk0, fxC03RealBits]
  refine awake_ret ?_
  simp only [Nat.reduceAdd, reduceIte, Nat.reduceEqDiff, reduceCtorEq, opLen, Int.reduceLT, Int.reduceEq, opConvert, opIndexAddr, opLoad, Nat.reduceLT, undef, Nat.reduceLeDiff, Array.toList, bin_fadd, bin_fsub, bin_fmul, bin_fquo, bin_feql, bin_fneq, bin_flss, bin_fleq, bin_fgtr, bin_fgeq, un_fneg, neqf_self, eqf_self, wk4, wk5, wk0, fxC03RealBits]
  refine float_ret hn he fun x hx => ?_
  simp only [Nat.reduceAdd, reduceIte, Nat.reduceEqDiff, reduceCtorEq, opLen, Int.reduceLT, Int.reduceEq, opConvert, opIndexAddr, opLoad, Nat.reduceLT, undef, Nat.reduceLeDiff, Array.toList, bin_fadd, bin_fsub, bin_fmul, bin_fquo, bin_feql, bin_fneq, bin_flss, bin_fleq, bin_fgtr, bin_fgeq, un_fneg, neqf_self, eqf_self, wk4, wk5, wk0, fxC03RealBits]
  refine float_ret hk hf fun y hy => ?_
  simp only [Nat.reduceAdd, reduceIte, Nat.reduceEqDiff, reduceCtorEq, opLen, Int.reduceLT, Int.reduceEq, opConvert, opIndexAddr, opLoad, Nat.reduceLT, undef, Nat.reduceLeDiff, Array.toList, bin_fadd, bin_fsub, bin_fmul, bin_fquo, bin_feql, bin_fneq, bin_flss, bin_fleq, bin_fgtr, bin_fgeq, un_fneg, neqf_self, eqf_self, wk4, wk5, wk0, fxC03RealBits]
  refine bits_ret ?_
  simp only [Nat.reduceAdd, reduceIte, Nat.reduceEqDiff, reduceCtorEq, opLen, Int.reduceLT, Int.reduceEq, opConvert, opIndexAddr, opLoad, Nat.reduceLT, undef, Nat.reduceLeDiff, Array.toList, bin_fadd, bin_fsub, bin_fmul, bin_fquo, bin_feql, bin_fneq, bin_flss, bin_fleq, bin_fgtr, bin_fgeq, un_fneg, neqf_self, eqf_self, wk4, wk5, wk0, fxC03RealBits]
  refine of_ret ?_
  simp only [Nat.reduceAdd, reduceIte, Nat.reduceEqDiff, reduceCtorEq, opLen, Int.reduceLT, Int.reduceEq, opConvert, opIndexAddr, opLoad, Nat.reduceLT, undef, Nat.reduceLeDiff, Array.toList, bin_fadd, bin_fsub, bin_fmul, bin_fquo, bin_feql, bin_fneq, bin_flss, bin_fleq, bin_fgtr, bin_fgeq, un_fneg, neqf_self, eqf_self, wk4, wk5, wk0, fxC03RealBits]
  refine of_ret ?_
  simp only [Nat.reduceAdd, reduceIte, Nat.reduceEqDiff, reduceCtorEq, opLen, Int.reduceLT, Int.reduceEq, opConvert, opIndexAddr, opLoad, Nat.reduceLT, undef, Nat.reduceLeDiff, Array.toList, bin_fadd, bin_fsub, bin_fmul, bin_fquo, bin_feql, bin_fneq, bin_flss, bin_fleq, bin_fgtr, bin_fgeq, un_fneg, neqf_self, eqf_self, wk4, wk5, wk0, fxC03RealBits]
  refine from22_ret ?_
  rw [Int.toNat_natCast]
  have ts := tell_same hx hy
  have tt := tell_tell x
  have dxx : decide ((tell x : Int) = (tell x : Int)) = true := decide_eq_true rfl
  have dyy : decide (tell x = tell x) = true := decide_eq_true rfl
  have dww : decide (wholeX x = wholeX x) = true := decide_eq_true rfl
  have tt1 : decide (tell (tell x) = tell x) = true := decide_eq_true tt
  obtain ⟨bN, hbN⟩ : ∃ b, b = nanX N := ⟨_, rfl⟩
  have nN := hbN.symm
  obtain ⟨cN, hcN⟩ : ∃ b, b = decide ((N : Int) = 9221120237041090560) := ⟨_, rfl⟩
  have dN := hcN.symm
  have wN : decide (tell N = N) = (!bN || cN) := by
    rw [hbN, hcN]
    cases h : nanX N with
    | true =>
      rw [tell_nan h]
      simp only [Bool.not_true, Bool.false_or]
      exact decide_eq_decide.2 (by omega)
    | false =>
      rw [tell_num h]
      simp
  clear hbN hcN
  cases h : nanX x with
  | true =>
    cases g : nanX y with
    | true =>
      rw [h, g] at ts
      have ts : decide (tell x = tell y) = true := ts
      simp only [Nat.reduceAdd, reduceIte, Nat.reduceEqDiff, reduceCtorEq, opLen, Int.reduceLT, Int.reduceEq, opConvert, opIndexAddr, opLoad, Nat.reduceLT, undef, Nat.reduceLeDiff, Array.toList, bin_fadd, bin_fsub, bin_fmul, bin_fquo, bin_feql, bin_fneq, bin_flss, bin_fleq, bin_fgtr, bin_fgeq, un_fneg, neqf_self, eqf_self, wk4, wk5, wk0, fxC03RealBits, h, g]
      cases bN with
      | true =>
        cases cN with
        | true =>
          have wN : decide (tell N = N) = true := wN
          refine bits_ret ?_
          simp only [Nat.reduceAdd, reduceIte, Nat.reduceEqDiff, reduceCtorEq, opLen, Int.reduceLT, Int.reduceEq, opConvert, opIndexAddr, opLoad, Nat.reduceLT, undef, Nat.reduceLeDiff, Array.toList, bin_fadd, bin_fsub, bin_fmul, bin_fquo, bin_feql, bin_fneq, bin_flss, bin_fleq, bin_fgtr, bin_fgeq, un_fneg, neqf_self, eqf_self, wk4, wk5, wk0, fxC03RealBits, dxx]
          refine refbits_ret ?_
          simp only [Nat.reduceAdd, reduceIte, Nat.reduceEqDiff, reduceCtorEq, opLen, Int.reduceLT, Int.reduceEq, opConvert, opIndexAddr, opLoad, Nat.reduceLT, undef, Nat.reduceLeDiff, Array.toList, bin_fadd, bin_fsub, bin_fmul, bin_fquo, bin_feql, bin_fneq, bin_flss, bin_fleq, bin_fgtr, bin_fgeq, un_fneg, neqf_self, eqf_self, wk4, wk5, wk0, fxC03RealBits, dxx, tt1]
          refine same_ret ?_
          rw [tt]
          simp only [Nat.reduceAdd, reduceIte, Nat.reduceEqDiff, reduceCtorEq, opLen, Int.reduceLT, Int.reduceEq, opConvert, opIndexAddr, opLoad, Nat.reduceLT, undef, Nat.reduceLeDiff, Array.toList, bin_fadd, bin_fsub, bin_fmul, bin_fquo, bin_feql, bin_fneq, bin_flss, bin_fleq, bin_fgtr, bin_fgeq, un_fneg, neqf_self, eqf_self, wk4, wk5, optV_some, guardV_true, guardV_false, condV_true, condV_false, wpc_skip, wpc_label, wpc_exit, wpc_ret, wpc_region, wpc_seq, wpc_cond, wpc_block, wpc_scope, wpc_loop, wpo_nil, wpo_cons, wps_open, put_get, put_none, keep_some, bin_add, bin_sub, bin_mul, bin_quo, bin_rem, bin_and, bin_or, bin_xor, bin_shl, bin_shr, bin_lss, bin_leq, bin_gtr, bin_geq, bin_eql, bin_neq, bin_seql, un_neg, un_xor, un_not, oneOf_one, fxC03RealBits, dyy, nN, dN, wN, beqb]
          refine same_ret ?_
          rw [ts]
          simp only [Nat.reduceAdd, reduceIte, Nat.reduceEqDiff, reduceCtorEq, opLen, Int.reduceLT, Int.reduceEq, opConvert, opIndexAddr, opLoad, Nat.reduceLT, undef, Nat.reduceLeDiff, Array.toList, bin_fadd, bin_fsub, bin_fmul, bin_fquo, bin_feql, bin_fneq, bin_flss, bin_fleq, bin_fgtr, bin_fgeq, un_fneg, neqf_self, eqf_self, wk4, wk5, optV_some, guardV_true, guardV_false, condV_true, condV_false, wpc_skip, wpc_label, wpc_exit, wpc_ret, wpc_region, wpc_seq, wpc_cond, wpc_block, wpc_scope, wpc_loop, wpo_nil, wpo_cons, wps_open, put_get, put_none, keep_some, bin_add, bin_sub, bin_mul, bin_quo, bin_rem, bin_and, bin_or, bin_xor, bin_shl, bin_shr, bin_lss, bin_leq, bin_gtr, bin_geq, bin_eql, bin_neq, bin_seql, un_neg, un_xor, un_not, oneOf_one, fxC03RealBits, beqb]
          refine whole_ret ?_
          simp only [Nat.reduceAdd, reduceIte, Nat.reduceEqDiff, reduceCtorEq, opLen, Int.reduceLT, Int.reduceEq, opConvert, opIndexAddr, opLoad, Nat.reduceLT, undef, Nat.reduceLeDiff, Array.toList, bin_fadd, bin_fsub, bin_fmul, bin_fquo, bin_feql, bin_fneq, bin_flss, bin_fleq, bin_fgtr, bin_fgeq, un_fneg, neqf_self, eqf_self, wk4, wk5, wk0, fxC03RealBits]
          refine refwhole_ret ?_
          simp only [Nat.reduceAdd, reduceIte, Nat.reduceEqDiff, reduceCtorEq, opLen, Int.reduceLT, Int.reduceEq, opConvert, opIndexAddr, opLoad, Nat.reduceLT, undef, Nat.reduceLeDiff, Array.toList, bin_fadd, bin_fsub, bin_fmul, bin_fquo, bin_feql, bin_fneq, bin_flss, bin_fleq, bin_fgtr, bin_fgeq, un_fneg, neqf_self, eqf_self, wk4, wk5, wk0, fxC03RealBits, dww]
        | false =>
          have wN : decide (tell N = N) = false := wN
          refine bits_ret ?_
          simp only [Nat.reduceAdd, reduceIte, Nat.reduceEqDiff, reduceCtorEq, opLen, Int.reduceLT, Int.reduceEq, opConvert, opIndexAddr, opLoad, Nat.reduceLT, undef, Nat.reduceLeDiff, Array.toList, bin_fadd, bin_fsub, bin_fmul, bin_fquo, bin_feql, bin_fneq, bin_flss, bin_fleq, bin_fgtr, bin_fgeq, un_fneg, neqf_self, eqf_self, wk4, wk5, wk0, fxC03RealBits, dxx]
          refine refbits_ret ?_
          simp only [Nat.reduceAdd, reduceIte, Nat.reduceEqDiff, reduceCtorEq, opLen, Int.reduceLT, Int.reduceEq, opConvert, opIndexAddr, opLoad, Nat.reduceLT, undef, Nat.reduceLeDiff, Array.toList, bin_fadd, bin_fsub, bin_fmul, bin_fquo, bin_feql, bin_fneq, bin_flss, bin_fleq, bin_fgtr, bin_fgeq, un_fneg, neqf_self, eqf_self, wk4, wk5, wk0, fxC03RealBits, dxx, tt1]
          refine same_ret ?_
          rw [tt]
          simp only [Nat.reduceAdd, reduceIte, Nat.reduceEqDiff, reduceCtorEq, opLen, Int.reduceLT, Int.reduceEq, opConvert, opIndexAddr, opLoad, Nat.reduceLT, undef, Nat.reduceLeDiff, Array.toList, bin_fadd, bin_fsub, bin_fmul, bin_fquo, bin_feql, bin_fneq, bin_flss, bin_fleq, bin_fgtr, bin_fgeq, un_fneg, neqf_self, eqf_self, wk4, wk5, optV_some, guardV_true, guardV_false, condV_true, condV_false, wpc_skip, wpc_label, wpc_exit, wpc_ret, wpc_region, wpc_seq, wpc_cond, wpc_block, wpc_scope, wpc_loop, wpo_nil, wpo_cons, wps_open, put_get, put_none, keep_some, bin_add, bin_sub, bin_mul, bin_quo, bin_rem, bin_and, bin_or, bin_xor, bin_shl, bin_shr, bin_lss, bin_leq, bin_gtr, bin_geq, bin_eql, bin_neq, bin_seql, un_neg, un_xor, un_not, oneOf_one, fxC03RealBits, dyy, nN, dN, wN, beqb]
          refine same_ret ?_
          rw [ts]
          simp only [Nat.reduceAdd, reduceIte, Nat.reduceEqDiff, reduceCtorEq, opLen, Int.reduceLT, Int.reduceEq, opConvert, opIndexAddr, opLoad, Nat.reduceLT, undef, Nat.reduceLeDiff, Array.toList, bin_fadd, bin_fsub, bin_fmul, bin_fquo, bin_feql, bin_fneq, bin_flss, bin_fleq, bin_fgtr, bin_fgeq, un_fneg, neqf_self, eqf_self, wk4, wk5, optV_some, guardV_true, guardV_false, condV_true, condV_false, wpc_skip, wpc_label, wpc_exit, wpc_ret, wpc_region, wpc_seq, wpc_cond, wpc_block, wpc_scope, wpc_loop, wpo_nil, wpo_cons, wps_open, put_get, put_none, keep_some, bin_add, bin_sub, bin_mul, bin_quo, bin_rem, bin_and, bin_or, bin_xor, bin_shl, bin_shr, bin_lss, bin_leq, bin_gtr, bin_geq, bin_eql, bin_neq, bin_seql, un_neg, un_xor, un_not, oneOf_one, fxC03RealBits, beqb]
          refine whole_ret ?_
          simp only [Nat.reduceAdd, reduceIte, Nat.reduceEqDiff, reduceCtorEq, opLen, Int.reduceLT, Int.reduceEq, opConvert, opIndexAddr, opLoad, Nat.reduceLT, undef, Nat.reduceLeDiff, Array.toList, bin_fadd, bin_fsub, bin_fmul, bin_fquo, bin_feql, bin_fneq, bin_flss, bin_fleq, bin_fgtr, bin_fgeq, un_fneg, neqf_self, eqf_self, wk4, wk5, wk0, fxC03RealBits]
          refine refwhole_ret ?_
          simp only [Nat.reduceAdd, reduceIte, Nat.reduceEqDiff, reduceCtorEq, opLen, Int.reduceLT, Int.reduceEq, opConvert, opIndexAddr, opLoad, Nat.reduceLT, undef, Nat.reduceLeDiff, Array.toList, bin_fadd, bin_fsub, bin_fmul, bin_fquo, bin_feql, bin_fneq, bin_flss, bin_fleq, bin_fgtr, bin_fgeq, un_fneg, neqf_self, eqf_self, wk4, wk5, wk0, fxC03RealBits, dww]
      | false =>
        have wN : decide (tell N = N) = true := by cases cN <;> exact wN
        refine bits_ret ?_
        simp only [Nat.reduceAdd, reduceIte, Nat.reduceEqDiff, reduceCtorEq, opLen, Int.reduceLT, Int.reduceEq, opConvert, opIndexAddr, opLoad, Nat.reduceLT, undef, Nat.reduceLeDiff, Array.toList, bin_fadd, bin_fsub, bin_fmul, bin_fquo, bin_feql, bin_fneq, bin_flss, bin_fleq, bin_fgtr, bin_fgeq, un_fneg, neqf_self, eqf_self, wk4, wk5, wk0, fxC03RealBits, dxx]
        refine refbits_ret ?_
        simp only [Nat.reduceAdd, reduceIte, Nat.reduceEqDiff, reduceCtorEq, opLen, Int.reduceLT, Int.reduceEq, opConvert, opIndexAddr, opLoad, Nat.reduceLT, undef, Nat.reduceLeDiff, Array.toList, bin_fadd, bin_fsub, bin_fmul, bin_fquo, bin_feql, bin_fneq, bin_flss, bin_fleq, bin_fgtr, bin_fgeq, un_fneg, neqf_self, eqf_self, wk4, wk5, wk0, fxC03RealBits, dxx, tt1]
        refine same_ret ?_
        rw [tt]
        simp only [Nat.reduceAdd, reduceIte, Nat.reduceEqDiff, reduceCtorEq, opLen, Int.reduceLT, Int.reduceEq, opConvert, opIndexAddr, opLoad, Nat.reduceLT, undef, Nat.reduceLeDiff, Array.toList, bin_fadd, bin_fsub, bin_fmul, bin_fquo, bin_feql, bin_fneq, bin_flss, bin_fleq, bin_fgtr, bin_fgeq, un_fneg, neqf_self, eqf_self, wk4, wk5, optV_some, guardV_true, guardV_false, condV_true, condV_false, wpc_skip, wpc_label, wpc_exit, wpc_ret, wpc_region, wpc_seq, wpc_cond, wpc_block, wpc_scope, wpc_loop, wpo_nil, wpo_cons, wps_open, put_get, put_none, keep_some, bin_add, bin_sub, bin_mul, bin_quo, bin_rem, bin_and, bin_or, bin_xor, bin_shl, bin_shr, bin_lss, bin_leq, bin_gtr, bin_geq, bin_eql, bin_neq, bin_seql, un_neg, un_xor, un_not, oneOf_one, fxC03RealBits, dyy, nN, dN, wN, beqb]
        refine same_ret ?_
        rw [ts]
        simp only [Nat.reduceAdd, reduceIte, Nat.reduceEqDiff, reduceCtorEq, opLen, Int.reduceLT, Int.reduceEq, opConvert, opIndexAddr, opLoad, Nat.reduceLT, undef, Nat.reduceLeDiff, Array.toList, bin_fadd, bin_fsub, bin_fmul, bin_fquo, bin_feql, bin_fneq, bin_flss, bin_fleq, bin_fgtr, bin_fgeq, un_fneg, neqf_self, eqf_self, wk4, wk5, optV_some, guardV_true, guardV_false, condV_true, condV_false, wpc_skip, wpc_label, wpc_exit, wpc_ret, wpc_region, wpc_seq, wpc_cond, wpc_block, wpc_scope, wpc_loop, wpo_nil, wpo_cons, wps_open, put_get, put_none, keep_some, bin_add, bin_sub, bin_mul, bin_quo, bin_rem, bin_and, bin_or, bin_xor, bin_shl, bin_shr, bin_lss, bin_leq, bin_gtr, bin_geq, bin_eql, bin_neq, bin_seql, un_neg, un_xor, un_not, oneOf_one, fxC03RealBits, beqb]
        refine whole_ret ?_
        simp only [Nat.reduceAdd, reduceIte, Nat.reduceEqDiff, reduceCtorEq, opLen, Int.reduceLT, Int.reduceEq, opConvert, opIndexAddr, opLoad, Nat.reduceLT, undef, Nat.reduceLeDiff, Array.toList, bin_fadd, bin_fsub, bin_fmul, bin_fquo, bin_feql, bin_fneq, bin_flss, bin_fleq, bin_fgtr, bin_fgeq, un_fneg, neqf_self, eqf_self, wk4, wk5, wk0, fxC03RealBits]
        refine refwhole_ret ?_
        simp only [Nat.reduceAdd, reduceIte, Nat.reduceEqDiff, reduceCtorEq, opLen, Int.reduceLT, Int.reduceEq, opConvert, opIndexAddr, opLoad, Nat.reduceLT, undef, Nat.reduceLeDiff, Array.toList, bin_fadd, bin_fsub, bin_fmul, bin_fquo, bin_feql, bin_fneq, bin_flss, bin_fleq, bin_fgtr, bin_fgeq, un_fneg, neqf_self, eqf_self, wk4, wk5, wk0, fxC03RealBits, dww]
    | false =>
      rw [h, g] at ts
      have n1 : F.order x y = none := by
        have := order_nan_l (d := F.read x) (e := F.read y) h
        unfold Ieee.Format.order
        exact this
      have ts : decide (tell x = tell y) = false := ts
      have o1 : (F.order x y == some .eq) = false := by rw [n1]; rfl
      simp only [Nat.reduceAdd, reduceIte, Nat.reduceEqDiff, reduceCtorEq, opLen, Int.reduceLT, Int.reduceEq, opConvert, opIndexAddr, opLoad, Nat.reduceLT, undef, Nat.reduceLeDiff, Array.toList, bin_fadd, bin_fsub, bin_fmul, bin_fquo, bin_feql, bin_fneq, bin_flss, bin_fleq, bin_fgtr, bin_fgeq, un_fneg, neqf_self, eqf_self, wk4, wk5, wk0, fxC03RealBits, h, g, o1]
      cases bN with
      | true =>
        cases cN with
        | true =>
          have wN : decide (tell N = N) = true := wN
          refine bits_ret ?_
          simp only [Nat.reduceAdd, reduceIte, Nat.reduceEqDiff, reduceCtorEq, opLen, Int.reduceLT, Int.reduceEq, opConvert, opIndexAddr, opLoad, Nat.reduceLT, undef, Nat.reduceLeDiff, Array.toList, bin_fadd, bin_fsub, bin_fmul, bin_fquo, bin_feql, bin_fneq, bin_flss, bin_fleq, bin_fgtr, bin_fgeq, un_fneg, neqf_self, eqf_self, wk4, wk5, wk0, fxC03RealBits, dxx]
          refine refbits_ret ?_
          simp only [Nat.reduceAdd, reduceIte, Nat.reduceEqDiff, reduceCtorEq, opLen, Int.reduceLT, Int.reduceEq, opConvert, opIndexAddr, opLoad, Nat.reduceLT, undef, Nat.reduceLeDiff, Array.toList, bin_fadd, bin_fsub, bin_fmul, bin_fquo, bin_feql, bin_fneq, bin_flss, bin_fleq, bin_fgtr, bin_fgeq, un_fneg, neqf_self, eqf_self, wk4, wk5, wk0, fxC03RealBits, dxx, tt1]
          refine same_ret ?_
          rw [tt]
          simp only [Nat.reduceAdd, reduceIte, Nat.reduceEqDiff, reduceCtorEq, opLen, Int.reduceLT, Int.reduceEq, opConvert, opIndexAddr, opLoad, Nat.reduceLT, undef, Nat.reduceLeDiff, Array.toList, bin_fadd, bin_fsub, bin_fmul, bin_fquo, bin_feql, bin_fneq, bin_flss, bin_fleq, bin_fgtr, bin_fgeq, un_fneg, neqf_self, eqf_self, wk4, wk5, optV_some, guardV_true, guardV_false, condV_true, condV_false, wpc_skip, wpc_label, wpc_exit, wpc_ret, wpc_region, wpc_seq, wpc_cond, wpc_block, wpc_scope, wpc_loop, wpo_nil, wpo_cons, wps_open, put_get, put_none, keep_some, bin_add, bin_sub, bin_mul, bin_quo, bin_rem, bin_and, bin_or, bin_xor, bin_shl, bin_shr, bin_lss, bin_leq, bin_gtr, bin_geq, bin_eql, bin_neq, bin_seql, un_neg, un_xor, un_not, oneOf_one, fxC03RealBits, dyy, nN, dN, wN, beqb]
          refine same_ret ?_
          rw [ts]
          simp only [Nat.reduceAdd, reduceIte, Nat.reduceEqDiff, reduceCtorEq, opLen, Int.reduceLT, Int.reduceEq, opConvert, opIndexAddr, opLoad, Nat.reduceLT, undef, Nat.reduceLeDiff, Array.toList, bin_fadd, bin_fsub, bin_fmul, bin_fquo, bin_feql, bin_fneq, bin_flss, bin_fleq, bin_fgtr, bin_fgeq, un_fneg, neqf_self, eqf_self, wk4, wk5, optV_some, guardV_true, guardV_false, condV_true, condV_false, wpc_skip, wpc_label, wpc_exit, wpc_ret, wpc_region, wpc_seq, wpc_cond, wpc_block, wpc_scope, wpc_loop, wpo_nil, wpo_cons, wps_open, put_get, put_none, keep_some, bin_add, bin_sub, bin_mul, bin_quo, bin_rem, bin_and, bin_or, bin_xor, bin_shl, bin_shr, bin_lss, bin_leq, bin_gtr, bin_geq, bin_eql, bin_neq, bin_seql, un_neg, un_xor, un_not, oneOf_one, fxC03RealBits, beqb]
          refine whole_ret ?_
          simp only [Nat.reduceAdd, reduceIte, Nat.reduceEqDiff, reduceCtorEq, opLen, Int.reduceLT, Int.reduceEq, opConvert, opIndexAddr, opLoad, Nat.reduceLT, undef, Nat.reduceLeDiff, Array.toList, bin_fadd, bin_fsub, bin_fmul, bin_fquo, bin_feql, bin_fneq, bin_flss, bin_fleq, bin_fgtr, bin_fgeq, un_fneg, neqf_self, eqf_self, wk4, wk5, wk0, fxC03RealBits]
          refine refwhole_ret ?_
          simp only [Nat.reduceAdd, reduceIte, Nat.reduceEqDiff, reduceCtorEq, opLen, Int.reduceLT, Int.reduceEq, opConvert, opIndexAddr, opLoad, Nat.reduceLT, undef, Nat.reduceLeDiff, Array.toList, bin_fadd, bin_fsub, bin_fmul, bin_fquo, bin_feql, bin_fneq, bin_flss, bin_fleq, bin_fgtr, bin_fgeq, un_fneg, neqf_self, eqf_self, wk4, wk5, wk0, fxC03RealBits, dww]
        | false =>
          have wN : decide (tell N = N) = false := wN
          refine bits_ret ?_
          simp only [Nat.reduceAdd, reduceIte, Nat.reduceEqDiff, reduceCtorEq, opLen, Int.reduceLT, Int.reduceEq, opConvert, opIndexAddr, opLoad, Nat.reduceLT, undef, Nat.reduceLeDiff, Array.toList, bin_fadd, bin_fsub, bin_fmul, bin_fquo, bin_feql, bin_fneq, bin_flss, bin_fleq, bin_fgtr, bin_fgeq, un_fneg, neqf_self, eqf_self, wk4, wk5, wk0, fxC03RealBits, dxx]
          refine refbits_ret ?_
          simp only [Nat.reduceAdd, reduceIte, Nat.reduceEqDiff, reduceCtorEq, opLen, Int.reduceLT, Int.reduceEq, opConvert, opIndexAddr, opLoad, Nat.reduceLT, undef, Nat.reduceLeDiff, Array.toList, bin_fadd, bin_fsub, bin_fmul, bin_fquo, bin_feql, bin_fneq, bin_flss, bin_fleq, bin_fgtr, bin_fgeq, un_fneg, neqf_self, eqf_self, wk4, wk5, wk0, fxC03RealBits, dxx, tt1]
          refine same_ret ?_
          rw [tt]
          simp only [Nat.reduceAdd, reduceIte, Nat.reduceEqDiff, reduceCtorEq, opLen, Int.reduceLT, Int.reduceEq, opConvert, opIndexAddr, opLoad, Nat.reduceLT, undef, Nat.reduceLeDiff, Array.toList, bin_fadd, bin_fsub, bin_fmul, bin_fquo, bin_feql, bin_fneq, bin_flss, bin_fleq, bin_fgtr, bin_fgeq, un_fneg, neqf_self, eqf_self, wk4, wk5, optV_some, guardV_true, guardV_false, condV_true, condV_false, wpc_skip, wpc_label, wpc_exit, wpc_ret, wpc_region, wpc_seq, wpc_cond, wpc_block, wpc_scope, wpc_loop, wpo_nil, wpo_cons, wps_open, put_get, put_none, keep_some, bin_add, bin_sub, bin_mul, bin_quo, bin_rem, bin_and, bin_or, bin_xor, bin_shl, bin_shr, bin_lss, bin_leq, bin_gtr, bin_geq, bin_eql, bin_neq, bin_seql, un_neg, un_xor, un_not, oneOf_one, fxC03RealBits, dyy, nN, dN, wN, beqb]
          refine same_ret ?_
          rw [ts]
          simp only [Nat.reduceAdd, reduceIte, Nat.reduceEqDiff, reduceCtorEq, opLen, Int.reduceLT, Int.reduceEq, opConvert, opIndexAddr, opLoad, Nat.reduceLT, undef, Nat.reduceLeDiff, Array.toList, bin_fadd, bin_fsub, bin_fmul, bin_fquo, bin_feql, bin_fneq, bin_flss, bin_fleq, bin_fgtr, bin_fgeq, un_fneg, neqf_self, eqf_self, wk4, wk5, optV_some, guardV_true, guardV_false, condV_true, condV_false, wpc_skip, wpc_label, wpc_exit, wpc_ret, wpc_region, wpc_seq, wpc_cond, wpc_block, wpc_scope, wpc_loop, wpo_nil, wpo_cons, wps_open, put_get, put_none, keep_some, bin_add, bin_sub, bin_mul, bin_quo, bin_rem, bin_and, bin_or, bin_xor, bin_shl, bin_shr, bin_lss, bin_leq, bin_gtr, bin_geq, bin_eql, bin_neq, bin_seql, un_neg, un_xor, un_not, oneOf_one, fxC03RealBits, beqb]
          refine whole_ret ?_
          simp only [Nat.reduceAdd, reduceIte, Nat.reduceEqDiff, reduceCtorEq, opLen, Int.reduceLT, Int.reduceEq, opConvert, opIndexAddr, opLoad, Nat.reduceLT, undef, Nat.reduceLeDiff, Array.toList, bin_fadd, bin_fsub, bin_fmul, bin_fquo, bin_feql, bin_fneq, bin_flss, bin_fleq, bin_fgtr, bin_fgeq, un_fneg, neqf_self, eqf_self, wk4, wk5, wk0, fxC03RealBits]
          refine refwhole_ret ?_
          simp only [Nat.reduceAdd, reduceIte, Nat.reduceEqDiff, reduceCtorEq, opLen, Int.reduceLT, Int.reduceEq, opConvert, opIndexAddr, opLoad, Nat.reduceLT, undef, Nat.reduceLeDiff, Array.toList, bin_fadd, bin_fsub, bin_fmul, bin_fquo, bin_feql, bin_fneq, bin_flss, bin_fleq, bin_fgtr, bin_fgeq, un_fneg, neqf_self, eqf_self, wk4, wk5, wk0, fxC03RealBits, dww]
      | false =>
        have wN : decide (tell N = N) = true := by cases cN <;> exact wN
        refine bits_ret ?_
        simp only [Nat.reduceAdd, reduceIte, Nat.reduceEqDiff, reduceCtorEq, opLen, Int.reduceLT, Int.reduceEq, opConvert, opIndexAddr, opLoad, Nat.reduceLT, undef, Nat.reduceLeDiff, Array.toList, bin_fadd, bin_fsub, bin_fmul, bin_fquo, bin_feql, bin_fneq, bin_flss, bin_fleq, bin_fgtr, bin_fgeq, un_fneg, neqf_self, eqf_self, wk4, wk5, wk0, fxC03RealBits, dxx]
        refine refbits_ret ?_
        simp only [Nat.reduceAdd, reduceIte, Nat.reduceEqDiff, reduceCtorEq, opLen, Int.reduceLT, Int.reduceEq, opConvert, opIndexAddr, opLoad, Nat.reduceLT, undef, Nat.reduceLeDiff, Array.toList, bin_fadd, bin_fsub, bin_fmul, bin_fquo, bin_feql, bin_fneq, bin_flss, bin_fleq, bin_fgtr, bin_fgeq, un_fneg, neqf_self, eqf_self, wk4, wk5, wk0, fxC03RealBits, dxx, tt1]
        refine same_ret ?_
        rw [tt]
        simp only [Nat.reduceAdd, reduceIte, Nat.reduceEqDiff, reduceCtorEq, opLen, Int.reduceLT, Int.reduceEq, opConvert, opIndexAddr, opLoad, Nat.reduceLT, undef, Nat.reduceLeDiff, Array.toList, bin_fadd, bin_fsub, bin_fmul, bin_fquo, bin_feql, bin_fneq, bin_flss, bin_fleq, bin_fgtr, bin_fgeq, un_fneg, neqf_self, eqf_self, wk4, wk5, optV_some, guardV_true, guardV_false, condV_true, condV_false, wpc_skip, wpc_label, wpc_exit, wpc_ret, wpc_region, wpc_seq, wpc_cond, wpc_block, wpc_scope, wpc_loop, wpo_nil, wpo_cons, wps_open, put_get, put_none, keep_some, bin_add, bin_sub, bin_mul, bin_quo, bin_rem, bin_and, bin_or, bin_xor, bin_shl, bin_shr, bin_lss, bin_leq, bin_gtr, bin_geq, bin_eql, bin_neq, bin_seql, un_neg, un_xor, un_not, oneOf_one, fxC03RealBits, dyy, nN, dN, wN, beqb]
        refine same_ret ?_
        rw [ts]
        simp only [Nat.reduceAdd, reduceIte, Nat.reduceEqDiff, reduceCtorEq, opLen, Int.reduceLT, Int.reduceEq, opConvert, opIndexAddr, opLoad, Nat.reduceLT, undef, Nat.reduceLeDiff, Array.toList, bin_fadd, bin_fsub, bin_fmul, bin_fquo, bin_feql, bin_fneq, bin_flss, bin_fleq, bin_fgtr, bin_fgeq, un_fneg, neqf_self, eqf_self, wk4, wk5, optV_some, guardV_true, guardV_false, condV_true, condV_false, wpc_skip, wpc_label, wpc_exit, wpc_ret, wpc_region, wpc_seq, wpc_cond, wpc_block, wpc_scope, wpc_loop, wpo_nil, wpo_cons, wps_open, put_get, put_none, keep_some, bin_add, bin_sub, bin_mul, bin_quo, bin_rem, bin_and, bin_or, bin_xor, bin_shl, bin_shr, bin_lss, bin_leq, bin_gtr, bin_geq, bin_eql, bin_neq, bin_seql, un_neg, un_xor, un_not, oneOf_one, fxC03RealBits, beqb]
        refine whole_ret ?_
        simp only [Nat.reduceAdd, reduceIte, Nat.reduceEqDiff, reduceCtorEq, opLen, Int.reduceLT, Int.reduceEq, opConvert, opIndexAddr, opLoad, Nat.reduceLT, undef, Nat.reduceLeDiff, Array.toList, bin_fadd, bin_fsub, bin_fmul, bin_fquo, bin_feql, bin_fneq, bin_flss, bin_fleq, bin_fgtr, bin_fgeq, un_fneg, neqf_self, eqf_self, wk4, wk5, wk0, fxC03RealBits]
        refine refwhole_ret ?_
        simp only [Nat.reduceAdd, reduceIte, Nat.reduceEqDiff, reduceCtorEq, opLen, Int.reduceLT, Int.reduceEq, opConvert, opIndexAddr, opLoad, Nat.reduceLT, undef, Nat.reduceLeDiff, Array.toList, bin_fadd, bin_fsub, bin_fmul, bin_fquo, bin_feql, bin_fneq, bin_flss, bin_fleq, bin_fgtr, bin_fgeq, un_fneg, neqf_self, eqf_self, wk4, wk5, wk0, fxC03RealBits, dww]
  | false =>
    cases o1 : (F.order x y == some .eq) with
    | true =>
      rw [h, o1] at ts
      have ts : decide (tell x = tell y) = (sgn x == sgn y) := ts
      simp only [Nat.reduceAdd, reduceIte, Nat.reduceEqDiff, reduceCtorEq, opLen, Int.reduceLT, Int.reduceEq, opConvert, opIndexAddr, opLoad, Nat.reduceLT, undef, Nat.reduceLeDiff, Array.toList, bin_fadd, bin_fsub, bin_fmul, bin_fquo, bin_feql, bin_fneq, bin_flss, bin_fleq, bin_fgtr, bin_fgeq, un_fneg, neqf_self, eqf_self, wk4, wk5, wk0, fxC03RealBits, h, o1]
      refine signbit_ret hx ?_
      simp only [Nat.reduceAdd, reduceIte, Nat.reduceEqDiff, reduceCtorEq, opLen, Int.reduceLT, Int.reduceEq, opConvert, opIndexAddr, opLoad, Nat.reduceLT, undef, Nat.reduceLeDiff, Array.toList, bin_fadd, bin_fsub, bin_fmul, bin_fquo, bin_feql, bin_fneq, bin_flss, bin_fleq, bin_fgtr, bin_fgeq, un_fneg, neqf_self, eqf_self, wk4, wk5, wk0, fxC03RealBits]
      refine signbit_ret hy ?_
      obtain ⟨S, hS⟩ : ∃ S, S = (sgn x == sgn y) := ⟨_, rfl⟩
      rw [← hS] at ts
      have bs : binV Try.prog .eql 4 (.bool (sgn x)) (.bool (sgn y)) = some (.bool S) := by rw [hS]; cases sgn x <;> cases sgn y <;> kernel_rfl
      simp only [Nat.reduceAdd, reduceIte, Nat.reduceEqDiff, reduceCtorEq, opLen, Int.reduceLT, Int.reduceEq, opConvert, opIndexAddr, opLoad, Nat.reduceLT, undef, Nat.reduceLeDiff, Array.toList, bin_fadd, bin_fsub, bin_fmul, bin_fquo, bin_feql, bin_fneq, bin_flss, bin_fleq, bin_fgtr, bin_fgeq, un_fneg, neqf_self, eqf_self, wk4, wk5, optV_some, guardV_true, guardV_false, condV_true, condV_false, wpc_skip, wpc_label, wpc_exit, wpc_ret, wpc_region, wpc_seq, wpc_cond, wpc_block, wpc_scope, wpc_loop, wpo_nil, wpo_cons, wps_open, put_get, put_none, keep_some, bin_add, bin_sub, bin_mul, bin_quo, bin_rem, bin_and, bin_or, bin_xor, bin_shl, bin_shr, bin_lss, bin_leq, bin_gtr, bin_geq, bin_eql, bin_neq, bin_seql, un_neg, un_xor, un_not, oneOf_one, fxC03RealBits, bs]
      cases bN with
      | true =>
        cases cN with
        | true =>
          have wN : decide (tell N = N) = true := wN
          refine bits_ret ?_
          simp only [Nat.reduceAdd, reduceIte, Nat.reduceEqDiff, reduceCtorEq, opLen, Int.reduceLT, Int.reduceEq, opConvert, opIndexAddr, opLoad, Nat.reduceLT, undef, Nat.reduceLeDiff, Array.toList, bin_fadd, bin_fsub, bin_fmul, bin_fquo, bin_feql, bin_fneq, bin_flss, bin_fleq, bin_fgtr, bin_fgeq, un_fneg, neqf_self, eqf_self, wk4, wk5, wk0, fxC03RealBits, dxx]
          refine refbits_ret ?_
          simp only [Nat.reduceAdd, reduceIte, Nat.reduceEqDiff, reduceCtorEq, opLen, Int.reduceLT, Int.reduceEq, opConvert, opIndexAddr, opLoad, Nat.reduceLT, undef, Nat.reduceLeDiff, Array.toList, bin_fadd, bin_fsub, bin_fmul, bin_fquo, bin_feql, bin_fneq, bin_flss, bin_fleq, bin_fgtr, bin_fgeq, un_fneg, neqf_self, eqf_self, wk4, wk5, wk0, fxC03RealBits, dxx, tt1]
          refine same_ret ?_
          rw [tt]
          simp only [Nat.reduceAdd, reduceIte, Nat.reduceEqDiff, reduceCtorEq, opLen, Int.reduceLT, Int.reduceEq, opConvert, opIndexAddr, opLoad, Nat.reduceLT, undef, Nat.reduceLeDiff, Array.toList, bin_fadd, bin_fsub, bin_fmul, bin_fquo, bin_feql, bin_fneq, bin_flss, bin_fleq, bin_fgtr, bin_fgeq, un_fneg, neqf_self, eqf_self, wk4, wk5, optV_some, guardV_true, guardV_false, condV_true, condV_false, wpc_skip, wpc_label, wpc_exit, wpc_ret, wpc_region, wpc_seq, wpc_cond, wpc_block, wpc_scope, wpc_loop, wpo_nil, wpo_cons, wps_open, put_get, put_none, keep_some, bin_add, bin_sub, bin_mul, bin_quo, bin_rem, bin_and, bin_or, bin_xor, bin_shl, bin_shr, bin_lss, bin_leq, bin_gtr, bin_geq, bin_eql, bin_neq, bin_seql, un_neg, un_xor, un_not, oneOf_one, fxC03RealBits, dyy, nN, dN, wN, beqb]
          refine same_ret ?_
          rw [ts]
          simp only [Nat.reduceAdd, reduceIte, Nat.reduceEqDiff, reduceCtorEq, opLen, Int.reduceLT, Int.reduceEq, opConvert, opIndexAddr, opLoad, Nat.reduceLT, undef, Nat.reduceLeDiff, Array.toList, bin_fadd, bin_fsub, bin_fmul, bin_fquo, bin_feql, bin_fneq, bin_flss, bin_fleq, bin_fgtr, bin_fgeq, un_fneg, neqf_self, eqf_self, wk4, wk5, optV_some, guardV_true, guardV_false, condV_true, condV_false, wpc_skip, wpc_label, wpc_exit, wpc_ret, wpc_region, wpc_seq, wpc_cond, wpc_block, wpc_scope, wpc_loop, wpo_nil, wpo_cons, wps_open, put_get, put_none, keep_some, bin_add, bin_sub, bin_mul, bin_quo, bin_rem, bin_and, bin_or, bin_xor, bin_shl, bin_shr, bin_lss, bin_leq, bin_gtr, bin_geq, bin_eql, bin_neq, bin_seql, un_neg, un_xor, un_not, oneOf_one, fxC03RealBits, beqb]
          refine whole_ret ?_
          simp only [Nat.reduceAdd, reduceIte, Nat.reduceEqDiff, reduceCtorEq, opLen, Int.reduceLT, Int.reduceEq, opConvert, opIndexAddr, opLoad, Nat.reduceLT, undef, Nat.reduceLeDiff, Array.toList, bin_fadd, bin_fsub, bin_fmul, bin_fquo, bin_feql, bin_fneq, bin_flss, bin_fleq, bin_fgtr, bin_fgeq, un_fneg, neqf_self, eqf_self, wk4, wk5, wk0, fxC03RealBits]
          refine refwhole_ret ?_
          simp only [Nat.reduceAdd, reduceIte, Nat.reduceEqDiff, reduceCtorEq, opLen, Int.reduceLT, Int.reduceEq, opConvert, opIndexAddr, opLoad, Nat.reduceLT, undef, Nat.reduceLeDiff, Array.toList, bin_fadd, bin_fsub, bin_fmul, bin_fquo, bin_feql, bin_fneq, bin_flss, bin_fleq, bin_fgtr, bin_fgeq, un_fneg, neqf_self, eqf_self, wk4, wk5, wk0, fxC03RealBits, dww]
        | false =>
          have wN : decide (tell N = N) = false := wN
          refine bits_ret ?_
          simp only [Nat.reduceAdd, reduceIte, Nat.reduceEqDiff, reduceCtorEq, opLen, Int.reduceLT, Int.reduceEq, opConvert, opIndexAddr, opLoad, Nat.reduceLT, undef, Nat.reduceLeDiff, Array.toList, bin_fadd, bin_fsub, bin_fmul, bin_fquo, bin_feql, bin_fneq, bin_flss, bin_fleq, bin_fgtr, bin_fgeq, un_fneg, neqf_self, eqf_self, wk4, wk5, wk0, fxC03RealBits, dxx]
          refine refbits_ret ?_
          simp only [Nat.reduceAdd, reduceIte, Nat.reduceEqDiff, reduceCtorEq, opLen, Int.reduceLT, Int.reduceEq, opConvert, opIndexAddr, opLoad, Nat.reduceLT, undef, Nat.reduceLeDiff, Array.toList, bin_fadd, bin_fsub, bin_fmul, bin_fquo, bin_feql, bin_fneq, bin_flss, bin_fleq, bin_fgtr, bin_fgeq, un_fneg, neqf_self, eqf_self, wk4, wk5, wk0, fxC03RealBits, dxx, tt1]
          refine same_ret ?_
          rw [tt]
          simp only [Nat.reduceAdd, reduceIte, Nat.reduceEqDiff, reduceCtorEq, opLen, Int.reduceLT, Int.reduceEq, opConvert, opIndexAddr, opLoad, Nat.reduceLT, undef, Nat.reduceLeDiff, Array.toList, bin_fadd, bin_fsub, bin_fmul, bin_fquo, bin_feql, bin_fneq, bin_flss, bin_fleq, bin_fgtr, bin_fgeq, un_fneg, neqf_self, eqf_self, wk4, wk5, optV_some, guardV_true, guardV_false, condV_true, condV_false, wpc_skip, wpc_label, wpc_exit, wpc_ret, wpc_region, wpc_seq, wpc_cond, wpc_block, wpc_scope, wpc_loop, wpo_nil, wpo_cons, wps_open, put_get, put_none, keep_some, bin_add, bin_sub, bin_mul, bin_quo, bin_rem, bin_and, bin_or, bin_xor, bin_shl, bin_shr, bin_lss, bin_leq, bin_gtr, bin_geq, bin_eql, bin_neq, bin_seql, un_neg, un_xor, un_not, oneOf_one, fxC03RealBits, dyy, nN, dN, wN, beqb]
          refine same_ret ?_
          rw [ts]
          simp only [Nat.reduceAdd, reduceIte, Nat.reduceEqDiff, reduceCtorEq, opLen, Int.reduceLT, Int.reduceEq, opConvert, opIndexAddr, opLoad, Nat.reduceLT, undef, Nat.reduceLeDiff, Array.toList, bin_fadd, bin_fsub, bin_fmul, bin_fquo, bin_feql, bin_fneq, bin_flss, bin_fleq, bin_fgtr, bin_fgeq, un_fneg, neqf_self, eqf_self, wk4, wk5, optV_some, guardV_true, guardV_false, condV_true, condV_false, wpc_skip, wpc_label, wpc_exit, wpc_ret, wpc_region, wpc_seq, wpc_cond, wpc_block, wpc_scope, wpc_loop, wpo_nil, wpo_cons, wps_open, put_get, put_none, keep_some, bin_add, bin_sub, bin_mul, bin_quo, bin_rem, bin_and, bin_or, bin_xor, bin_shl, bin_shr, bin_lss, bin_leq, bin_gtr, bin_geq, bin_eql, bin_neq, bin_seql, un_neg, un_xor, un_not, oneOf_one, fxC03RealBits, beqb]
          refine whole_ret ?_
          simp only [Nat.reduceAdd, reduceIte, Nat.reduceEqDiff, reduceCtorEq, opLen, Int.reduceLT, Int.reduceEq, opConvert, opIndexAddr, opLoad, Nat.reduceLT, undef, Nat.reduceLeDiff, Array.toList, bin_fadd, bin_fsub, bin_fmul, bin_fquo, bin_feql, bin_fneq, bin_flss, bin_fleq, bin_fgtr, bin_fgeq, un_fneg, neqf_self, eqf_self, wk4, wk5, wk0, fxC03RealBits]
          refine refwhole_ret ?_
          simp only [Nat.reduceAdd, reduceIte, Nat.reduceEqDiff, reduceCtorEq, opLen, Int.reduceLT, Int.reduceEq, opConvert, opIndexAddr, opLoad, Nat.reduceLT, undef, Nat.reduceLeDiff, Array.toList, bin_fadd, bin_fsub, bin_fmul, bin_fquo, bin_feql, bin_fneq, bin_flss, bin_fleq, bin_fgtr, bin_fgeq, un_fneg, neqf_self, eqf_self, wk4, wk5, wk0, fxC03RealBits, dww]
      | false =>
        have wN : decide (tell N = N) = true := by cases cN <;> exact wN
        refine bits_ret ?_
        simp only [Nat.reduceAdd, reduceIte, Nat.reduceEqDiff, reduceCtorEq, opLen, Int.reduceLT, Int.reduceEq, opConvert, opIndexAddr, opLoad, Nat.reduceLT, undef, Nat.reduceLeDiff, Array.toList, bin_fadd, bin_fsub, bin_fmul, bin_fquo, bin_feql, bin_fneq, bin_flss, bin_fleq, bin_fgtr, bin_fgeq, un_fneg, neqf_self, eqf_self, wk4, wk5, wk0, fxC03RealBits, dxx]
        refine refbits_ret ?_
        simp only [Nat.reduceAdd, reduceIte, Nat.reduceEqDiff, reduceCtorEq, opLen, Int.reduceLT, Int.reduceEq, opConvert, opIndexAddr, opLoad, Nat.reduceLT, undef, Nat.reduceLeDiff, Array.toList, bin_fadd, bin_fsub, bin_fmul, bin_fquo, bin_feql, bin_fneq, bin_flss, bin_fleq, bin_fgtr, bin_fgeq, un_fneg, neqf_self, eqf_self, wk4, wk5, wk0, fxC03RealBits, dxx, tt1]
        refine same_ret ?_
        rw [tt]
        simp only [Nat.reduceAdd, reduceIte, Nat.reduceEqDiff, reduceCtorEq, opLen, Int.reduceLT, Int.reduceEq, opConvert, opIndexAddr, opLoad, Nat.reduceLT, undef, Nat.reduceLeDiff, Array.toList, bin_fadd, bin_fsub, bin_fmul, bin_fquo, bin_feql, bin_fneq, bin_flss, bin_fleq, bin_fgtr, bin_fgeq, un_fneg, neqf_self, eqf_self, wk4, wk5, optV_some, guardV_true, guardV_false, condV_true, condV_false, wpc_skip, wpc_label, wpc_exit, wpc_ret, wpc_region, wpc_seq, wpc_cond, wpc_block, wpc_scope, wpc_loop, wpo_nil, wpo_cons, wps_open, put_get, put_none, keep_some, bin_add, bin_sub, bin_mul, bin_quo, bin_rem, bin_and, bin_or, bin_xor, bin_shl, bin_shr, bin_lss, bin_leq, bin_gtr, bin_geq, bin_eql, bin_neq, bin_seql, un_neg, un_xor, un_not, oneOf_one, fxC03RealBits, dyy, nN, dN, wN, beqb]
        refine same_ret ?_
        rw [ts]
        simp only [Nat.reduceAdd, reduceIte, Nat.reduceEqDiff, reduceCtorEq, opLen, Int.reduceLT, Int.reduceEq, opConvert, opIndexAddr, opLoad, Nat.reduceLT, undef, Nat.reduceLeDiff, Array.toList, bin_fadd, bin_fsub, bin_fmul, bin_fquo, bin_feql, bin_fneq, bin_flss, bin_fleq, bin_fgtr, bin_fgeq, un_fneg, neqf_self, eqf_self, wk4, wk5, optV_some, guardV_true, guardV_false, condV_true, condV_false, wpc_skip, wpc_label, wpc_exit, wpc_ret, wpc_region, wpc_seq, wpc_cond, wpc_block, wpc_scope, wpc_loop, wpo_nil, wpo_cons, wps_open, put_get, put_none, keep_some, bin_add, bin_sub, bin_mul, bin_quo, bin_rem, bin_and, bin_or, bin_xor, bin_shl, bin_shr, bin_lss, bin_leq, bin_gtr, bin_geq, bin_eql, bin_neq, bin_seql, un_neg, un_xor, un_not, oneOf_one, fxC03RealBits, beqb]
        refine whole_ret ?_
        simp only [Nat.reduceAdd, reduceIte, Nat.reduceEqDiff, reduceCtorEq, opLen, Int.reduceLT, Int.reduceEq, opConvert, opIndexAddr, opLoad, Nat.reduceLT, undef, Nat.reduceLeDiff, Array.toList, bin_fadd, bin_fsub, bin_fmul, bin_fquo, bin_feql, bin_fneq, bin_flss, bin_fleq, bin_fgtr, bin_fgeq, un_fneg, neqf_self, eqf_self, wk4, wk5, wk0, fxC03RealBits]
        refine refwhole_ret ?_
        simp only [Nat.reduceAdd, reduceIte, Nat.reduceEqDiff, reduceCtorEq, opLen, Int.reduceLT, Int.reduceEq, opConvert, opIndexAddr, opLoad, Nat.reduceLT, undef, Nat.reduceLeDiff, Array.toList, bin_fadd, bin_fsub, bin_fmul, bin_fquo, bin_feql, bin_fneq, bin_flss, bin_fleq, bin_fgtr, bin_fgeq, un_fneg, neqf_self, eqf_self, wk4, wk5, wk0, fxC03RealBits, dww]
    | false =>
      rw [h, o1] at ts
      have ts : decide (tell x = tell y) = false := by
        rw [ts]; cases nanX y <;> rfl
      simp only [Nat.reduceAdd, reduceIte, Nat.reduceEqDiff, reduceCtorEq, opLen, Int.reduceLT, Int.reduceEq, opConvert, opIndexAddr, opLoad, Nat.reduceLT, undef, Nat.reduceLeDiff, Array.toList, bin_fadd, bin_fsub, bin_fmul, bin_fquo, bin_feql, bin_fneq, bin_flss, bin_fleq, bin_fgtr, bin_fgeq, un_fneg, neqf_self, eqf_self, wk4, wk5, wk0, fxC03RealBits, h, o1]
      cases bN with
      | true =>
        cases cN with
        | true =>
          have wN : decide (tell N = N) = true := wN
          refine bits_ret ?_
          simp only [Nat.reduceAdd, reduceIte, Nat.reduceEqDiff, reduceCtorEq, opLen, Int.reduceLT, Int.reduceEq, opConvert, opIndexAddr, opLoad, Nat.reduceLT, undef, Nat.reduceLeDiff, Array.toList, bin_fadd, bin_fsub, bin_fmul, bin_fquo, bin_feql, bin_fneq, bin_flss, bin_fleq, bin_fgtr, bin_fgeq, un_fneg, neqf_self, eqf_self, wk4, wk5, wk0, fxC03RealBits, dxx]
          refine refbits_ret ?_
          simp only [Nat.reduceAdd, reduceIte, Nat.reduceEqDiff, reduceCtorEq, opLen, Int.reduceLT, Int.reduceEq, opConvert, opIndexAddr, opLoad, Nat.reduceLT, undef, Nat.reduceLeDiff, Array.toList, bin_fadd, bin_fsub, bin_fmul, bin_fquo, bin_feql, bin_fneq, bin_flss, bin_fleq, bin_fgtr, bin_fgeq, un_fneg, neqf_self, eqf_self, wk4, wk5, wk0, fxC03RealBits, dxx, tt1]
          refine same_ret ?_
          rw [tt]
          simp only [Nat.reduceAdd, reduceIte, Nat.reduceEqDiff, reduceCtorEq, opLen, Int.reduceLT, Int.reduceEq, opConvert, opIndexAddr, opLoad, Nat.reduceLT, undef, Nat.reduceLeDiff, Array.toList, bin_fadd, bin_fsub, bin_fmul, bin_fquo, bin_feql, bin_fneq, bin_flss, bin_fleq, bin_fgtr, bin_fgeq, un_fneg, neqf_self, eqf_self, wk4, wk5, optV_some, guardV_true, guardV_false, condV_true, condV_false, wpc_skip, wpc_label, wpc_exit, wpc_ret, wpc_region, wpc_seq, wpc_cond, wpc_block, wpc_scope, wpc_loop, wpo_nil, wpo_cons, wps_open, put_get, put_none, keep_some, bin_add, bin_sub, bin_mul, bin_quo, bin_rem, bin_and, bin_or, bin_xor, bin_shl, bin_shr, bin_lss, bin_leq, bin_gtr, bin_geq, bin_eql, bin_neq, bin_seql, un_neg, un_xor, un_not, oneOf_one, fxC03RealBits, dyy, nN, dN, wN, beqb]
          refine same_ret ?_
          rw [ts]
          simp only [Nat.reduceAdd, reduceIte, Nat.reduceEqDiff, reduceCtorEq, opLen, Int.reduceLT, Int.reduceEq, opConvert, opIndexAddr, opLoad, Nat.reduceLT, undef, Nat.reduceLeDiff, Array.toList, bin_fadd, bin_fsub, bin_fmul, bin_fquo, bin_feql, bin_fneq, bin_flss, bin_fleq, bin_fgtr, bin_fgeq, un_fneg, neqf_self, eqf_self, wk4, wk5, optV_some, guardV_true, guardV_false, condV_true, condV_false, wpc_skip, wpc_label, wpc_exit, wpc_ret, wpc_region, wpc_seq, wpc_cond, wpc_block, wpc_scope, wpc_loop, wpo_nil, wpo_cons, wps_open, put_get, put_none, keep_some, bin_add, bin_sub, bin_mul, bin_quo, bin_rem, bin_and, bin_or, bin_xor, bin_shl, bin_shr, bin_lss, bin_leq, bin_gtr, bin_geq, bin_eql, bin_neq, bin_seql, un_neg, un_xor, un_not, oneOf_one, fxC03RealBits, beqb]
          refine whole_ret ?_
          simp only [Nat.reduceAdd, reduceIte, Nat.reduceEqDiff, reduceCtorEq, opLen, Int.reduceLT, Int.reduceEq, opConvert, opIndexAddr, opLoad, Nat.reduceLT, undef, Nat.reduceLeDiff, Array.toList, bin_fadd, bin_fsub, bin_fmul, bin_fquo, bin_feql, bin_fneq, bin_flss, bin_fleq, bin_fgtr, bin_fgeq, un_fneg, neqf_self, eqf_self, wk4, wk5, wk0, fxC03RealBits]
          refine refwhole_ret ?_
          simp only [Nat.reduceAdd, reduceIte, Nat.reduceEqDiff, reduceCtorEq, opLen, Int.reduceLT, Int.reduceEq, opConvert, opIndexAddr, opLoad, Nat.reduceLT, undef, Nat.reduceLeDiff, Array.toList, bin_fadd, bin_fsub, bin_fmul, bin_fquo, bin_feql, bin_fneq, bin_flss, bin_fleq, bin_fgtr, bin_fgeq, un_fneg, neqf_self, eqf_self, wk4, wk5, wk0, fxC03RealBits, dww]
        | false =>
          have wN : decide (tell N = N) = false := wN
          refine bits_ret ?_
          simp only [Nat.reduceAdd, reduceIte, Nat.reduceEqDiff, reduceCtorEq, opLen, Int.reduceLT, Int.reduceEq, opConvert, opIndexAddr, opLoad, Nat.reduceLT, undef, Nat.reduceLeDiff, Array.toList, bin_fadd, bin_fsub, bin_fmul, bin_fquo, bin_feql, bin_fneq, bin_flss, bin_fleq, bin_fgtr, bin_fgeq, un_fneg, neqf_self, eqf_self, wk4, wk5, wk0, fxC03RealBits, dxx]
          refine refbits_ret ?_
          simp only [Nat.reduceAdd, reduceIte, Nat.reduceEqDiff, reduceCtorEq, opLen, Int.reduceLT, Int.reduceEq, opConvert, opIndexAddr, opLoad, Nat.reduceLT, undef, Nat.reduceLeDiff, Array.toList, bin_fadd, bin_fsub, bin_fmul, bin_fquo, bin_feql, bin_fneq, bin_flss, bin_fleq, bin_fgtr, bin_fgeq, un_fneg, neqf_self, eqf_self, wk4, wk5, wk0, fxC03RealBits, dxx, tt1]
          refine same_ret ?_
          rw [tt]
          simp only [Nat.reduceAdd, reduceIte, Nat.reduceEqDiff, reduceCtorEq, opLen, Int.reduceLT, Int.reduceEq, opConvert, opIndexAddr, opLoad, Nat.reduceLT, undef, Nat.reduceLeDiff, Array.toList, bin_fadd, bin_fsub, bin_fmul, bin_fquo, bin_feql, bin_fneq, bin_flss, bin_fleq, bin_fgtr, bin_fgeq, un_fneg, neqf_self, eqf_self, wk4, wk5, optV_some, guardV_true, guardV_false, condV_true, condV_false, wpc_skip, wpc_label, wpc_exit, wpc_ret, wpc_region, wpc_seq, wpc_cond, wpc_block, wpc_scope, wpc_loop, wpo_nil, wpo_cons, wps_open, put_get, put_none, keep_some, bin_add, bin_sub, bin_mul, bin_quo, bin_rem, bin_and, bin_or, bin_xor, bin_shl, bin_shr, bin_lss, bin_leq, bin_gtr, bin_geq, bin_eql, bin_neq, bin_seql, un_neg, un_xor, un_not, oneOf_one, fxC03RealBits, dyy, nN, dN, wN, beqb]
          refine same_ret ?_
          rw [ts]
          simp only [Nat.reduceAdd, reduceIte, Nat.reduceEqDiff, reduceCtorEq, opLen, Int.reduceLT, Int.reduceEq, opConvert, opIndexAddr, opLoad, Nat.reduceLT, undef, Nat.reduceLeDiff, Array.toList, bin_fadd, bin_fsub, bin_fmul, bin_fquo, bin_feql, bin_fneq, bin_flss, bin_fleq, bin_fgtr, bin_fgeq, un_fneg, neqf_self, eqf_self, wk4, wk5, optV_some, guardV_true, guardV_false, condV_true, condV_false, wpc_skip, wpc_label, wpc_exit, wpc_ret, wpc_region, wpc_seq, wpc_cond, wpc_block, wpc_scope, wpc_loop, wpo_nil, wpo_cons, wps_open, put_get, put_none, keep_some, bin_add, bin_sub, bin_mul, bin_quo, bin_rem, bin_and, bin_or, bin_xor, bin_shl, bin_shr, bin_lss, bin_leq, bin_gtr, bin_geq, bin_eql, bin_neq, bin_seql, un_neg, un_xor, un_not, oneOf_one, fxC03RealBits, beqb]
          refine whole_ret ?_
          simp only [Nat.reduceAdd, reduceIte, Nat.reduceEqDiff, reduceCtorEq, opLen, Int.reduceLT, Int.reduceEq, opConvert, opIndexAddr, opLoad, Nat.reduceLT, undef, Nat.reduceLeDiff, Array.toList, bin_fadd, bin_fsub, bin_fmul, bin_fquo, bin_feql, bin_fneq, bin_flss, bin_fleq, bin_fgtr, bin_fgeq, un_fneg, neqf_self, eqf_self, wk4, wk5, wk0, fxC03RealBits]
          refine refwhole_ret ?_
          simp only [Nat.reduceAdd, reduceIte, Nat.reduceEqDiff, reduceCtorEq, opLen, Int.reduceLT, Int.reduceEq, opConvert, opIndexAddr, opLoad, Nat.reduceLT, undef, Nat.reduceLeDiff, Array.toList, bin_fadd, bin_fsub, bin_fmul, bin_fquo, bin_feql, bin_fneq, bin_flss, bin_fleq, bin_fgtr, bin_fgeq, un_fneg, neqf_self, eqf_self, wk4, wk5, wk0, fxC03RealBits, dww]
      | false =>
        have wN : decide (tell N = N) = true := by cases cN <;> exact wN
        refine bits_ret ?_
        simp only [Nat.reduceAdd, reduceIte, Nat.reduceEqDiff, reduceCtorEq, opLen, Int.reduceLT, Int.reduceEq, opConvert, opIndexAddr, opLoad, Nat.reduceLT, undef, Nat.reduceLeDiff, Array.toList, bin_fadd, bin_fsub, bin_fmul, bin_fquo, bin_feql, bin_fneq, bin_flss, bin_fleq, bin_fgtr, bin_fgeq, un_fneg, neqf_self, eqf_self, wk4, wk5, wk0, fxC03RealBits, dxx]
        refine refbits_ret ?_
        simp only [Nat.reduceAdd, reduceIte, Nat.reduceEqDiff, reduceCtorEq, opLen, Int.reduceLT, Int.reduceEq, opConvert, opIndexAddr, opLoad, Nat.reduceLT, undef, Nat.reduceLeDiff, Array.toList, bin_fadd, bin_fsub, bin_fmul, bin_fquo, bin_feql, bin_fneq, bin_flss, bin_fleq, bin_fgtr, bin_fgeq, un_fneg, neqf_self, eqf_self, wk4, wk5, wk0, fxC03RealBits, dxx, tt1]
        refine same_ret ?_
        rw [tt]
        simp only [Nat.reduceAdd, reduceIte, Nat.reduceEqDiff, reduceCtorEq, opLen, Int.reduceLT, Int.reduceEq, opConvert, opIndexAddr, opLoad, Nat.reduceLT, undef, Nat.reduceLeDiff, Array.toList, bin_fadd, bin_fsub, bin_fmul, bin_fquo, bin_feql, bin_fneq, bin_flss, bin_fleq, bin_fgtr, bin_fgeq, un_fneg, neqf_self, eqf_self, wk4, wk5, optV_some, guardV_true, guardV_false, condV_true, condV_false, wpc_skip, wpc_label, wpc_exit, wpc_ret, wpc_region, wpc_seq, wpc_cond, wpc_block, wpc_scope, wpc_loop, wpo_nil, wpo_cons, wps_open, put_get, put_none, keep_some, bin_add, bin_sub, bin_mul, bin_quo, bin_rem, bin_and, bin_or, bin_xor, bin_shl, bin_shr, bin_lss, bin_leq, bin_gtr, bin_geq, bin_eql, bin_neq, bin_seql, un_neg, un_xor, un_not, oneOf_one, fxC03RealBits, dyy, nN, dN, wN, beqb]
        refine same_ret ?_
        rw [ts]
        simp only [Nat.reduceAdd, reduceIte, Nat.reduceEqDiff, reduceCtorEq, opLen, Int.reduceLT, Int.reduceEq, opConvert, opIndexAddr, opLoad, Nat.reduceLT, undef, Nat.reduceLeDiff, Array.toList, bin_fadd, bin_fsub, bin_fmul, bin_fquo, bin_feql, bin_fneq, bin_flss, bin_fleq, bin_fgtr, bin_fgeq, un_fneg, neqf_self, eqf_self, wk4, wk5, optV_some, guardV_true, guardV_false, condV_true, condV_false, wpc_skip, wpc_label, wpc_exit, wpc_ret, wpc_region, wpc_seq, wpc_cond, wpc_block, wpc_scope, wpc_loop, wpo_nil, wpo_cons, wps_open, put_get, put_none, keep_some, bin_add, bin_sub, bin_mul, bin_quo, bin_rem, bin_and, bin_or, bin_xor, bin_shl, bin_shr, bin_lss, bin_leq, bin_gtr, bin_geq, bin_eql, bin_neq, bin_seql, un_neg, un_xor, un_not, oneOf_one, fxC03RealBits, beqb]
        refine whole_ret ?_
        simp only [Nat.reduceAdd, reduceIte, Nat.reduceEqDiff, reduceCtorEq, opLen, Int.reduceLT, Int.reduceEq, opConvert, opIndexAddr, opLoad, Nat.reduceLT, undef, Nat.reduceLeDiff, Array.toList, bin_fadd, bin_fsub, bin_fmul, bin_fquo, bin_feql, bin_fneq, bin_flss, bin_fleq, bin_fgtr, bin_fgeq, un_fneg, neqf_self, eqf_self, wk4, wk5, wk0, fxC03RealBits]
        refine refwhole_ret ?_
        simp only [Nat.reduceAdd, reduceIte, Nat.reduceEqDiff, reduceCtorEq, opLen, Int.reduceLT, Int.reduceEq, opConvert, opIndexAddr, opLoad, Nat.reduceLT, undef, Nat.reduceLeDiff, Array.toList, bin_fadd, bin_fsub, bin_fmul, bin_fquo, bin_feql, bin_fneq, bin_flss, bin_fleq, bin_fgtr, bin_fgeq, un_fneg, neqf_self, eqf_self, wk4, wk5, wk0, fxC03RealBits, dww]
theorem realBits_true {H : Type} {m : Mem} {xs : List Value} {ds : List (DataW H)} (hd : IsDs Try.prog 8 [22, 22, 5, 5] ds) (hl : LieAll Try.prog m [22, 22, 5, 5] ds xs) : Ret Try.prog 6 xs m fun v _ => v = .bool true := by
  obtain ⟨d0, dr, rfl, i0, hd⟩ := isDs_cons hd
  obtain ⟨d1, dr, rfl, i1, hd⟩ := isDs_cons hd
  obtain ⟨d2, dr, rfl, i2, hd⟩ := isDs_cons hd
  obtain ⟨d3, dr, rfl, i3, hd⟩ := isDs_cons hd
  obtain rfl := isDs_nil hd
  obtain ⟨v0, _, rfl, l0, v1, _, rfl, l1, v2, _, rfl, l2, v3, _, rfl, l3, rfl⟩ := hl
  obtain ⟨a, rfl, w1⟩ := lies_int (k := 7) Try.underlying22 i0 l0
  obtain ⟨b, rfl, w2⟩ := lies_int (k := 7) Try.underlying22 i1 l1
  obtain ⟨c, rfl, w3⟩ := lies_int (k := 7) Try.underlying5 i2 l2
  obtain ⟨d, rfl, w4⟩ := lies_int (k := 7) Try.underlying5 i3 l3
  exact realbits_ret (wf_u64 w1) (wf_u64 w2) (wf_u8 w3) (wf_u8 w4)
end Go.Proofs.Ytfhmfialnnhidaa
