/- A text of the abstract machine. -/

/- Floats: whether one is infinite, the float of bits. -/
import Derived.Test.YtfhmfialnnhidaaAmC03b
import Derived.Test.YtfhmfialnnhidaaAmArgs6
import Derived.Laws.BitsAllLaws
import Derived.Test.YtfhmfialnnhidaaAmBun
set_option linter.unusedSimpArgs false
set_option linter.unusedVariables false
set_option maxRecDepth 100000
set_option maxHeartbeats 4000000
namespace Go.Proofs.Ytfhmfialnnhidaa
open Go Go.AM Go.AM.Flt
theorem fxC03c : type_of% (And.intro (And.intro (And.intro (And.intro (And.intro @Try.underlying2 (And.intro @Try.underlying3 @Try.underlying4)) (And.intro (And.intro @Try.underlying5 @Try.underlying9) (And.intro @Try.underlying22 @Try.underlying24))) (And.intro (And.intro @Try.underlying27 (And.intro @Try.underlying28 @ts2)) (And.intro (And.intro @ts3 @ts4) (And.intro @ts5 @ts9)))) (And.intro (And.intro (And.intro @ts22 (And.intro @ts24 @ts27)) (And.intro (And.intro @ts28 @tz2) (And.intro @tz3 @tz4))) (And.intro (And.intro (And.intro @tz5 @tz9) (And.intro @tz22 @tz24)) (And.intro (And.intro @tz27 @tz28) (And.intro @tb2 @tb3))))) (And.intro (And.intro (And.intro (And.intro @tb4 (And.intro @tb5 @tb9)) (And.intro (And.intro @tb22 @tb24) (And.intro @tb27 @tb28))) (And.intro (And.intro @fr3 (And.intro @fr4 @fr5)) (And.intro (And.intro @fr6 @fr7) (And.intro @fr8 @fr9)))) (And.intro (And.intro (And.intro @fr10 (And.intro @fr11 @fr13)) (And.intro (And.intro @fr14 @fr15) (And.intro @fr16 @fr17))) (And.intro (And.intro (And.intro @fr18 @fr19) (And.intro @fr20 @fr21)) (And.intro (And.intro @fr23 @fr24) (And.intro @fr25 @fr26)))))) := (And.intro (And.intro (And.intro (And.intro (And.intro @Try.underlying2 (And.intro @Try.underlying3 @Try.underlying4)) (And.intro (And.intro @Try.underlying5 @Try.underlying9) (And.intro @Try.underlying22 @Try.underlying24))) (And.intro (And.intro @Try.underlying27 (And.intro @Try.underlying28 @ts2)) (And.intro (And.intro @ts3 @ts4) (And.intro @ts5 @ts9)))) (And.intro (And.intro (And.intro @ts22 (And.intro @ts24 @ts27)) (And.intro (And.intro @ts28 @tz2) (And.intro @tz3 @tz4))) (And.intro (And.intro (And.intro @tz5 @tz9) (And.intro @tz22 @tz24)) (And.intro (And.intro @tz27 @tz28) (And.intro @tb2 @tb3))))) (And.intro (And.intro (And.intro (And.intro @tb4 (And.intro @tb5 @tb9)) (And.intro (And.intro @tb22 @tb24) (And.intro @tb27 @tb28))) (And.intro (And.intro @fr3 (And.intro @fr4 @fr5)) (And.intro (And.intro @fr6 @fr7) (And.intro @fr8 @fr9)))) (And.intro (And.intro (And.intro @fr10 (And.intro @fr11 @fr13)) (And.intro (And.intro @fr14 @fr15) (And.intro @fr16 @fr17))) (And.intro (And.intro (And.intro @fr18 @fr19) (And.intro @fr20 @fr21)) (And.intro (And.intro @fr23 @fr24) (And.intro @fr25 @fr26))))))
theorem andnot_sign {x : Nat} (hx : x < 2 ^ 64) : (bits .andNot .u64 (x : Int) 9223372036854775808).toNat = rung x := by
  have e : bits .andNot .u64 (x : Int) ((9223372036854775808 : Nat) : Int) = ((x &&& (18446744073709551615 - 9223372036854775808) : Nat) : Int) := u64_andNot_nat x 9223372036854775808 (by omega) (by decide)
  have e2 : bits .andNot .u64 (x : Int) 9223372036854775808 = bits .andNot .u64 (x : Int) ((9223372036854775808 : Nat) : Int) := rfl
  rw [e2, e, Int.toNat_natCast]
  have e3 : (18446744073709551615 - 9223372036854775808 : Nat) = 2 ^ 63 - 1 := by decide
  rw [e3, Nat.and_two_pow_sub_one_eq_mod]
  rfl
theorem oneOf_two (a b : Value) : oneOf [a, b] = .tuple #[a, b] := rfl
def infB (x : Nat) : Bool := decide (rung x = 2047 * 2 ^ 52)
theorem rung_lt (x : Nat) : rung x < 2 ^ 64 := by unfold rung; omega
theorem rung_rung (x : Nat) : rung (rung x) = rung x := by unfold rung; omega
theorem sgn_rung (x : Nat) : sgn (rung x) = false := by
  unfold sgn rung
  have : x % 2 ^ 63 / 2 ^ 63 % 2 = 0 := by omega
  rw [this]; rfl
def MAXF : Nat := 9218868437227405311
theorem max_read : F.read MAXF = .number false (2 ^ 53 - 1) 971 := by decide
/-- What is above the greatest float. -/
theorem gt_max (x : Nat) : (F.order (rung x) MAXF == some .gt) = infB x := by
  unfold infB
  unfold Ieee.Format.order
  rw [max_read]
  cases read_kind (rung x) with
  | num m e h c r =>
    rw [rung_rung] at r
    rw [sgn_rung] at h
    rw [h]
    have hc := canon_int c
    have hn : ¬ rung x = 2047 * 2 ^ 52 := by
      rcases c with ⟨c1, c2⟩ | ⟨c1, c2, c3, c4⟩ <;> omega
    rw [decide_eq_false hn]
    have hm : min e 971 = e := by omega
    have e1 : (e - e).toNat = 0 := by omega
    simp only [Ieee.Datum.order, hm, e1]
    rw [signed_pos, signed_pos, Nat.pow_zero, Nat.mul_one]
    have m53 : m ≤ 2 ^ 53 - 1 := by rcases c with ⟨c, _⟩ | ⟨_, c, _⟩ <;> omega
    have p := Nat.two_pow_pos (971 - e).toNat
    have q : m ≤ (2 ^ 53 - 1) * 2 ^ (971 - e).toNat := Nat.le_trans m53 (Nat.le_mul_of_pos_right _ p)
    have ng : ¬ compare (m : Int) (((2 ^ 53 - 1) * 2 ^ (971 - e).toNat : Nat) : Int) = .gt := by
      rw [cmp_int_gt]
      omega
    cases hq : compare (m : Int) (((2 ^ 53 - 1) * 2 ^ (971 - e).toNat : Nat) : Int) with
    | lt => rfl
    | eq => rfl
    | gt => exact (ng hq).elim
  | inf h r =>
    rw [rung_rung] at r
    rw [sgn_rung] at h
    rw [h, decide_eq_true r]
    rfl
  | nan f h r =>
    rw [rung_rung] at r
    rw [h, decide_eq_false (by omega)]
    rfl
theorem abs_ret {m : Mem} {x : Nat} (hx : x < 2 ^ 64) {K : Value → Mem → Prop} (hK : K (.float .f64 (rung x)) m) : Ret Try.prog 26 [.float .f64 x] m K := by
  refine ret_wp [] Try.func26 rfl (by decide) (by kernel_rfl) ?_
  simp only [Nat.reduceAdd, reduceIte, Nat.reduceEqDiff, reduceCtorEq, opLen, Int.reduceLT, Int.reduceEq, opConvert, opIndexAddr, opLoad, Nat.reduceLT, undef, Nat.reduceLeDiff, Array.toList, bin_fadd, bin_fsub, bin_fmul, bin_fquo, bin_feql, bin_fneq, bin_flss, bin_fleq, bin_fgtr, bin_fgeq, un_fneg, neqf_self, eqf_self, wk4, wk5, wk0, fxC03c]
  refine bits12_ret (lt_lax hx) ?_
  simp only [Nat.reduceAdd, reduceIte, Nat.reduceEqDiff, reduceCtorEq, opLen, Int.reduceLT, Int.reduceEq, opConvert, opIndexAddr, opLoad, Nat.reduceLT, undef, Nat.reduceLeDiff, Array.toList, bin_fadd, bin_fsub, bin_fmul, bin_fquo, bin_feql, bin_fneq, bin_flss, bin_fleq, bin_fgtr, bin_fgeq, un_fneg, neqf_self, eqf_self, wk4, wk5, wk0, fxC03c, bin_andnot]
  refine from22_ret ?_
  rw [andnot_sign hx]
  simp only [Nat.reduceAdd, reduceIte, Nat.reduceEqDiff, reduceCtorEq, opLen, Int.reduceLT, Int.reduceEq, opConvert, opIndexAddr, opLoad, Nat.reduceLT, undef, Nat.reduceLeDiff, Array.toList, bin_fadd, bin_fsub, bin_fmul, bin_fquo, bin_feql, bin_fneq, bin_flss, bin_fleq, bin_fgtr, bin_fgeq, un_fneg, neqf_self, eqf_self, wk4, wk5, wk0, fxC03c]
  exact hK
theorem isinf_ret {m : Mem} {x : Nat} (hx : x < 2 ^ 64) {K : Value → Mem → Prop} (hK : K (.bool (infB x)) m) : Ret Try.prog 15 [.float .f64 x, .int .i64 0] m K := by
  refine ret_wp [] Try.func15 rfl (by decide) (by kernel_rfl) ?_
  simp only [Nat.reduceAdd, reduceIte, Nat.reduceEqDiff, reduceCtorEq, opLen, Int.reduceLT, Int.reduceEq, opConvert, opIndexAddr, opLoad, Nat.reduceLT, undef, Nat.reduceLeDiff, Array.toList, bin_fadd, bin_fsub, bin_fmul, bin_fquo, bin_feql, bin_fneq, bin_flss, bin_fleq, bin_fgtr, bin_fgeq, un_fneg, neqf_self, eqf_self, wk4, wk5, wk0, fxC03c]
  refine abs_ret hx ?_
  have g := gt_max x
  unfold MAXF at g
  simp only [Nat.reduceAdd, reduceIte, Nat.reduceEqDiff, reduceCtorEq, opLen, Int.reduceLT, Int.reduceEq, opConvert, opIndexAddr, opLoad, Nat.reduceLT, undef, Nat.reduceLeDiff, Array.toList, bin_fadd, bin_fsub, bin_fmul, bin_fquo, bin_feql, bin_fneq, bin_flss, bin_fleq, bin_fgtr, bin_fgeq, un_fneg, neqf_self, eqf_self, wk4, wk5, wk0, fxC03c, g]
  exact hK
theorem of_ret {m : Mem} {n : Nat} {K : Value → Mem → Prop} (hK : K (.tuple #[.float .f64 n, .bool (decide (tell n = n))]) m) : Ret Try.prog 20 [.int .u64 n] m K := by
  refine ret_wp [] Try.func20 rfl (by decide) (by kernel_rfl) ?_
  simp only [Nat.reduceAdd, reduceIte, Nat.reduceEqDiff, reduceCtorEq, opLen, Int.reduceLT, Int.reduceEq, opConvert, opIndexAddr, opLoad, Nat.reduceLT, undef, Nat.reduceLeDiff, Array.toList, bin_fadd, bin_fsub, bin_fmul, bin_fquo, bin_feql, bin_fneq, bin_flss, bin_fleq, bin_fgtr, bin_fgeq, un_fneg, neqf_self, eqf_self, wk4, wk5, wk0, fxC03c]
  refine from22_ret ?_
  rw [Int.toNat_natCast]
  simp only [Nat.reduceAdd, reduceIte, Nat.reduceEqDiff, reduceCtorEq, opLen, Int.reduceLT, Int.reduceEq, opConvert, opIndexAddr, opLoad, Nat.reduceLT, undef, Nat.reduceLeDiff, Array.toList, bin_fadd, bin_fsub, bin_fmul, bin_fquo, bin_feql, bin_fneq, bin_flss, bin_fleq, bin_fgtr, bin_fgeq, un_fneg, neqf_self, eqf_self, wk4, wk5, wk0, fxC03c]
  refine bits_ret ?_
  have e : decide ((tell n : Int) = (n : Int)) = decide (tell n = n) := decide_eq_decide.2 (by omega)
  simp only [Nat.reduceAdd, reduceIte, Nat.reduceEqDiff, reduceCtorEq, opLen, Int.reduceLT, Int.reduceEq, opConvert, opIndexAddr, opLoad, Nat.reduceLT, undef, Nat.reduceLeDiff, Array.toList, bin_fadd, bin_fsub, bin_fmul, bin_fquo, bin_feql, bin_fneq, bin_flss, bin_fleq, bin_fgtr, bin_fgeq, un_fneg, neqf_self, eqf_self, wk4, wk5, wk0, fxC03c, oneOf_two]
  try rw [e]
  exact hK
end Go.Proofs.Ytfhmfialnnhidaa
