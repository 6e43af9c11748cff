/- Floats of 64 bits: the plain law, III. -/
import Derived.Test.YtfhmfialnnhidaaAmFlt2
set_option linter.unusedSimpArgs false
set_option linter.unusedVariables false
set_option maxRecDepth 100000
namespace Go.AM.Flt
open Go Go.AM
theorem write_inf {x : Nat} (s : Bool) : F.write (.infinity s) = F.word s (2047 * 2 ^ 52) := by unfold Ieee.Format.write; rw [inf_is]
theorem div_self {x m : Nat} {e : Int} (h : F.read x = .number (sgn x) m e) (hm : m ≠ 0) : F.div x x = some 0x3ff0000000000000 := by
  unfold Ieee.Format.div
  rw [h]
  simp only [Ieee.Datum.quotient, if_neg hm, frac_is]
  have e1 : 52 + 2 + m.log2 - m.log2 = 54 := by omega
  have e2 : m <<< 54 = m * 2 ^ 54 := Nat.shiftLeft_eq _ _
  have hp : 0 < m := Nat.pos_of_ne_zero hm
  rw [e1, e2, Nat.mul_comm m, Nat.mul_div_cancel _ hp, Nat.mul_mod_left]
  have e3 : e - e - ((54 : Nat) : Int) - 1 = -55 := by omega
  rw [e3, Bool.xor_self]
  decide
theorem div_self_zero {x : Nat} {e : Int} (h : F.read x = .number (sgn x) 0 e) : F.div x x = none := by
  unfold Ieee.Format.div
  rw [h]
  simp [Ieee.Datum.quotient]
theorem div_self_inf {x : Nat} (h : F.read x = .infinity (sgn x)) : F.div x x = none := by
  unfold Ieee.Format.div
  rw [h]
  simp [Ieee.Datum.quotient]
theorem div_self_nan {x f : Nat} (h : F.read x = .nan (sgn x) f) : F.div x x = none := by
  unfold Ieee.Format.div
  rw [h]
  simp [Ieee.Datum.quotient]
theorem div_zero {x : Nat} (hn : nanX x = false) : F.div x 0 = if (F.read x).isZero = true then none else some (F.word (sgn x) (2047 * 2 ^ 52)) := by
  unfold Ieee.Format.div
  rw [zero_read]
  cases read_kind x with
  | num m e h c r =>
    rw [h]
    cases m with
    | zero => simp [Ieee.Datum.quotient, Ieee.Datum.isZero]
    | succ m => simp [Ieee.Datum.quotient, Ieee.Datum.isZero, Ieee.Format.write, inf_is]
  | inf h r =>
    rw [h]
    simp [Ieee.Datum.quotient, Ieee.Datum.isZero, Ieee.Format.write, inf_is]
  | nan f h r =>
    rw [(nan_iff64 x).2 r] at hn
    cases hn
theorem div_pinf_num {x m : Nat} {e : Int} (h : F.read x = .number (sgn x) m e) : F.div x 0x7ff0000000000000 = some (F.word (sgn x) 0) := by
  unfold Ieee.Format.div
  rw [pinf_read, h]
  simp [Ieee.Datum.quotient, Ieee.Format.write, Ieee.Format.nearest]
/-- The other sign. -/
def neg (x : Nat) : Nat := Op.negFloat .f64 x
theorem neg_rung (x : Nat) : rung (neg x) = rung x := by
  unfold rung neg Op.negFloat
  show (x ^^^ 2 ^ 63) % 2 ^ 63 = x % 2 ^ 63
  rw [Nat.xor_mod_two_pow, Nat.mod_self, Nat.xor_zero]
theorem neg_sgn (x : Nat) : sgn (neg x) = !sgn x := by
  unfold sgn neg Op.negFloat
  show ((x ^^^ 2 ^ 63) / 2 ^ 63 % 2 == 1) = !(x / 2 ^ 63 % 2 == 1)
  have e : (x ^^^ 2 ^ 63) / 2 ^ 63 = (x / 2 ^ 63) ^^^ 1 := by
    rw [← Nat.shiftRight_eq_div_pow, ← Nat.shiftRight_eq_div_pow, Nat.shiftRight_xor_distrib]
    rfl
  rw [e]
  have h2 : (x / 2 ^ 63 ^^^ 1) % 2 = (x / 2 ^ 63 % 2) ^^^ 1 := by
    have := Nat.xor_mod_two_pow (a := x / 2 ^ 63) (b := 1) (n := 1)
    simpa using this
  rw [h2]
  have : x / 2 ^ 63 % 2 = 0 ∨ x / 2 ^ 63 % 2 = 1 := by omega
  rcases this with h | h <;> rw [h] <;> rfl
theorem neg_lt {x : Nat} (h : x < 2 ^ 64) : neg x < 2 ^ 64 := by
  unfold neg Op.negFloat
  exact Nat.xor_lt_two_pow h (by decide)
theorem nan_neg (x : Nat) : nanX (neg x) = nanX x := by
  rw [Bool.eq_iff_iff, nan_iff64, nan_iff64, neg_rung]
theorem read_neg (x : Nat) : F.read (neg x) = (F.read x).opposite := by
  have e : ∀ y, F.read y = (if rung y < 2 ^ 52 then .number (sgn y) (rung y) (-1074) else if rung y < 2047 * 2 ^ 52 then .number (sgn y) (2 ^ 52 + rung y % 2 ^ 52) (-1074 + (rung y / 2 ^ 52 - 1 : Nat)) else if rung y = 2047 * 2 ^ 52 then .infinity (sgn y) else .nan (sgn y) (rung y - 2047 * 2 ^ 52)) := by
    intro y
    unfold Ieee.Format.read
    simp only [binade_is, inf_is, sw_is, least_is]
    rfl
  rw [e, e, neg_rung, neg_sgn]
  repeat' split
  all_goals first | rfl | omega
theorem prod_opp (d e : Ieee.Datum) : d.opposite.product e = d.product e.opposite := by
  cases d <;> cases e <;> simp [Ieee.Datum.product, Ieee.Datum.opposite]
theorem mul_neg (x y : Nat) : F.mul (neg x) y = F.mul x (neg y) := by
  unfold Ieee.Format.mul
  rw [read_neg, read_neg, prod_opp]
theorem signed_not (s : Bool) (m u : Nat) : Ieee.signed (!s) m u = -Ieee.signed s m u := by
  cases s
  · rw [Bool.not_false, signed_pos, signed_neg]
  · rw [Bool.not_true, signed_pos, signed_neg, Int.neg_neg]
def swapO : Option Ordering → Option Ordering := Option.map Ordering.swap
theorem order_opp (d e : Ieee.Datum) : d.opposite.order e.opposite = swapO (d.order e) := by
  have ci : ∀ a b : Int, compare (-a) (-b) = (compare a b).swap := by
    intro a b
    rcases Int.lt_trichotomy a b with h | h | h
    · rw [cmp_int_lt.2 h, cmp_int_gt.2 (by omega)]; rfl
    · subst h; rw [cmp_int.2 rfl, cmp_int.2 rfl]; rfl
    · rw [cmp_int_gt.2 h, cmp_int_lt.2 (by omega)]; rfl
  cases d <;> cases e <;> simp [Ieee.Datum.order, Ieee.Datum.opposite, swapO, signed_not, ci]
  all_goals (rename_i a b; first | (cases a <;> cases b <;> rfl) | (cases a <;> rfl) | (cases b <;> rfl) | skip)
  all_goals (rename_i s t; cases s <;> rfl)
def FAR : Nat := 0x41e0000000000000
def NFAR : Nat := 0xc1e0000000000000
theorem far_read : F.read FAR = .number false (2 ^ 52) (-21) := by decide
theorem nfar_read : F.read NFAR = .number true (2 ^ 52) (-21) := by decide
theorem nfar_is : neg FAR = NFAR := by decide
theorem far_neg : neg NFAR = FAR := by decide
/-- What is left of digits when those below a place are cut off. -/
def whole (m : Nat) (e : Int) : Nat := Ieee.Toward.zero.cut false (m <<< e.toNat) (-e).toNat
theorem whole_sign (s : Bool) (n d : Nat) : Ieee.Toward.zero.cut s n d = Ieee.Toward.zero.cut false n d := rfl
theorem whole_le (m : Nat) (e : Int) : whole m e ≤ m * 2 ^ e.toNat := by
  unfold whole Ieee.Toward.cut
  simp only [Bool.toNat_false, Nat.add_zero]
  rw [Nat.shiftLeft_eq]
  exact Nat.div_le_self _ _
theorem toInt_num (s : Bool) (m : Nat) (e : Int) : Ieee.Datum.toInt .zero (.number s m e) = some (Ieee.signed s (whole m e) 0) := rfl
theorem signed_zero_abs (s : Bool) (m : Nat) : (Ieee.signed s m 0).natAbs = m := by
  cases s
  · rw [signed_pos]; simp
  · rw [signed_neg]; simp
/-- A float as a whole number. -/
def wholeX (x : Nat) : Int :=
  if nanX x = true then 0
  else if F.order x FAR = some .gt ∨ F.order x FAR = some .eq then 2147483648
  else if F.order x NFAR = some .lt ∨ F.order x NFAR = some .eq then -2147483648
  else (floatInt .f64 x .i64).getD 0
theorem floatInt_some {x : Nat} (hn : nanX x = false) (h1 : ¬ (F.order x FAR = some .gt ∨ F.order x FAR = some .eq)) (h2 : ¬ (F.order x NFAR = some .lt ∨ F.order x NFAR = some .eq)) :
    ∃ (m : Nat) (e : Int), F.read x = .number (sgn x) m e ∧ floatInt .f64 x .i64 = some (Ieee.signed (sgn x) (whole m e) 0) ∧ (whole m e : Int) < 2 ^ 60 := by
  cases read_kind x with
  | nan f h r =>
    rw [(nan_iff64 x).2 r] at hn
    cases hn
  | inf h r =>
    exfalso
    unfold Ieee.Format.order at h1 h2
    rw [h, far_read] at h1
    rw [h, nfar_read] at h2
    cases hs : sgn x
    · rw [hs] at h1; exact h1 (.inl rfl)
    · rw [hs] at h2; exact h2 (.inl rfl)
  | num m e h c r =>
    have hw : (whole m e : Int) < 2 ^ 60 := by
      have hl := whole_le m e
      have m53 : m < 2 ^ 53 := by rcases c with ⟨c, _⟩ | ⟨_, c, _⟩ <;> omega
      by_cases he : 0 ≤ e
      · unfold Ieee.Format.order at h1 h2
        rw [h, far_read] at h1
        rw [h, nfar_read] at h2
        have hb : min e (-21) = -21 := by omega
        have e1 : ((-21 : Int) - -21).toNat = 0 := by decide
        have e2 : (e - -21).toNat = e.toNat + 21 := by omega
        simp only [Ieee.Datum.order, hb, e1, e2, Option.some.injEq, cmp_int, cmp_int_gt, cmp_int_lt] at h1 h2
        have key : m * 2 ^ (e.toNat + 21) < 2 ^ 52 := by
          cases hs : sgn x with
          | false =>
            rw [hs, signed_pos, signed_pos] at h1
            have : ¬ (((2 ^ 52 * 2 ^ 0 : Nat) : Int) < ((m * 2 ^ (e.toNat + 21) : Nat) : Int) ∨ ((m * 2 ^ (e.toNat + 21) : Nat) : Int) = ((2 ^ 52 * 2 ^ 0 : Nat) : Int)) := h1
            omega
          | true =>
            rw [hs, signed_neg, signed_neg] at h2
            have : ¬ (-((m * 2 ^ (e.toNat + 21) : Nat) : Int) < -((2 ^ 52 * 2 ^ 0 : Nat) : Int) ∨ -((m * 2 ^ (e.toNat + 21) : Nat) : Int) = -((2 ^ 52 * 2 ^ 0 : Nat) : Int)) := h2
            omega
        rw [Nat.pow_add, ← Nat.mul_assoc] at key
        omega
      · have : e.toNat = 0 := by omega
        rw [this] at hl
        omega
    refine ⟨m, e, h, ?_, hw⟩
    have ha := signed_zero_abs (sgn x) (whole m e)
    unfold floatInt FloatKind.decode
    rw [f_is, h, toInt_num]
    simp only
    rw [if_pos]
    have b1 : IntKind.i64.min = -9223372036854775808 := by decide
    have b2 : IntKind.i64.max = 9223372036854775807 := by decide
    rw [b1, b2]
    omega
theorem order_neg (x y : Nat) : F.order (neg x) (neg y) = swapO (F.order x y) := by
  unfold Ieee.Format.order
  rw [read_neg, read_neg, order_opp]
theorem swap_gt {o : Option Ordering} : swapO o = some .gt ↔ o = some .lt := by
  cases o with
  | none => simp [swapO]
  | some o => cases o <;> simp [swapO]
theorem swap_lt {o : Option Ordering} : swapO o = some .lt ↔ o = some .gt := by
  cases o with
  | none => simp [swapO]
  | some o => cases o <;> simp [swapO]
theorem swap_eq {o : Option Ordering} : swapO o = some .eq ↔ o = some .eq := by
  cases o with
  | none => simp [swapO]
  | some o => cases o <;> simp [swapO]
theorem whole_neg (x : Nat) : wholeX (neg x) = -wholeX x := by
  have o1 : F.order (neg x) FAR = swapO (F.order x NFAR) := by rw [← far_neg, order_neg]
  have o2 : F.order (neg x) NFAR = swapO (F.order x FAR) := by rw [← nfar_is, order_neg]
  unfold wholeX
  simp only [nan_neg, o1, o2, swap_gt, swap_eq, swap_lt]
  cases hn : nanX x with
  | true => rfl
  | false =>
    simp only [Bool.false_eq_true, if_false]
    by_cases h1 : F.order x FAR = some .gt ∨ F.order x FAR = some .eq
    · by_cases h2 : F.order x NFAR = some .lt ∨ F.order x NFAR = some .eq
      · exfalso
        unfold Ieee.Format.order at h1 h2
        rw [far_read] at h1
        rw [nfar_read] at h2
        cases read_kind x with
        | nan f h r =>
          rw [h] at h1
          rcases h1 with h1 | h1 <;> cases h1
        | inf h r =>
          rw [h] at h1 h2
          simp only [Ieee.Datum.order, Option.some.injEq] at h1 h2
          cases hs : sgn x <;> rw [hs] at h1 h2 <;> simp at h1 h2
        | num m e h c r =>
          rw [h] at h1 h2
          simp only [Ieee.Datum.order, Option.some.injEq, cmp_int, cmp_int_gt, cmp_int_lt] at h1 h2
          have p1 := Nat.two_pow_pos ((-21 : Int) - min e (-21)).toNat
          rw [signed_pos] at h1
          rw [signed_neg] at h2
          have q : 0 < 2 ^ 52 * 2 ^ ((-21 : Int) - min e (-21)).toNat := Nat.mul_pos (by decide) p1
          omega
      · rw [if_pos h1, if_neg h2, if_pos h1]
    · by_cases h2 : F.order x NFAR = some .lt ∨ F.order x NFAR = some .eq
      · rw [if_pos h2, if_neg h1, if_pos h2]
        decide
      · rw [if_neg h1, if_neg h2, if_neg h2, if_neg h1]
        obtain ⟨m, e, hr, hf, _⟩ := floatInt_some hn h1 h2
        have n1 : ¬ (F.order (neg x) FAR = some .gt ∨ F.order (neg x) FAR = some .eq) := by rw [o1, swap_gt, swap_eq]; exact h2
        have n2 : ¬ (F.order (neg x) NFAR = some .lt ∨ F.order (neg x) NFAR = some .eq) := by rw [o2, swap_lt, swap_eq]; exact h1
        obtain ⟨m', e', hr', hf', _⟩ := floatInt_some (by rw [nan_neg]; exact hn) n1 n2
        rw [read_neg, hr] at hr'
        simp only [Ieee.Datum.opposite, Ieee.Datum.number.injEq] at hr'
        obtain ⟨hs, rfl, rfl⟩ := hr'
        rw [hf, hf', ← hs, signed_not]
        rfl
end Go.AM.Flt
