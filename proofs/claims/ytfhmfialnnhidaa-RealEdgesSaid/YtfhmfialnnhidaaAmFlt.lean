/- Floats of 64 bits: the plain law. -/
import Derived.Test.YtfhmfialnnhidaaAmDat2
set_option linter.unusedSimpArgs false
set_option linter.unusedVariables false
set_option maxRecDepth 100000
namespace Go.AM.Flt
open Go Go.AM
abbrev F : Ieee.Format := Ieee.double
theorem f_is : FloatKind.f64.format = F := rfl
theorem binade_is : F.binade = 2 ^ 52 := by decide
theorem inf_is : F.infRung = 2047 * 2 ^ 52 := by decide
theorem sw_is : F.signWeight = 2 ^ 63 := by decide
theorem least_is : F.leastPlace = -1074 := by decide
theorem frac_is : F.fractionBits = 52 := rfl
def nanX (x : Nat) : Bool := nanB .f64 x
/-- The sign, the rung. -/
def sgn (x : Nat) : Bool := x / 2 ^ 63 % 2 == 1
def rung (x : Nat) : Nat := x % 2 ^ 63
theorem nan_iff64 (x : Nat) : nanX x = true ↔ 2047 * 2 ^ 52 < rung x := by
  have := nan_iff .f64 x
  rw [f_is, inf_is, sw_is] at this
  exact this
/-- A number's digits and place, as a float has them. -/
def Canon (m : Nat) (e : Int) : Prop := (m < 2 ^ 52 ∧ e = -1074) ∨ (2 ^ 52 ≤ m ∧ m < 2 ^ 53 ∧ -1074 ≤ e ∧ e ≤ 971)
inductive RK (x : Nat) : Prop
  | num (m : Nat) (e : Int) (h : F.read x = .number (sgn x) m e) (c : Canon m e) (r : rung x = (e + 1074).toNat * 2 ^ 52 + m)
  | inf (h : F.read x = .infinity (sgn x)) (r : rung x = 2047 * 2 ^ 52)
  | nan (f : Nat) (h : F.read x = .nan (sgn x) f) (r : 2047 * 2 ^ 52 < rung x)
theorem read_kind (x : Nat) : RK x := by
  have e : F.read x = (if rung x < 2 ^ 52 then .number (sgn x) (rung x) (-1074) else if rung x < 2047 * 2 ^ 52 then .number (sgn x) (2 ^ 52 + rung x % 2 ^ 52) (-1074 + (rung x / 2 ^ 52 - 1 : Nat)) else if rung x = 2047 * 2 ^ 52 then .infinity (sgn x) else .nan (sgn x) (rung x - 2047 * 2 ^ 52)) := by
    unfold Ieee.Format.read
    simp only [binade_is, inf_is, sw_is, least_is]
    rfl
  by_cases h1 : rung x < 2 ^ 52
  · rw [if_pos h1] at e
    exact .num _ _ e (.inl ⟨h1, rfl⟩) (by simp)
  · rw [if_neg h1] at e
    by_cases h2 : rung x < 2047 * 2 ^ 52
    · rw [if_pos h2] at e
      refine .num _ _ e (.inr ⟨by omega, by omega, by omega, by omega⟩) ?_
      have : (-1074 + ((rung x / 2 ^ 52 - 1 : Nat) : Int) + 1074).toNat = rung x / 2 ^ 52 - 1 := by omega
      rw [this]
      omega
    · rw [if_neg h2] at e
      by_cases h3 : rung x = 2047 * 2 ^ 52
      · rw [if_pos h3] at e
        exact .inf e h3
      · rw [if_neg h3] at e
        exact .nan _ e (by omega)
theorem word_of {x : Nat} (hx : x < 2 ^ 64) : F.word (sgn x) (rung x) = x := by
  unfold Ieee.Format.word
  rw [sw_is]
  unfold sgn rung
  by_cases h : x / 2 ^ 63 % 2 = 1
  · simp only [h, beq_self_eq_true, if_true]
    omega
  · have : (x / 2 ^ 63 % 2 == 1) = false := by simpa using h
    simp only [this, Bool.false_eq_true, if_false]
    omega
theorem sgn_word {s : Bool} {r : Nat} (hr : r < 2 ^ 63) : sgn (F.word s r) = s ∧ rung (F.word s r) = r := by
  unfold Ieee.Format.word
  rw [sw_is]
  cases s
  · simp only [Bool.false_eq_true, if_false, sgn, rung]
    refine ⟨?_, by omega⟩
    have : r / 2 ^ 63 % 2 = 0 := by omega
    rw [this]; rfl
  · simp only [if_true, sgn, rung]
    refine ⟨?_, by omega⟩
    have : (2 ^ 63 + r) / 2 ^ 63 % 2 = 1 := by omega
    rw [this]; rfl
theorem log2_mul (m k : Nat) (h : m ≠ 0) : (m * 2 ^ k).log2 = m.log2 + k := by
  have h1 := (Nat.log2_eq_iff (k := m.log2) h).1 rfl
  refine (Nat.log2_eq_iff (Nat.mul_ne_zero h (Nat.pos_iff_ne_zero.1 (Nat.two_pow_pos k)))).2 ⟨?_, ?_⟩
  · rw [Nat.pow_add]; exact Nat.mul_le_mul_right _ h1.1
  · rw [show m.log2 + k + 1 = (m.log2 + 1) + k by omega, Nat.pow_add]
    exact Nat.mul_lt_mul_of_pos_right h1.2 (Nat.two_pow_pos k)
theorem cut_exact (s : Bool) (m k : Nat) (h : m ≠ 0) : Ieee.Toward.even.cut s (m * 2 ^ k) k = m := by
  unfold Ieee.Toward.cut
  have hl := log2_mul m k h
  have hg : (1 <<< min k ((m * 2 ^ k).log2 + 2)) = 2 ^ k := by
    rw [Nat.min_eq_left (by omega), Nat.shiftLeft_eq, Nat.one_mul]
  simp only [hg]
  have hp := Nat.two_pow_pos k
  rw [Nat.mul_div_cancel _ hp, Nat.mul_mod_left]
  have e1 : decide (2 ^ k < 2 * 0) = false := by simp
  have e2 : (2 ^ k == 2 * 0) = false := by
    simp only [Nat.mul_zero, beq_eq_false_iff_ne]
    omega
  simp [e2]
/-- What is exactly a float is written as it. -/
theorem nearest_exact {s : Bool} {m k : Nat} {e : Int} (c : Canon m e) : F.nearest s (m * 2 ^ k) (e - k) = F.word s ((e + 1074).toNat * 2 ^ 52 + m) := by
  unfold Ieee.Format.nearest
  by_cases h : m = 0
  · subst h
    rw [Nat.zero_mul, if_pos rfl]
    rcases c with ⟨_, rfl⟩ | ⟨c, _⟩
    · simp
    · simp at c
  have hm : m * 2 ^ k ≠ 0 := Nat.mul_ne_zero h (Nat.pos_iff_ne_zero.1 (Nat.two_pow_pos k))
  rw [if_neg hm, log2_mul m k h, frac_is, least_is, binade_is, inf_is]
  have hlog : m.log2 ≤ 52 ∧ (2 ^ 52 ≤ m → m.log2 = 52) ∧ (m < 2 ^ 52 → m.log2 ≤ 51) := by
    have h1 := (Nat.log2_eq_iff (k := m.log2) h).1 rfl
    have m53 : m < 2 ^ 53 := by rcases c with ⟨c, _⟩ | ⟨_, c, _⟩ <;> omega
    have a : m.log2 < 53 := (Nat.log2_lt h).2 m53
    refine ⟨by omega, fun h2 => ?_, fun h2 => ?_⟩
    · have b : ¬ m.log2 < 52 := fun b => by have := (Nat.log2_lt h).1 b; omega
      omega
    · have : m.log2 < 52 := (Nat.log2_lt h).2 h2
      omega
  have hlast : max (e - (k : Int) + ((m.log2 + k : Nat) : Int) - ((52 : Nat) : Int)) (-1074) = e := by
    rcases c with ⟨c1, c2⟩ | ⟨c1, c2, c3, c4⟩
    · have := hlog.2.2 c1
      omega
    · have := hlog.2.1 c1
      omega
  simp only [hlast]
  have e1 : (e - (k : Int) - e).toNat = 0 := by omega
  have e2 : (e - (e - (k : Int))).toNat = k := by omega
  rw [e1, e2, Nat.shiftLeft_zero, cut_exact s m k h]
  have e3 : (e - -1074).toNat = (e + 1074).toNat := by omega
  rw [e3]
  congr 1
  have hb : (e + 1074).toNat * 2 ^ 52 + m ≤ 2047 * 2 ^ 52 := by
    rcases c with ⟨c1, c2⟩ | ⟨c1, c2, c3, c4⟩ <;> omega
  exact Nat.min_eq_left hb
theorem write_num {x : Nat} (hx : x < 2 ^ 64) {m k : Nat} {e : Int} (c : Canon m e) (r : rung x = (e + 1074).toNat * 2 ^ 52 + m) : F.nearest (sgn x) (m * 2 ^ k) (e - k) = x := by
  rw [nearest_exact c, ← r, word_of hx]
theorem order_self (x : Nat) : F.order x x = if nanX x = true then none else some .eq := by
  unfold Ieee.Format.order
  have cs : ∀ a : Int, compare a a = .eq := fun a => by simp [compare, compareOfLessAndEq]
  have cn : ∀ a : Nat, compare a a = .eq := fun a => by simp [compare, compareOfLessAndEq]
  cases read_kind x with
  | num m e h c r =>
    have hn : ¬ nanX x = true := by
      rw [nan_iff64]
      rcases c with ⟨c1, c2⟩ | ⟨c1, c2, c3, c4⟩ <;> omega
    rw [h, if_neg hn]
    simp [Ieee.Datum.order, cs]
  | inf h r =>
    have hn : ¬ nanX x = true := by rw [nan_iff64]; omega
    rw [h, if_neg hn]
    simp [Ieee.Datum.order, cn]
  | nan f h r =>
    rw [h, if_pos ((nan_iff64 x).2 r)]
    rfl
end Go.AM.Flt
