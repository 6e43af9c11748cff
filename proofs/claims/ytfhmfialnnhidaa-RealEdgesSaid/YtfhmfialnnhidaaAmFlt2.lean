/- Floats of 64 bits: the plain law, II. -/
import Derived.Test.YtfhmfialnnhidaaAmFlt
set_option linter.unusedSimpArgs false
set_option linter.unusedVariables false
set_option maxRecDepth 100000
namespace Go.AM.Flt
open Go Go.AM
theorem sum_comm (d e : Ieee.Datum) : d.sum e = e.sum d := by
  cases d <;> cases e <;> simp only [Ieee.Datum.sum]
  · rename_i s m i t n j
    rw [Int.min_comm, Int.add_comm, Bool.and_comm]
  · rename_i s t
    by_cases h : s = t
    · subst h; rfl
    · rw [if_neg h, if_neg (fun q => h q.symm)]
theorem prod_comm (d e : Ieee.Datum) : d.product e = e.product d := by
  cases d <;> cases e <;> simp only [Ieee.Datum.product]
  · rename_i s m i t n j
    rw [Nat.mul_comm, Int.add_comm, Bool.xor_comm]
  · rw [Bool.xor_comm]
theorem add_comm (x y : Nat) : F.add x y = F.add y x := by
  unfold Ieee.Format.add; rw [sum_comm]
theorem mul_comm (x y : Nat) : F.mul x y = F.mul y x := by
  unfold Ieee.Format.mul; rw [prod_comm]
theorem cmp_int {a b : Int} : compare a b = .eq ↔ a = b := by
  simp only [compare, compareOfLessAndEq]
  constructor
  · intro h
    split at h
    · cases h
    · split at h
      · assumption
      · cases h
  · rintro rfl
    simp
theorem cmp_int_lt {a b : Int} : compare a b = .lt ↔ a < b := by
  simp only [compare, compareOfLessAndEq]
  constructor
  · intro h
    split at h
    · assumption
    · split at h <;> cases h
  · intro h
    rw [if_pos h]
theorem cmp_int_gt {a b : Int} : compare a b = .gt ↔ b < a := by
  simp only [compare, compareOfLessAndEq]
  constructor
  · intro h
    split at h
    · cases h
    · split at h
      · cases h
      · omega
  · intro h
    rw [if_neg (by omega), if_neg (by omega)]
theorem cmp_nat {a b : Nat} : compare a b = .eq ↔ a = b := by
  simp only [compare, compareOfLessAndEq]
  constructor
  · intro h
    split at h
    · cases h
    · split at h
      · assumption
      · cases h
  · rintro rfl
    simp
theorem signed_pos (m u : Nat) : Ieee.signed false m u = ((m * 2 ^ u : Nat) : Int) := by
  unfold Ieee.signed
  rw [if_neg (by decide), Nat.shiftLeft_eq]
theorem signed_neg (m u : Nat) : Ieee.signed true m u = -((m * 2 ^ u : Nat) : Int) := by
  unfold Ieee.signed
  rw [if_pos rfl, Nat.shiftLeft_eq]
theorem canon_eq {m n : Nat} {i j : Int} (c : Canon m i) (d : Canon n j) (h : m * 2 ^ (i - min i j).toNat = n * 2 ^ (j - min i j).toNat) : m = n ∧ i = j ∨ (m = 0 ∧ n = 0) := by
  rcases Int.lt_trichotomy i j with q | q | q
  · left
    exfalso
    rw [Int.min_eq_left (by omega)] at h
    have e1 : (i - i).toNat = 0 := by omega
    rw [e1, Nat.pow_zero, Nat.mul_one] at h
    obtain ⟨u, hu⟩ : ∃ u, (j - i).toNat = u + 1 := ⟨(j - i).toNat - 1, by omega⟩
    rw [hu, Nat.pow_succ] at h
    have hp := Nat.two_pow_pos u
    have hn : 2 ^ 52 ≤ n := by rcases d with ⟨_, d⟩ | ⟨d, _⟩ <;> rcases c with ⟨_, c⟩ | ⟨_, _, c, _⟩ <;> omega
    have hm : m < 2 ^ 53 := by rcases c with ⟨c, _⟩ | ⟨_, c, _⟩ <;> omega
    have : 2 ^ 52 * (1 * 2) ≤ n * (2 ^ u * 2) := Nat.mul_le_mul hn (Nat.mul_le_mul_right _ hp)
    omega
  · left
    subst q
    rw [Int.min_self] at h
    have e1 : (i - i).toNat = 0 := by omega
    rw [e1, Nat.pow_zero, Nat.mul_one, Nat.mul_one] at h
    exact ⟨h, rfl⟩
  · left
    exfalso
    rw [Int.min_eq_right (by omega)] at h
    have e1 : (j - j).toNat = 0 := by omega
    rw [e1, Nat.pow_zero, Nat.mul_one] at h
    obtain ⟨u, hu⟩ : ∃ u, (i - j).toNat = u + 1 := ⟨(i - j).toNat - 1, by omega⟩
    rw [hu, Nat.pow_succ] at h
    have hp := Nat.two_pow_pos u
    have hm : 2 ^ 52 ≤ m := by rcases c with ⟨_, c⟩ | ⟨c, _⟩ <;> rcases d with ⟨_, d⟩ | ⟨_, _, d, _⟩ <;> omega
    have hn : n < 2 ^ 53 := by rcases d with ⟨d, _⟩ | ⟨_, d, _⟩ <;> omega
    have : 2 ^ 52 * (1 * 2) ≤ m * (2 ^ u * 2) := Nat.mul_le_mul hm (Nat.mul_le_mul_right _ hp)
    omega
theorem num_rung {x y m n : Nat} {i j : Int} (c : Canon m i) (d : Canon n j) (rx : rung x = (i + 1074).toNat * 2 ^ 52 + m) (ry : rung y = (j + 1074).toNat * 2 ^ 52 + n) (h : m * 2 ^ (i - min i j).toNat = n * 2 ^ (j - min i j).toNat) : rung x = rung y := by
  rcases canon_eq c d h with ⟨rfl, rfl⟩ | ⟨rfl, rfl⟩
  · rw [rx, ry]
  · have hi : i = -1074 := by rcases c with ⟨_, c⟩ | ⟨c, _⟩ <;> omega
    have hj : j = -1074 := by rcases d with ⟨_, d⟩ | ⟨d, _⟩ <;> omega
    rw [rx, ry, hi, hj]
/-- Floats that are equal and of one sign have the same bits. -/
theorem order_bits {x y : Nat} (hx : x < 2 ^ 64) (hy : y < 2 ^ 64) (h : F.order x y = some .eq) (hs : sgn x = sgn y) : x = y := by
  have key : rung x = rung y := by
    unfold Ieee.Format.order at h
    cases read_kind x with
    | num m i hx c rx =>
      cases read_kind y with
      | num n j hy d ry =>
        rw [hx, hy] at h
        simp only [Ieee.Datum.order, Option.some.injEq, cmp_int, hs] at h
        refine num_rung c d rx ry ?_
        cases hq : sgn y with
        | false => rw [hq, signed_pos, signed_pos] at h; exact_mod_cast h
        | true => rw [hq, signed_neg, signed_neg] at h; omega
      | inf hy r =>
        rw [hx, hy] at h
        simp only [Ieee.Datum.order, Option.some.injEq] at h
        split at h <;> cases h
      | nan f hy r =>
        rw [hx, hy] at h
        cases h
    | inf hx r =>
      cases read_kind y with
      | num n j hy d ry =>
        rw [hx, hy] at h
        simp only [Ieee.Datum.order, Option.some.injEq] at h
        split at h <;> cases h
      | inf hy r2 => rw [r, r2]
      | nan f hy r =>
        rw [hx, hy] at h
        cases h
    | nan f hx r =>
      rw [hx] at h
      cases F.read y <;> cases h
  rw [← word_of hx, ← word_of hy, key, hs]
theorem order_bits_iff {x y : Nat} (hx : x < 2 ^ 64) (hy : y < 2 ^ 64) (nx : nanX x = false) : (F.order x y = some .eq ∧ sgn x = sgn y) ↔ x = y := by
  refine ⟨fun h => order_bits hx hy h.1 h.2, ?_⟩
  rintro rfl
  rw [order_self, if_neg (by rw [nx]; decide)]
  exact ⟨rfl, rfl⟩
theorem nan_num {x m : Nat} {e : Int} (c : Canon m e) (r : rung x = (e + 1074).toNat * 2 ^ 52 + m) : nanX x = false := by
  cases h : nanX x with
  | false => rfl
  | true =>
    have := (nan_iff64 x).1 h
    rcases c with ⟨c1, c2⟩ | ⟨c1, c2, c3, c4⟩ <;> omega
theorem nan_inf {x : Nat} (r : rung x = 2047 * 2 ^ 52) : nanX x = false := by
  cases h : nanX x with
  | false => rfl
  | true => have := (nan_iff64 x).1 h; omega
theorem one_read : F.read 0x3ff0000000000000 = .number false (2 ^ 52) (-52) := by decide
theorem zero_read : F.read 0 = .number false 0 (-1074) := by decide
theorem minus_read : F.read 0x8000000000000000 = .number true 0 (-1074) := by decide
theorem pinf_read : F.read 0x7ff0000000000000 = .infinity false := by decide
theorem canon_int {m : Nat} {e : Int} (c : Canon m e) : -1074 ≤ e ∧ e ≤ 971 := by rcases c with ⟨_, rfl⟩ | ⟨_, _, c, d⟩ <;> omega
/-- A float and the nought below. -/
theorem add_minus {x : Nat} (hx : x < 2 ^ 64) (hn : nanX x = false) : F.add x 0x8000000000000000 = some x := by
  unfold Ieee.Format.add
  rw [minus_read]
  cases read_kind x with
  | num m e h c r =>
    rw [h]
    have ce := canon_int c
    have hmin : min e (-1074) = -1074 := by omega
    have e2 : ((-1074 : Int) - -1074).toNat = 0 := by decide
    simp only [Ieee.Datum.sum, hmin, e2, Option.map_some, Ieee.Format.write]
    have z : Ieee.signed true 0 0 = 0 := by decide
    rw [z, Int.add_zero]
    congr 1
    have pl : (-1074 : Int) = e - ((e - -1074).toNat : Int) := by omega
    have hp := Nat.two_pow_pos (e - -1074).toNat
    by_cases hm : m = 0
    · subst hm
      have hs : Ieee.signed (sgn x) 0 (e - -1074).toNat = 0 := by
        cases sgn x
        · rw [signed_pos]; simp
        · rw [signed_neg]; simp
      have w := write_num (k := 0) hx c r
      rw [hs, if_pos rfl, Int.natAbs_zero]
      rw [Nat.zero_mul] at w
      simp only [Bool.and_true]
      have : F.nearest (sgn x) 0 (-1074) = F.nearest (sgn x) 0 (e - ((0 : Nat) : Int)) := by unfold Ieee.Format.nearest; rw [if_pos rfl, if_pos rfl]
      rw [this]
      exact w
    · have w := write_num (k := (e - -1074).toNat) hx c r
      rw [← pl] at w
      have hpos : 0 < m * 2 ^ (e - -1074).toNat := Nat.mul_pos (Nat.pos_of_ne_zero hm) hp
      cases hq : sgn x with
      | false =>
        rw [hq] at w
        rw [signed_pos, if_neg (by omega), decide_eq_false (by omega), Int.natAbs_natCast]
        exact w
      | true =>
        rw [hq] at w
        rw [signed_neg, if_neg (by omega), decide_eq_true (by omega), Int.natAbs_neg, Int.natAbs_natCast]
        exact w
  | inf h r =>
    rw [h]
    simp only [Ieee.Datum.sum, Option.map_some, Ieee.Format.write]
    rw [inf_is, ← r, word_of hx]
  | nan f h r =>
    rw [(nan_iff64 x).2 r] at hn
    cases hn
theorem mul_one {x : Nat} (hx : x < 2 ^ 64) (hn : nanX x = false) : F.mul x 0x3ff0000000000000 = some x := by
  unfold Ieee.Format.mul
  rw [one_read]
  cases read_kind x with
  | num m e h c r =>
    rw [h]
    simp only [Ieee.Datum.product, Option.map_some, Ieee.Format.write, Bool.xor_false]
    have := write_num (k := 52) hx c r
    rw [show e + -52 = e - ((52 : Nat) : Int) by omega, this]
  | inf h r =>
    rw [h]
    simp only [Ieee.Datum.product, Bool.xor_false]
    rw [if_neg (by decide)]
    simp only [Option.map_some, Ieee.Format.write]
    rw [inf_is, ← r, word_of hx]
  | nan f h r =>
    rw [(nan_iff64 x).2 r] at hn
    cases hn
end Go.AM.Flt
