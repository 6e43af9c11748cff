/- Bits of bytes that are turned within 32 neighbours. -/
import Derived.Test.YtlinpajigihpmaaAmCrc3
set_option linter.unusedSimpArgs false
set_option linter.unusedVariables false
namespace Go.AM.Crc
open Go

/-- Bits turned one behind the other. -/
def turned (X : List Int) (p : Nat) (w : BitVec 32) : Nat → List Int
  | 0 => X
  | k + 1 => if (w <<< k).msb = true then (turned X p w k).set ((p + k) / 8) (bits .xor .u8 ((turned X p w k).getD ((p + k) / 8) 0) (((128#8 >>> ((p + k) % 8)).toNat : Nat) : Int)) else turned X p w k
theorem turned_length (X : List Int) (p : Nat) (w : BitVec 32) (k : Nat) : (turned X p w k).length = X.length := by
  induction k with
  | zero => rfl
  | succ k ih =>
    rw [turned]
    split
    · rw [List.length_set, ih]
    · exact ih
theorem turned_bytes {X : List Int} (hX : Bytes X) (p : Nat) (w : BitVec 32) (k : Nat) : Bytes (turned X p w k) := by
  induction k with
  | zero => exact hX
  | succ k ih =>
    rw [turned]
    split
    · exact bytes_set ih _ _ _
    · exact ih
theorem one_bit : ∀ r, r < 8 → ∀ t, t < 8 → (128#8 >>> r).getLsbD t = decide (t + r = 7) := by decide
theorem turned_msg {X : List Int} (hX : Bytes X) {p : Nat} {w : BitVec 32} : ∀ k, p + k ≤ 8 * X.length → ∀ j, msg (turned X p w k) j = (msg X j ^^ (decide (p ≤ j) && (decide (j < p + k) && (w <<< (j - p)).msb)))
  | 0, _, j => by
    have : (decide (p ≤ j) && (decide (j < p + 0) && (w <<< (j - p)).msb)) = false := by
      by_cases h : p ≤ j
      · simp [show ¬ j < p by omega]
      · simp [h]
    rw [this, Bool.xor_false]
    rfl
  | k + 1, hk, j => by
    have ih := turned_msg hX (p := p) (w := w) k (by omega) j
    rw [turned]
    by_cases hb : (w <<< k).msb = true
    · rw [if_pos hb, msg_set (turned_bytes hX p w k) (i := (p + k) / 8) (by rw [turned_length]; omega), ih, Bool.xor_assoc, one_bit _ (by omega) _ (by omega)]
      congr 1
      by_cases h : j = p + k
      · subst h
        have a : decide (p + k < p + k) = false := by simp
        have b : p + k < p + (k + 1) := by omega
        have c : 7 - (p + k) % 8 + (p + k) % 8 = 7 := by omega
        simp only [a, b, c, Bool.false_and, Bool.and_false, decide_true, Bool.and_self, Bool.false_xor, Nat.le_add_right, Nat.add_sub_cancel_left, hb]
      · have a : (decide (j / 8 = (p + k) / 8) && decide (7 - j % 8 + (p + k) % 8 = 7)) = false := by
          by_cases h1 : j / 8 = (p + k) / 8
          · have : ¬ 7 - j % 8 + (p + k) % 8 = 7 := by omega
            simp [this]
          · simp [h1]
        rw [a, Bool.xor_false]
        have b : decide (j < p + (k + 1)) = decide (j < p + k) := decide_eq_decide.2 (by omega)
        rw [b]
    · rw [if_neg hb, ih]
      congr 1
      by_cases h : j = p + k
      · subst h
        have hb' : (w <<< k).msb = false := by simpa using hb
        simp [hb']
      · have b : decide (j < p + (k + 1)) = decide (j < p + k) := decide_eq_decide.2 (by omega)
        rw [b]

theorem mask_low (w : BitVec 32) (k : Nat) (hk : k < 32) : (w.toNat / 2 ^ (31 - k)) % 2 = 1 ↔ (w <<< k).msb = true := by
  rw [msb_bit w k hk]
  simp only [BitVec.getLsbD, Nat.testBit, Nat.shiftRight_eq_div_pow, Nat.and_comm 1, Nat.and_one_is_mod]
  simp
theorem mask_shr (w : BitVec 32) (k : Nat) (hk : k < 32) : (w.toNat : Int).fdiv (2 ^ min (Int.toNat (31 - (k : Int))) IntKind.u32.bits) = ((w.toNat / 2 ^ (31 - k) : Nat) : Int) := by
  have e1 : min (Int.toNat (31 - (k : Int))) IntKind.u32.bits = 31 - k := by simp only [IntKind.bits]; omega
  rw [e1, Int.fdiv_eq_ediv_of_nonneg _ (Int.le_of_lt (Int.pow_pos (by decide)))]
  simp
theorem mask_and (w : BitVec 32) (k : Nat) (hk : k < 32) : bits .and .u32 ((w.toNat : Int).fdiv (2 ^ min (Int.toNat (31 - (k : Int))) IntKind.u32.bits)) 1 = 1 ↔ (w <<< k).msb = true := by
  rw [mask_shr w k hk, ← mask_low w k hk]
  have : bits .and .u32 ((w.toNat / 2 ^ (31 - k) : Nat) : Int) 1 = ((w.toNat / 2 ^ (31 - k) % 2 : Nat) : Int) := by
    have h1 : w.toNat / 2 ^ (31 - k) < 4294967296 := Nat.lt_of_le_of_lt (Nat.div_le_self _ _) w.isLt
    have h2 := u32_and_nat (w.toNat / 2 ^ (31 - k)) 1 h1 (by decide)
    rw [Nat.and_one_is_mod] at h2
    exact h2
  rw [this]
  omega
theorem mask_mod (w : BitVec 32) (k : Nat) (hk : k < 32) : Int.tmod ((w.toNat : Int).fdiv (2 ^ min (Int.toNat (31 - (k : Int))) IntKind.u32.bits)) 2 = 1 ↔ (w <<< k).msb = true := by
  rw [mask_shr w k hk, ← mask_low w k hk, Int.tmod_eq_emod_of_nonneg (Int.natCast_nonneg _)]
  omega
theorem one_mask (r : Nat) (hr : r < 8) : (128 : Int).fdiv (2 ^ min r IntKind.u8.bits) = (((128#8 >>> r).toNat : Nat) : Int) := by
  revert r
  decide
theorem u32_vec {n : Int} (h : 0 ≤ n ∧ n < 4294967296) : ∃ w : BitVec 32, n = w.toNat := ⟨BitVec.ofNat 32 n.toNat, by
  rw [BitVec.toNat_ofNat, Nat.mod_eq_of_lt (by omega)]
  omega⟩
theorem vec_zero (w : BitVec 32) : ((w.toNat : Int) = 0) ↔ w = 0#32 := by
  constructor
  · intro h
    exact BitVec.eq_of_toNat_eq (by simpa using h)
  · rintro rfl
    rfl
theorem tmod_bound (F : Int) {R : Int} (h : 0 < R) : -R < Int.tmod F R ∧ Int.tmod F R < R := by
  rcases Int.le_total 0 F with hF | hF
  · rw [Int.tmod_eq_emod_of_nonneg hF]
    have := Int.emod_nonneg F (show R ≠ 0 by omega)
    have := Int.emod_lt_of_pos F h
    omega
  · have e : Int.tmod F R = -(Int.tmod (-F) R) := by rw [Int.neg_tmod, Int.neg_neg]
    rw [e, Int.tmod_eq_emod_of_nonneg (by omega)]
    have := Int.emod_nonneg (-F) (show R ≠ 0 by omega)
    have := Int.emod_lt_of_pos (-F) h
    omega
theorem tmod_emod (F R : Int) : Int.tmod F R % R = F % R := by
  have h := Int.mul_tdiv_add_tmod F R
  have e : Int.tmod F R = F - R * F.tdiv R := by omega
  rw [e, Int.sub_mul_emod_self_left]
end Go.AM.Crc
