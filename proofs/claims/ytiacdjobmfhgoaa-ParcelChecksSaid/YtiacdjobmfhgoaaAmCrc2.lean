/- The reference's sum, bit by bit, is the sum. -/
import Derived.Test.YtiacdjobmfhgoaaAmCrc
set_option linter.unusedSimpArgs false
set_option linter.unusedVariables false
namespace Go.AM.Crc
open Go Go.AM

def b2i (b : Bool) : Int := if b then 1 else 0
def rowOf (L : Nat) (f : Nat → Bool) : List Int := (List.range L).map fun j => b2i (f j)
theorem rowOf_length (L : Nat) (f : Nat → Bool) : (rowOf L f).length = L := by simp [rowOf]
theorem rowOf_getD {L : Nat} {f : Nat → Bool} {j : Nat} (h : j < L) : (rowOf L f).getD j 0 = b2i (f j) := by
  rw [List.getD_eq_getElem?_getD, List.getElem?_eq_getElem (by rw [rowOf_length]; exact h)]
  simp [rowOf]
theorem rowOf_set {L : Nat} {f g : Nat → Bool} {j : Nat} {b : Bool} (h : ∀ i, i < L → g i = if i = j then b else f i) : (rowOf L f).set j (b2i b) = rowOf L g := by
  unfold rowOf
  rw [set_range]
  refine List.map_congr_left fun i hi => ?_
  rw [h i (by simpa using hi)]
  split <;> rfl
theorem rowOf_snoc (L : Nat) (f : Nat → Bool) : rowOf L f ++ [b2i (f L)] = rowOf (L + 1) f := by
  simp [rowOf, List.range_succ]
theorem rowOf_zeros {L n : Nat} {f : Nat → Bool} (h : ∀ j, L ≤ j → f j = false) : rowOf L f ++ List.replicate n 0 = rowOf (L + n) f := by
  induction n with
  | zero => simp
  | succ n ih => rw [List.replicate_succ', ← List.append_assoc, ih, ← Nat.add_assoc, ← rowOf_snoc, h (L + n) (by omega)]; rfl
theorem rowOf_congr {L : Nat} {f g : Nat → Bool} (h : ∀ j, j < L → f j = g j) : rowOf L f = rowOf L g := by
  unfold rowOf
  exact List.map_congr_left fun j hj => by rw [h j (by simpa using hj)]

/-- The bits of a message. -/
def msg (bs : List Int) (j : Nat) : Bool := (BitVec.ofInt 8 (bs.getD (j / 8) 0)).getLsbD (7 - j % 8)
theorem msg_end {bs : List Int} {j : Nat} (h : 8 * bs.length ≤ j) : msg bs j = false := by
  unfold msg
  rw [List.getD_eq_getElem?_getD, List.getElem?_eq_none (by omega)]
  simp

def stepD (s : BitVec 32) (b : Bool) : BitVec 32 := (s <<< 1) ^^^ (if (s.msb ^^ b) then 79764919#32 else 0#32)
def St (bs : List Int) : Nat → BitVec 32
  | 0 => 4294967295#32
  | k + 1 => stepD (St bs k) (msg bs k)

theorem stepB_mix (s y : BitVec 32) : stepB (s ^^^ y) = stepD s y.msb ^^^ (y <<< 1) := by
  unfold stepB stepD
  rw [BitVec.shiftLeft_xor_distrib, BitVec.msb_xor]
  ac_rfl

theorem c_msb (c : BitVec 8) (j : Nat) (h : j < 8) : ((c.setWidth 32) <<< (24 + j)).msb = c.getLsbD (7 - j) := by
  rw [BitVec.msb_eq_getLsbD_last, BitVec.getLsbD_shiftLeft, BitVec.getLsbD_setWidth]
  have h1 : ¬ 32 - 1 < 24 + j := by omega
  have h2 : 32 - 1 - (24 + j) = 7 - j := by omega
  have h3 : 7 - j < 32 := by omega
  simp [h1, h2, h3]
theorem c_shift (c : BitVec 8) (j : Nat) : ((c.setWidth 32) <<< (24 + j)) <<< 1 = (c.setWidth 32) <<< (24 + (j + 1)) := by
  rw [← BitVec.shiftLeft_add, Nat.add_assoc]

/-- Steps bit by bit, from the highest. -/
def stepsD (c : BitVec 8) : Nat → Nat → BitVec 32 → BitVec 32
  | 0, _, s => s
  | k + 1, j, s => stepsD c k (j + 1) (stepD s (c.getLsbD (7 - j)))
theorem rounds_mix (c : BitVec 8) : ∀ (k j : Nat) (s : BitVec 32), j + k ≤ 8 → roundsB k (s ^^^ ((c.setWidth 32) <<< (24 + j))) = stepsD c k j s ^^^ ((c.setWidth 32) <<< (24 + (j + k)))
  | 0, j, s, _ => rfl
  | k + 1, j, s, h => by
    rw [roundsB, stepB_mix, c_msb c j (by omega), c_shift, rounds_mix c k (j + 1) _ (by omega), stepsD, Nat.add_assoc j 1 k, Nat.add_comm 1 k]
theorem byte_steps (s : BitVec 32) (c : BitVec 8) : byteB s c = stepsD c 8 0 s := by
  have h := rounds_mix c 8 0 s (by omega)
  have e : (c.setWidth 32) <<< (24 + (0 + 8)) = 0#32 := BitVec.shiftLeft_eq_zero (by decide)
  rw [e, BitVec.xor_zero] at h
  exact h

theorem st_steps (bs : List Int) (i : Nat) : ∀ (k j : Nat), j + k ≤ 8 → St bs (8 * i + (j + k)) = stepsD (BitVec.ofInt 8 (bs.getD i 0)) k j (St bs (8 * i + j))
  | 0, j, _ => rfl
  | k + 1, j, h => by
    have h1 := st_steps bs i k (j + 1) (by omega)
    rw [show j + (k + 1) = j + 1 + k by omega, h1, stepsD]
    congr 1
    have h2 : msg bs (8 * i + j) = (BitVec.ofInt 8 (bs.getD i 0)).getLsbD (7 - j) := by
      unfold msg
      rw [show (8 * i + j) / 8 = i by omega, show (8 * i + j) % 8 = j by omega]
    rw [← h2]
    rfl

theorem st_bytes (bs : List Int) : ∀ i, i ≤ bs.length → St bs (8 * i) = (vecs (bs.take i)).foldl byteB 4294967295#32
  | 0, _ => rfl
  | i + 1, h => by
    have h1 := st_steps bs i 8 0 (by omega)
    rw [show 8 * (i + 1) = 8 * i + (0 + 8) by omega, h1, ← byte_steps, Nat.add_zero, st_bytes bs i (by omega)]
    have h3 : bs.take (i + 1) = bs.take i ++ [bs.getD i 0] := by
      rw [List.take_add_one, List.getD_eq_getElem?_getD, List.getElem?_eq_getElem (by omega)]
      rfl
    rw [h3]
    simp [vecs]

theorem sum_st (bs : List Int) (h : Bytes bs) : crcSum bs = ((4294967295#32 ^^^ St bs (8 * bs.length)).toNat : Int) := by
  have e := sum_eq (vecs bs)
  rw [nums_vecs h] at e
  rw [e, sumB, st_bytes bs _ (Nat.le_refl _), List.take_length]

/-- What the row of bits holds when k of them are done. -/
def Fk (bs : List Int) (k j : Nat) : Bool := if j < k then false else if j < k + 32 then ((St bs k).getLsbD (31 - (j - k)) ^^ msg bs j) else msg bs j

def polys : List Nat := [0, 6, 9, 10, 16, 20, 21, 22, 24, 25, 27, 28, 30, 31, 32]

theorem poly_bits : ∀ d, d < 33 → 0 < d → (79764919#32).getLsbD (32 - d) = polys.contains d := by decide
theorem polys_le : ∀ d, polys.contains d = true → d ≤ 32 := by
  intro d h
  by_cases hd : d ≤ 32
  · exact hd
  · simp [polys] at h
    omega

theorem Fk_top (bs : List Int) (k : Nat) : Fk bs k k = ((St bs k).msb ^^ msg bs k) := by
  unfold Fk
  rw [if_neg (by omega), if_pos (by omega), BitVec.msb_eq_getLsbD_last, Nat.sub_self]

theorem shl_bit (s : BitVec 32) (i : Nat) (h : i < 32) : (s <<< 1).getLsbD i = (decide (0 < i) && s.getLsbD (i - 1)) := by
  rw [BitVec.getLsbD_shiftLeft]
  by_cases h0 : i < 1
  · simp [show ¬ 0 < i by omega, h0]
  · simp [show 0 < i by omega, h0, h]

theorem Fk_next (bs : List Int) (k : Nat) : ∀ j, Fk bs (k + 1) j = (Fk bs k j ^^ (Fk bs k k && (decide (k ≤ j) && polys.contains (j - k)))) := by
  intro j
  rw [Fk_top]
  by_cases hj : j < k
  · simp only [Fk, if_pos hj, if_pos (show j < k + 1 by omega), show ¬ k ≤ j by omega, decide_false, Bool.false_and, Bool.and_false, Bool.xor_false]
  · rcases Nat.lt_or_ge j (k + 1) with h1 | h1
    · obtain rfl : j = k := by omega
      rw [Fk_top]
      unfold Fk
      rw [if_pos (by omega)]
      have : polys.contains (j - j) = true := by rw [Nat.sub_self]; decide
      rw [this]
      cases (St bs j).msb <;> cases msg bs j <;> simp
    · have hd : k ≤ j := by omega
      obtain ⟨d, rfl⟩ : ∃ d, j = k + d := ⟨j - k, by omega⟩
      simp only [Nat.add_sub_cancel_left, hd, decide_true, Bool.true_and]
      unfold Fk
      have a1 : ¬ k + d < k + 1 := by omega
      have a2 : ¬ k + d < k := by omega
      rw [if_neg a1, if_neg a2]
      by_cases h2 : d ≤ 32
      · have a3 : k + d < k + 1 + 32 := by omega
        rw [if_pos a3]
        have h3 : 31 - (k + d - (k + 1)) = 32 - d := by omega
        rw [h3, St, stepD, BitVec.getLsbD_xor, shl_bit _ _ (by omega)]
        have h4 : (if ((St bs k).msb ^^ msg bs k) = true then 79764919#32 else 0#32).getLsbD (32 - d) = (((St bs k).msb ^^ msg bs k) && polys.contains d) := by
          rw [← poly_bits d (by omega) (by omega)]
          cases ((St bs k).msb ^^ msg bs k) <;> simp
        rw [h4]
        by_cases h5 : d = 32
        · subst h5
          have a4 : ¬ k + 32 < k + 32 := by omega
          rw [if_neg a4]
          cases msg bs (k + 32) <;> cases (((St bs k).msb ^^ msg bs k) && polys.contains 32) <;> simp
        · have a4 : k + d < k + 32 := by omega
          rw [if_pos a4]
          have h6 : 32 - d - 1 = 31 - (k + d - k) := by omega
          rw [h6]
          have h7 : decide (0 < 32 - d) = true := decide_eq_true (by omega)
          rw [h7]
          cases (St bs k).getLsbD (31 - (k + d - k)) <;> cases msg bs (k + d) <;> cases (((St bs k).msb ^^ msg bs k) && polys.contains d) <;> rfl
      · have a3 : ¬ k + d < k + 1 + 32 := by omega
        have a4 : ¬ k + d < k + 32 := by omega
        rw [if_neg a3, if_neg a4]
        have : polys.contains d = false := by
          cases hc : polys.contains d with
          | false => rfl
          | true => exact absurd (polys_le d hc) h2
        rw [this]
        simp
end Go.AM.Crc
namespace Go.AM.Crc
open Go Go.AM

theorem flip_bit (b : Bool) : IntKind.u8.wrap (1 - b2i b) = b2i (!b) := by cases b <;> decide
theorem b2i_one (b : Bool) : (b2i b = 1) ↔ b = true := by cases b <;> simp [b2i]

theorem bit_of (c : Int) (h0 : 0 ≤ c) (h1 : c < 256) (t : Nat) (ht : t < 8) : Int.tmod (Int.fdiv c (2 ^ min (Int.toNat (7 - (t : Int))) IntKind.u8.bits)) 2 = b2i ((BitVec.ofInt 8 c).getLsbD (7 - t)) := by
  have e1 : Int.toNat (7 - (t : Int)) = 7 - t := by omega
  have e2 : min (7 - t) IntKind.u8.bits = 7 - t := by
    simp only [IntKind.bits]; omega
  obtain ⟨n, rfl⟩ : ∃ n : Nat, c = n := ⟨c.toNat, by omega⟩
  have hn : n < 256 := by omega
  rw [e1, e2, BitVec.ofInt_natCast, BitVec.getLsbD_ofNat]
  have e3 : (7 - t < 8) := by omega
  have e4 : Int.fdiv (n : Int) (2 ^ (7 - t)) = ((n / 2 ^ (7 - t) : Nat) : Int) := by
    rw [Int.fdiv_eq_ediv_of_nonneg _ (Int.le_of_lt (Int.pow_pos (by decide)))]
    simp
  rw [e4]
  have e5 : Int.tmod ((n / 2 ^ (7 - t) : Nat) : Int) 2 = ((n / 2 ^ (7 - t) % 2 : Nat) : Int) := by
    rw [Int.tmod_eq_emod_of_nonneg (Int.natCast_nonneg _)]
    simp
  rw [e5, Nat.testBit_eq_decide_div_mod_eq]
  simp only [e3, decide_true, Bool.true_and, b2i]
  rcases Nat.mod_two_eq_zero_or_one (n / 2 ^ (7 - t)) with h | h <;> simp [h]

/-- What is told of the highest t bits. -/
def topOf (x : BitVec 32) (t : Nat) : Int := ((x.toNat / 2 ^ (32 - t) : Nat) : Int)
theorem topOf_zero (x : BitVec 32) : topOf x 0 = 0 := by
  unfold topOf
  rw [Nat.div_eq_of_lt x.isLt]
  rfl
theorem topOf_all (x : BitVec 32) : topOf x 32 = (x.toNat : Int) := by simp [topOf]
theorem topOf_next (x : BitVec 32) (t : Nat) (ht : t < 32) : IntKind.u32.wrap (IntKind.u32.wrap (topOf x t * 2) + IntKind.u32.wrap (b2i (x.getLsbD (31 - t)))) = topOf x (t + 1) := by
  have hx := x.isLt
  have e1 : 32 - t = (31 - t) + 1 := by omega
  have e2 : 32 - (t + 1) = 31 - t := by omega
  have e3 : b2i (x.getLsbD (31 - t)) = ((x.toNat / 2 ^ (31 - t) % 2 : Nat) : Int) := by
    unfold b2i BitVec.getLsbD
    rw [Nat.testBit_eq_decide_div_mod_eq]
    rcases Nat.mod_two_eq_zero_or_one (x.toNat / 2 ^ (31 - t)) with h | h <;> simp [h]
  unfold topOf
  rw [e3, e1, e2, Nat.pow_succ, ← Nat.div_div_eq_div_mul]
  have h1 : x.toNat / 2 ^ (31 - t) ≤ x.toNat := Nat.div_le_self _ _
  generalize x.toNat / 2 ^ (31 - t) = y at h1 ⊢
  have h2 : ((y / 2 : Nat) : Int) * 2 = ((y / 2 * 2 : Nat) : Int) := by simp
  rw [h2, wrap32, wrap32]
  have h3 : ((y / 2 * 2 % 4294967296 : Nat) : Int) + ((y % 2 % 4294967296 : Nat) : Int) = ((y : Nat) : Int) := by omega
  rw [h3, wrap32]
  congr 1
  omega
end Go.AM.Crc
namespace Go.AM.Crc
theorem polys_new : ∀ r, r < 15 → (polys.take r).contains (polys.getD r 0) = false := by decide
theorem polys_get_le : ∀ r, r < 15 → polys.getD r 0 ≤ 32 := by decide
theorem polys_take : ∀ r, r < 15 → polys.take (r + 1) = polys.take r ++ [polys.getD r 0] := by decide
theorem poly_step (k r i : Nat) (hr : r < 15) : (decide (k ≤ i) && (polys.take (r + 1)).contains (i - k)) = if i = k + polys.getD r 0 then true else (decide (k ≤ i) && (polys.take r).contains (i - k)) := by
  rw [polys_take r hr, List.contains_append]
  by_cases h : i = k + polys.getD r 0
  · rw [if_pos h]
    subst h
    simp
  · rw [if_neg h]
    by_cases h2 : k ≤ i
    · have : ([polys.getD r 0].contains (i - k)) = false := by
        rw [List.contains_cons, List.contains_nil, Bool.or_false]
        exact beq_false_of_ne (by omega)
      rw [this, Bool.or_false]
    · simp [h2]
theorem Fk_last (bs : List Int) (t : Nat) (ht : t < 32) : (!(Fk bs (8 * bs.length) (8 * bs.length + t))) = (4294967295#32 ^^^ St bs (8 * bs.length)).getLsbD (31 - t) := by
  unfold Fk
  have a1 : ¬ 8 * bs.length + t < 8 * bs.length := by omega
  have a2 : 8 * bs.length + t < 8 * bs.length + 32 := by omega
  rw [if_neg a1, if_pos a2, msg_end (by omega), Bool.xor_false, BitVec.getLsbD_xor, Nat.add_sub_cancel_left]
  have a : ∀ i, i < 32 → (4294967295#32).getLsbD i = true := by decide
  rw [a _ (by omega), Bool.true_xor]
end Go.AM.Crc
