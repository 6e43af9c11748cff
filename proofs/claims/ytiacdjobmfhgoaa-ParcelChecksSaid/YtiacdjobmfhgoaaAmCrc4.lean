/- Sums of rows that differ in one byte. -/
import Derived.Test.YtiacdjobmfhgoaaAmCrc3
set_option linter.unusedSimpArgs false
set_option linter.unusedVariables false
namespace Go.AM.Crc
open Go Go.AM

theorem sum_state {bs : List Int} (h : Bytes bs) : crcSum bs = ((4294967295#32 ^^^ StG 4294967295#32 (msg bs) (8 * bs.length)).toNat : Int) := by
  have e := sum_eq (vecs bs)
  rw [nums_vecs h] at e
  rw [e, sumB, stG_all]

theorem sum_turned {xs ys : List Int} {err : Nat → Bool} (hx : Bytes xs) (hy : Bytes ys) (hl : xs.length = ys.length) (he : ∀ j, msg ys j = (msg xs j ^^ err j)) : crcSum xs = crcSum ys ↔ StG 0#32 err (8 * xs.length) = 0#32 := by
  rw [sum_state hx, sum_state hy, ← hl]
  have e : StG 4294967295#32 (msg ys) (8 * xs.length) = StG 4294967295#32 (msg xs) (8 * xs.length) ^^^ StG 0#32 err (8 * xs.length) := by
    have := stG_xor 4294967295#32 0#32 (msg xs) err (8 * xs.length)
    rw [BitVec.xor_zero] at this
    rw [← this]
    exact stG_congr fun j _ => he j
  rw [e]
  generalize StG 4294967295#32 (msg xs) (8 * xs.length) = A
  generalize StG 0#32 err (8 * xs.length) = E
  constructor
  · intro h
    have h1 : 4294967295#32 ^^^ A = 4294967295#32 ^^^ (A ^^^ E) := BitVec.eq_of_toNat_eq (by exact_mod_cast h)
    have h2 : (4294967295#32 ^^^ A) ^^^ (4294967295#32 ^^^ A) = (4294967295#32 ^^^ A) ^^^ (4294967295#32 ^^^ (A ^^^ E)) := by rw [← h1]
    rw [BitVec.xor_self, ← BitVec.xor_assoc 4294967295#32 A E, ← BitVec.xor_assoc, BitVec.xor_self, BitVec.zero_xor] at h2
    exact h2.symm
  · intro h
    rw [h, BitVec.xor_zero]

theorem sum_byte {X : List Int} (hX : Bytes X) {i : Nat} (hi : i < X.length) (c : BitVec 8) : crcSum X = crcSum (X.set i (bits .xor .u8 (X.getD i 0) (c.toNat : Int))) ↔ c = 0#8 := by
  rw [sum_turned hX (bytes_set hX i _ _) (List.length_set).symm (fun j => msg_set hX hi j)]
  have hb : ∀ j, j < 8 → (decide ((8 * i + j) / 8 = i) && c.getLsbD (7 - (8 * i + j) % 8)) = ((c.setWidth 32 <<< 24) <<< j).msb := by
    intro j hj
    rw [← BitVec.shiftLeft_add, c_msb c j hj, show (8 * i + j) / 8 = i by omega, show (8 * i + j) % 8 = j by omega]
    simp
  have hw : (c.setWidth 32 <<< 24) <<< 8 = 0#32 := by
    rw [← BitVec.shiftLeft_add]
    exact BitVec.shiftLeft_eq_zero (by decide)
  rw [stG_burst (w := c.setWidth 32 <<< 24) (p := 8 * i) (n := 8) (by omega) (by omega) (fun j hj => by
      have : ¬ j / 8 = i := by omega
      simp [this]) hb (fun j hj => by
      have : ¬ j / 8 = i := by omega
      simp [this]) hw]
  constructor
  · intro h
    have h0 := roundsB_inj0 h
    refine BitVec.eq_of_getLsbD_eq fun k hk => ?_
    have := hb (7 - k) (by omega)
    rw [h0, show (8 * i + (7 - k)) / 8 = i by omega, show 7 - (8 * i + (7 - k)) % 8 = k by omega] at this
    simpa using this
  · rintro rfl
    have : (BitVec.setWidth 32 0#8) <<< 24 = 0#32 := by decide
    rw [this]
    exact roundsB_zero _
end Go.AM.Crc
