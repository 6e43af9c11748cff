/- How many bits are set; how many of two rows of bytes differ. -/
import Derived.Test.YtlinpajigihpmaaAmTurn
set_option linter.unusedSimpArgs false
set_option linter.unusedVariables false
namespace Go.AM.Crc
open Go

def popN (n : Nat) : Nat := if n = 0 then 0 else n % 2 + popN (n / 2)
theorem popN_zero : popN 0 = 0 := by rw [popN]; rfl
theorem popN_pos {n : Nat} (h : n ≠ 0) : popN n = n % 2 + popN (n / 2) := by rw [popN, if_neg h]
theorem popN_any (n : Nat) : popN n = n % 2 + popN (n / 2) := by
  by_cases h : n = 0
  · subst h; simp [popN_zero]
  · exact popN_pos h
theorem and_pred : ∀ d : Nat, 0 < d → popN (d &&& (d - 1)) + 1 = popN d := by
  intro d
  induction d using Nat.strongRecOn with
  | _ d ih =>
    intro h
    have e2 : ∀ a b : Nat, (a &&& b) / 2 = a / 2 &&& b / 2 := fun a b => by
      have := Nat.shiftRight_and_distrib (a := a) (b := b) (i := 1)
      simpa [Nat.shiftRight_eq_div_pow] using this
    have e1 : ∀ a b : Nat, (a &&& b) % 2 = (a % 2) * (b % 2) := fun a b => by
      have h := Nat.testBit_and a b 0
      simp only [Nat.testBit_zero] at h
      rcases Nat.mod_two_eq_zero_or_one a with ha | ha <;> rcases Nat.mod_two_eq_zero_or_one b with hb | hb <;> rcases Nat.mod_two_eq_zero_or_one (a &&& b) with hc | hc <;> simp [ha, hb, hc] at h ⊢
    rw [popN_any (d &&& (d - 1)), popN_any d, e2, e1]
    rcases Nat.mod_two_eq_zero_or_one d with hd | hd
    · have h1 : (d - 1) / 2 = d / 2 - 1 := by omega
      have := ih (d / 2) (by omega) (by omega)
      rw [h1, hd]
      omega
    · have h1 : (d - 1) / 2 = d / 2 := by omega
      have h2 : (d - 1) % 2 = 0 := by omega
      rw [h1, h2, Nat.and_self]
      omega
theorem and_pred_lt {d : Nat} (h : 0 < d) : d &&& (d - 1) < d := Nat.lt_of_le_of_lt Nat.and_le_right (by omega)

/-- How many of the first n are so. -/
def cntB (f : Nat → Bool) : Nat → Nat
  | 0 => 0
  | n + 1 => cntB f n + (f n).toNat
theorem cntB_congr {f g : Nat → Bool} : ∀ {n : Nat}, (∀ j, j < n → f j = g j) → cntB f n = cntB g n
  | 0, _ => rfl
  | n + 1, h => by rw [cntB, cntB, cntB_congr fun j hj => h j (by omega), h n (by omega)]
theorem cntB_add (f : Nat → Bool) (a : Nat) : ∀ b, cntB f (a + b) = cntB f a + cntB (fun t => f (a + t)) b
  | 0 => rfl
  | b + 1 => by rw [← Nat.add_assoc, cntB, cntB_add f a b, cntB, Nat.add_assoc]
theorem cntB_none {f : Nat → Bool} : ∀ {n : Nat}, (∀ j, j < n → f j = false) → cntB f n = 0
  | 0, _ => rfl
  | n + 1, h => by rw [cntB, cntB_none fun j hj => h j (by omega), h n (by omega)]; rfl
theorem cntB_front (f : Nat → Bool) (n : Nat) : cntB f (n + 1) = (f 0).toNat + cntB (fun t => f (t + 1)) n := by
  rw [Nat.add_comm n 1, cntB_add]
  simp [cntB, Nat.add_comm]
theorem cntB_rev : ∀ (n : Nat) (f : Nat → Bool), cntB (fun k => f (n - 1 - k)) n = cntB f n
  | 0, _ => rfl
  | n + 1, f => by
    rw [cntB_front f n, ← cntB_rev n (fun t => f (t + 1)), cntB]
    have : cntB (fun k => f (n + 1 - 1 - k)) n = cntB (fun k => f (n - 1 - k + 1)) n := cntB_congr fun j hj => by congr 1; omega
    rw [this]
    simp [Nat.add_comm]
theorem popN_bits : ∀ (n c : Nat), c < 2 ^ n → popN c = cntB (fun t => c.testBit t) n
  | 0, c, h => by
    have : c = 0 := by simpa using h
    subst this
    exact popN_zero
  | n + 1, c, h => by
    rw [popN_any, cntB_front, popN_bits n (c / 2) (by rw [Nat.pow_succ] at h; omega)]
    congr 1
    · rw [Nat.testBit_zero]
      rcases Nat.mod_two_eq_zero_or_one c with hc | hc <;> simp [hc]
    · refine cntB_congr fun j _ => ?_
      rw [Nat.testBit_succ]
/-- Bytes of two rows, one at each place. -/
def difs (X Y : List Int) (i : Nat) : Nat := (BitVec.ofInt 8 (X.getD i 0) ^^^ BitVec.ofInt 8 (Y.getD i 0)).toNat
def sumDifs (X Y : List Int) : Nat → Nat
  | 0 => 0
  | n + 1 => sumDifs X Y n + popN (difs X Y n)
theorem difs_err {X Y : List Int} {err : Nat → Bool} (h : ∀ j, msg X j = (msg Y j ^^ err j)) (i : Nat) : popN (difs X Y i) = cntB (fun t => err (8 * i + t)) 8 := by
  rw [popN_bits 8 _ (by unfold difs; exact BitVec.isLt _), ← cntB_rev]
  refine cntB_congr fun j hj => ?_
  have h1 := h (8 * i + j)
  unfold msg at h1
  have a : (8 * i + j) / 8 = i := by omega
  have b : (8 * i + j) % 8 = j := by omega
  rw [a, b] at h1
  have e : (difs X Y i).testBit (8 - 1 - j) = ((BitVec.ofInt 8 (X.getD i 0)).getLsbD (7 - j) ^^ (BitVec.ofInt 8 (Y.getD i 0)).getLsbD (7 - j)) := by
    unfold difs
    rw [← BitVec.getLsbD_xor]
    rfl
  rw [e, h1]
  cases (BitVec.ofInt 8 (Y.getD i 0)).getLsbD (7 - j) <;> cases err (8 * i + j) <;> rfl
theorem sumDifs_err {X Y : List Int} {err : Nat → Bool} (h : ∀ j, msg X j = (msg Y j ^^ err j)) : ∀ n, sumDifs X Y n = cntB err (8 * n)
  | 0 => rfl
  | n + 1 => by rw [sumDifs, sumDifs_err h n, difs_err h n, ← cntB_add]; rfl
theorem popN_vec (w : BitVec 32) : popN w.toNat = cntB (fun k => (w <<< k).msb) 32 := by
  rw [popN_bits 32 _ w.isLt, ← cntB_rev]
  refine cntB_congr fun j hj => ?_
  rw [msb_bit w j hj]
  rfl
/-- Of bytes some of whose bits were turned just so many differ. -/
theorem sum_turned_bits {X : List Int} (hX : Bytes X) {p : Nat} {w : BitVec 32} (hp : p + 32 ≤ 8 * X.length) : sumDifs (turned X p w 32) X X.length = popN w.toNat := by
  rw [sumDifs_err (turned_msg hX 32 hp), popN_vec]
  obtain ⟨k, hk⟩ : ∃ k, 8 * X.length = p + (32 + k) := ⟨8 * X.length - p - 32, by omega⟩
  rw [hk, cntB_add, cntB_add, cntB_none (n := p), cntB_none (n := k)]
  · rw [Nat.zero_add, Nat.add_zero]
    refine cntB_congr fun j hj => ?_
    simp [hj]
  · intro j _
    simp
  · intro j hj
    simp
    omega
theorem difs_int {X Y : List Int} (hX : Bytes X) (hY : Bytes Y) {i : Nat} (h1 : i < X.length) (h2 : i < Y.length) : bits .xor .u8 (X.getD i 0) (Y.getD i 0) = (difs X Y i : Int) := by
  have key : ∀ {Z : List Int}, Bytes Z → i < Z.length → Z.getD i 0 = ((BitVec.ofInt 8 (Z.getD i 0)).toNat : Int) := by
    intro Z hZ hi
    have h := hZ (Z.getD i 0) (by
      rw [List.getD_eq_getElem?_getD, List.getElem?_eq_getElem hi]
      exact List.getElem_mem _)
    rw [BitVec.toNat_ofInt]
    omega
  rw [key hX h1, key hY h2, xor8]
  rfl
theorem u8_pred {d : Nat} (h0 : 0 < d) (h : d < 256) : bits .and .u8 (d : Int) (IntKind.u8.wrap ((d : Int) - 1)) = ((d &&& (d - 1) : Nat) : Int) := by
  have e : IntKind.u8.wrap ((d : Int) - 1) = ((d - 1 : Nat) : Int) := by rw [wrap_u8 (by omega) (by omega)]; omega
  rw [e, u8_and_nat _ _ (by omega) (by omega)]
theorem u32_pred {d : Nat} (h0 : 0 < d) (h : d < 4294967296) : bits .and .u32 (d : Int) (IntKind.u32.wrap ((d : Int) - 1)) = ((d &&& (d - 1) : Nat) : Int) := by
  have e : IntKind.u32.wrap ((d : Int) - 1) = ((d - 1 : Nat) : Int) := by rw [wrap_u32 (by omega) (by omega)]; omega
  rw [e, u32_and_nat _ _ (by omega) (by omega)]
theorem difs_lt (X Y : List Int) (i : Nat) : difs X Y i < 256 := by unfold difs; exact BitVec.isLt _
end Go.AM.Crc
