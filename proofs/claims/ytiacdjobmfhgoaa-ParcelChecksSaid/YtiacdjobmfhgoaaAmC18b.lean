/- Bits that are turned: the sum tells. -/
import Derived.Test.YtiacdjobmfhgoaaAmC18c
import Derived.Test.YtiacdjobmfhgoaaAmCrc3
import Derived.Test.YtiacdjobmfhgoaaAmCrc4
set_option linter.unusedSimpArgs false
set_option linter.unusedVariables false
set_option maxRecDepth 100000
namespace Go.Proofs.Ytiacdjobmfhgoaa
open Go Go.AM Go.AM.Crc Go.AM.Wire
theorem wrap8_bytes (x : Int) : 0 ≤ IntKind.u8.wrap x ∧ IntKind.u8.wrap x < 256 := by
  simp [IntKind.wrap, IntKind.signed, IntKind.bits]
  omega
theorem four_bytes (s : Int) : Bytes (four s) := by
  intro b hb
  simp only [four, List.mem_cons, List.not_mem_nil, or_false] at hb
  rcases hb with rfl | rfl | rfl | rfl <;> exact wrap8_bytes _

theorem four_fourN {s : Int} (h0 : 0 ≤ s) (h1 : s < 4294967296) : four s = fourN s.toNat := by
  obtain ⟨n, rfl⟩ : ∃ n : Nat, s = n := ⟨s.toNat, by omega⟩
  have w8 : ∀ k : Nat, IntKind.u8.wrap (k : Int) = ((k % 256 : Nat) : Int) := fun k => by simp [IntKind.wrap, IntKind.signed, IntKind.bits]
  have f1 : ∀ a : Nat, (n : Int).fdiv (2 ^ a) = ((n / 2 ^ a : Nat) : Int) := fun a => by
    rw [Int.fdiv_eq_ediv_of_nonneg _ (Int.le_of_lt (Int.pow_pos (by decide)))]
    simp
  have m1 : min (Int.toNat 24) IntKind.u32.bits = 24 := by decide
  have m2 : min (Int.toNat 16) IntKind.u32.bits = 16 := by decide
  have m3 : min (Int.toNat 8) IntKind.u32.bits = 8 := by decide
  unfold four fourN
  rw [m1, m2, m3, f1, f1, f1, w8, w8, w8, w8, Int.toNat_natCast]

theorem right_iff {xs : List Int} (hx : Bytes xs) (h4 : 4 ≤ xs.length) : decide (strOf (xs.drop (xs.length - 4)) = strOf (four (crcSum (xs.take (xs.length - 4))))) = decide (xs.drop (xs.length - 4) = fourN (crcSum (xs.take (xs.length - 4))).toNat) := by
  have bt : Bytes (xs.take (xs.length - 4)) := fun b h => hx b (List.mem_of_mem_take h)
  have bd : Bytes (xs.drop (xs.length - 4)) := fun b h => hx b (List.mem_of_mem_drop h)
  have hs := crcSum_range _ bt
  rw [← four_fourN hs.1 hs.2]
  exact decide_eq_decide.2 ⟨fun h => strOf_inj bd (four_bytes _) h, fun h => by rw [h]⟩

theorem put_bytes {bs : List Int} (hb : Bytes bs) : Bytes (bs ++ four (crcSum bs)) := by
  intro b h
  rcases List.mem_append.1 h with h | h
  · exact hb b h
  · exact four_bytes _ b h
theorem put_right {bs : List Int} (hb : Bytes bs) : (bs ++ four (crcSum bs)).drop ((bs ++ four (crcSum bs)).length - 4) = fourN (crcSum ((bs ++ four (crcSum bs)).take ((bs ++ four (crcSum bs)).length - 4))).toNat := by
  have hs := crcSum_range _ hb
  have e : (bs ++ four (crcSum bs)).length - 4 = bs.length := by simp [four]
  rw [e, List.drop_left, List.take_left]
  exact four_fourN hs.1 hs.2

/-- Bits turned one behind the other. -/
def turned (X : List Int) (p : Nat) (w : BitVec 32) : Nat → List Int
  | 0 => X
  | k + 1 => if (w <<< k).msb = true then (turned X p w k).set ((p + k) / 8) (bits .xor .u8 ((turned X p w k).getD ((p + k) / 8) 0) (((128#8 >>> ((p + k) % 8)).toNat : Nat) : Int)) else turned X p w k
theorem turned_length (X : List Int) (p : Nat) (w : BitVec 32) (k : Nat) : (turned X p w k).length = X.length := by
  induction k with
  | zero => rfl
  | succ k ih =>
    rw [turned]
    split
    · rw [List.length_set, ih]
    · exact ih
theorem turned_bytes {X : List Int} (hX : Bytes X) (p : Nat) (w : BitVec 32) (k : Nat) : Bytes (turned X p w k) := by
  induction k with
  | zero => exact hX
  | succ k ih =>
    rw [turned]
    split
    · exact bytes_set ih _ _ _
    · exact ih
theorem one_bit : ∀ r, r < 8 → ∀ t, t < 8 → (128#8 >>> r).getLsbD t = decide (t + r = 7) := by decide
theorem turned_msg {X : List Int} (hX : Bytes X) {p : Nat} {w : BitVec 32} : ∀ k, p + k ≤ 8 * X.length → ∀ j, msg (turned X p w k) j = (msg X j ^^ (decide (p ≤ j) && (decide (j < p + k) && (w <<< (j - p)).msb)))
  | 0, _, j => by
    have : (decide (p ≤ j) && (decide (j < p + 0) && (w <<< (j - p)).msb)) = false := by
      by_cases h : p ≤ j
      · simp [show ¬ j < p by omega]
      · simp [h]
    rw [this, Bool.xor_false]
    rfl
  | k + 1, hk, j => by
    have ih := turned_msg hX (p := p) (w := w) k (by omega) j
    rw [turned]
    by_cases hb : (w <<< k).msb = true
    · rw [if_pos hb, msg_set (turned_bytes hX p w k) (i := (p + k) / 8) (by rw [turned_length]; omega), ih, Bool.xor_assoc, one_bit _ (by omega) _ (by omega)]
      congr 1
      by_cases h : j = p + k
      · subst h
        have a : decide (p + k < p + k) = false := by simp
        have b : p + k < p + (k + 1) := by omega
        have c : 7 - (p + k) % 8 + (p + k) % 8 = 7 := by omega
        simp only [a, b, c, Bool.false_and, Bool.and_false, decide_true, Bool.and_self, Bool.false_xor, Nat.le_add_right, Nat.add_sub_cancel_left, hb]
      · have a : (decide (j / 8 = (p + k) / 8) && decide (7 - j % 8 + (p + k) % 8 = 7)) = false := by
          by_cases h1 : j / 8 = (p + k) / 8
          · have : ¬ 7 - j % 8 + (p + k) % 8 = 7 := by omega
            simp [this]
          · simp [h1]
        rw [a, Bool.xor_false]
        have b : decide (j < p + (k + 1)) = decide (j < p + k) := decide_eq_decide.2 (by omega)
        rw [b]
    · rw [if_neg hb, ih]
      congr 1
      by_cases h : j = p + k
      · subst h
        have hb' : (w <<< k).msb = false := by simpa using hb
        simp [hb']
      · have b : decide (j < p + (k + 1)) = decide (j < p + k) := decide_eq_decide.2 (by omega)
        rw [b]

theorem turned_right {X : List Int} (hX : Bytes X) (h4 : 4 ≤ X.length) (hr : X.drop (X.length - 4) = fourN (crcSum (X.take (X.length - 4))).toNat) {p : Nat} {w : BitVec 32} (hp : p + 32 ≤ 8 * X.length) :
    ((turned X p w 32).drop ((turned X p w 32).length - 4) = fourN (crcSum ((turned X p w 32).take ((turned X p w 32).length - 4))).toNat) ↔ w = 0#32 := by
  rw [right_turned hX (turned_bytes hX p w 32) (turned_length X p w 32).symm h4 hr (turned_msg hX 32 hp)]
  rw [stG_burst (w := w) (p := p) (n := 32) (Nat.le_refl _) hp (fun j hj => by simp [show ¬ p ≤ j by omega]) (fun j hj => by simp [hj]) (fun j hj => by simp [show ¬ j < p + 32 by omega]) (BitVec.shiftLeft_eq_zero (by decide))]
  constructor
  · exact roundsB_inj0
  · rintro rfl; exact roundsB_zero _

theorem mask_bit (w : BitVec 32) (k : Nat) (hk : k < 32) : (IntKind.u32.wrap ((w.toNat : Int) * 2 ^ min k IntKind.u32.bits)).fdiv (2 ^ min (Int.toNat 31) IntKind.u32.bits) = 1 ↔ (w <<< k).msb = true := by
  have e1 : min k IntKind.u32.bits = k := by simp only [IntKind.bits]; omega
  have e2 : min (Int.toNat 31) IntKind.u32.bits = 31 := by decide
  have e3 : ((w.toNat : Int) * 2 ^ k) = ((w.toNat * 2 ^ k : Nat) : Int) := by simp
  rw [e1, e2, e3, wrap32, BitVec.msb_eq_decide, BitVec.toNat_shiftLeft, Nat.shiftLeft_eq]
  have hlt : w.toNat * 2 ^ k % 4294967296 < 4294967296 := Nat.mod_lt _ (by decide)
  rw [show (2 ^ 32 : Nat) = 4294967296 from rfl]
  generalize w.toNat * 2 ^ k % 4294967296 = y at hlt
  rw [Int.fdiv_eq_ediv_of_nonneg _ (by decide)]
  simp only [decide_eq_true_eq]
  omega
theorem one_mask (r : Nat) (hr : r < 8) : (128 : Int).fdiv (2 ^ min r IntKind.u8.bits) = (((128#8 >>> r).toNat : Nat) : Int) := by
  revert r
  decide


end Go.Proofs.Ytiacdjobmfhgoaa
