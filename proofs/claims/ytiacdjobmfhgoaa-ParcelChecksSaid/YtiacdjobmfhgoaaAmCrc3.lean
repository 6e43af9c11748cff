/- Errors in rows with their sum behind: bits that are changed within 32 neighbours are told. -/
import Derived.Test.YtiacdjobmfhgoaaAmCrc2
import Derived.Laws.Closers25b
set_option linter.unusedSimpArgs false
set_option linter.unusedVariables false
namespace Go.AM.Crc
open Go Go.AM

/-- Bit by bit, from any state. -/
def StG (s : BitVec 32) (g : Nat → Bool) : Nat → BitVec 32
  | 0 => s
  | k + 1 => stepD (StG s g k) (g k)

theorem stG_steps (s : BitVec 32) (bs : List Int) (i : Nat) : ∀ (k j : Nat), j + k ≤ 8 → StG s (msg bs) (8 * i + (j + k)) = stepsD (BitVec.ofInt 8 (bs.getD i 0)) k j (StG s (msg bs) (8 * i + j))
  | 0, j, _ => rfl
  | k + 1, j, h => by
    have h1 := stG_steps s bs i k (j + 1) (by omega)
    rw [show j + (k + 1) = j + 1 + k by omega, h1, stepsD]
    congr 1
    have h2 : msg bs (8 * i + j) = (BitVec.ofInt 8 (bs.getD i 0)).getLsbD (7 - j) := by
      unfold msg
      rw [show (8 * i + j) / 8 = i by omega, show (8 * i + j) % 8 = j by omega]
    rw [← h2]
    rfl
theorem stG_bytes (s : BitVec 32) (bs : List Int) : ∀ i, i ≤ bs.length → StG s (msg bs) (8 * i) = (vecs (bs.take i)).foldl byteB s
  | 0, _ => rfl
  | i + 1, h => by
    have h1 := stG_steps s bs i 8 0 (by omega)
    rw [show 8 * (i + 1) = 8 * i + (0 + 8) by omega, h1, ← byte_steps, Nat.add_zero, stG_bytes s bs i (by omega)]
    have h3 : bs.take (i + 1) = bs.take i ++ [bs.getD i 0] := by
      rw [List.take_add_one, List.getD_eq_getElem?_getD, List.getElem?_eq_getElem (by omega)]
      rfl
    rw [h3]
    simp [vecs]
theorem stG_all (s : BitVec 32) (bs : List Int) : StG s (msg bs) (8 * bs.length) = (vecs bs).foldl byteB s := by
  rw [stG_bytes s bs _ (Nat.le_refl _), List.take_length]

theorem stepD_xor (s t : BitVec 32) (b c : Bool) : stepD (s ^^^ t) (b ^^ c) = stepD s b ^^^ stepD t c := by
  unfold stepD
  have h : (if ((s ^^^ t).msb ^^ (b ^^ c)) = true then 79764919#32 else 0#32) = (if (s.msb ^^ b) = true then 79764919#32 else 0#32) ^^^ (if (t.msb ^^ c) = true then 79764919#32 else 0#32) := by
    rw [BitVec.msb_xor]
    cases s.msb <;> cases t.msb <;> cases b <;> cases c <;> decide
  rw [h, BitVec.shiftLeft_xor_distrib]
  exact xor4 _ _ _ _
theorem stG_xor (s t : BitVec 32) (g h : Nat → Bool) : ∀ k, StG (s ^^^ t) (fun j => g j ^^ h j) k = StG s g k ^^^ StG t h k
  | 0 => rfl
  | k + 1 => by rw [StG, stG_xor s t g h k, stepD_xor]; rfl
theorem stG_congr {s : BitVec 32} {g h : Nat → Bool} : ∀ {k : Nat}, (∀ j, j < k → g j = h j) → StG s g k = StG s h k
  | 0, _ => rfl
  | k + 1, e => by rw [StG, StG, stG_congr fun j hj => e j (by omega), e k (by omega)]

theorem stepD_false (s : BitVec 32) : stepD s false = stepB s := by
  unfold stepD stepB
  rw [Bool.xor_false]
theorem roundsB_succ (k : Nat) (x : BitVec 32) : roundsB (k + 1) x = stepB (roundsB k x) := by
  induction k generalizing x with
  | zero => rfl
  | succ k ih => rw [roundsB, ih]; rfl
theorem stepB_zero : stepB 0#32 = 0#32 := by decide
theorem stepB_inj0 {x : BitVec 32} (h : stepB x = 0#32) : x = 0#32 := by
  have b0 : (stepB x).getLsbD 0 = x.msb := by
    unfold stepB
    rw [BitVec.getLsbD_xor, shl_bit _ _ (by decide)]
    cases x.msb <;> rfl
  rw [h] at b0
  have hm : x.msb = false := by rw [← b0]; rfl
  unfold stepB at h
  rw [hm] at h
  simp only [Bool.false_eq_true, if_false, BitVec.xor_zero] at h
  refine BitVec.eq_of_getLsbD_eq fun i hi => ?_
  by_cases h31 : i = 31
  · subst h31
    rw [BitVec.msb_eq_getLsbD_last] at hm
    simpa using hm
  · have := congrArg (fun y : BitVec 32 => y.getLsbD (i + 1)) h
    simp only [shl_bit x (i + 1) (by omega), Nat.add_sub_cancel] at this
    simpa using this
theorem roundsB_zero (k : Nat) : roundsB k 0#32 = 0#32 := by
  induction k with
  | zero => rfl
  | succ k ih => rw [roundsB, stepB_zero, ih]
theorem roundsB_inj0 {k : Nat} {x : BitVec 32} (h : roundsB k x = 0#32) : x = 0#32 := by
  induction k generalizing x with
  | zero => exact h
  | succ k ih => exact stepB_inj0 (ih h)
theorem xor_eq_zero' {x y : BitVec 32} : x ^^^ y = 0#32 ↔ x = y := by
  constructor
  · intro h
    have : x ^^^ y ^^^ y = 0#32 ^^^ y := by rw [h]
    rwa [BitVec.xor_assoc, BitVec.xor_self, BitVec.xor_zero, BitVec.zero_xor] at this
  · rintro rfl; exact BitVec.xor_self
theorem roundsB_inj {k : Nat} {x y : BitVec 32} : roundsB k x = roundsB k y ↔ x = y := by
  rw [← xor_eq_zero', ← roundsB_xor]
  constructor
  · intro h; exact xor_eq_zero'.1 (roundsB_inj0 h)
  · rintro rfl; rw [BitVec.xor_self]; exact roundsB_zero k

/-- k bits of a word, from the highest, at 'p'. -/
theorem stG_word (s w : BitVec 32) (g : Nat → Bool) (p : Nat) : ∀ k, k ≤ 32 → (∀ j, j < k → g (p + j) = (w <<< j).msb) → StG s g (p + k) = roundsB k (StG s g p ^^^ w) ^^^ (w <<< k)
  | 0, _, _ => by
    show StG s g p = StG s g p ^^^ w ^^^ (w <<< 0)
    rw [BitVec.shiftLeft_zero, BitVec.xor_assoc, BitVec.xor_self, BitVec.xor_zero]
  | k + 1, hk, hg => by
    have ih := stG_word s w g p k (by omega) fun j hj => hg j (by omega)
    rw [← Nat.add_assoc, StG, ih, hg k (by omega), roundsB_succ]
    have h := stepB_mix (roundsB k (StG s g p ^^^ w) ^^^ (w <<< k)) (w <<< k)
    rw [BitVec.xor_assoc, BitVec.xor_self, BitVec.xor_zero] at h
    rw [h, BitVec.shiftLeft_add, BitVec.xor_assoc, BitVec.xor_self, BitVec.xor_zero]
theorem stG_zeros {s : BitVec 32} {g : Nat → Bool} {p : Nat} : ∀ k, (∀ j, j < k → g (p + j) = false) → StG s g (p + k) = roundsB k (StG s g p)
  | 0, _ => rfl
  | k + 1, h => by rw [← Nat.add_assoc, StG, stG_zeros k fun j hj => h j (by omega), h k (by omega), stepD_false, roundsB_succ]

/-- A burst of errors, at 'p': what it makes of the sum's state. -/
theorem stG_burst {w : BitVec 32} {g : Nat → Bool} {p n N : Nat} (hn : n ≤ 32) (hN : p + n ≤ N) (h0 : ∀ j, j < p → g j = false) (h1 : ∀ j, j < n → g (p + j) = (w <<< j).msb) (h2 : ∀ j, p + n ≤ j → g j = false) (hw : w <<< n = 0#32) :
    StG 0#32 g N = roundsB (N - p) w := by
  have a : StG 0#32 g p = 0#32 := by
    have := stG_zeros (s := 0#32) (g := g) (p := 0) p (by simpa using h0)
    rw [Nat.zero_add] at this
    rw [this]
    exact roundsB_zero p
  have b := stG_word 0#32 w g p n hn h1
  rw [a, hw, BitVec.zero_xor, BitVec.xor_zero] at b
  obtain ⟨k, rfl⟩ : ∃ k, N = p + n + k := ⟨N - (p + n), by omega⟩
  rw [stG_zeros k fun j hj => h2 _ (by omega), b]
  have : ∀ (k n : Nat) (x : BitVec 32), roundsB k (roundsB n x) = roundsB (n + k) x := by
    intro k n
    induction n with
    | zero => intro x; rw [Nat.zero_add]; rfl
    | succ n ih => intro x; rw [roundsB, ih, show n + 1 + k = (n + k) + 1 by omega]; rfl
  rw [this]
  congr 1
  omega

theorem msb_bit (w : BitVec 32) (j : Nat) (h : j < 32) : (w <<< j).msb = w.getLsbD (31 - j) := by
  rw [BitVec.msb_eq_getLsbD_last, BitVec.getLsbD_shiftLeft]
  have h1 : ¬ 32 - 1 < j := by omega
  simp [h1]

/-- The four bytes of a word. -/
def fourN (w : Nat) : List Int := [((w / 2 ^ 24 % 256 : Nat) : Int), ((w / 2 ^ 16 % 256 : Nat) : Int), ((w / 2 ^ 8 % 256 : Nat) : Int), ((w % 256 : Nat) : Int)]
theorem fourN_msg (w : BitVec 32) (j : Nat) (h : j < 32) : msg (fourN w.toNat) j = (w <<< j).msb := by
  rw [msb_bit w j h]
  have key : ∀ (d r : Nat), r < 8 → d + r < 32 → (BitVec.ofInt 8 ((w.toNat / 2 ^ d % 256 : Nat) : Int)).getLsbD r = w.getLsbD (d + r) := by
    intro d r hr _
    rw [BitVec.ofInt_natCast, BitVec.getLsbD_ofNat, show (256 : Nat) = 2 ^ 8 from rfl, Nat.testBit_mod_two_pow, Nat.testBit_div_two_pow]
    simp only [hr, decide_true, Bool.true_and]
    rw [Nat.add_comm]
    rfl
  have k0 := key 0
  simp only [Nat.pow_zero, Nat.div_one] at k0
  unfold msg fourN
  have hj : j = 8 * (j / 8) + j % 8 := by omega
  rcases (show j / 8 = 0 ∨ j / 8 = 1 ∨ j / 8 = 2 ∨ j / 8 = 3 by omega) with h4 | h4 | h4 | h4 <;> rw [h4]
  · rw [show [((w.toNat / 2 ^ 24 % 256 : Nat) : Int), ((w.toNat / 2 ^ 16 % 256 : Nat) : Int), ((w.toNat / 2 ^ 8 % 256 : Nat) : Int), ((w.toNat % 256 : Nat) : Int)].getD 0 0 = ((w.toNat / 2 ^ 24 % 256 : Nat) : Int) from rfl, key 24 _ (by omega) (by omega)]
    congr 1; omega
  · rw [show [((w.toNat / 2 ^ 24 % 256 : Nat) : Int), ((w.toNat / 2 ^ 16 % 256 : Nat) : Int), ((w.toNat / 2 ^ 8 % 256 : Nat) : Int), ((w.toNat % 256 : Nat) : Int)].getD 1 0 = ((w.toNat / 2 ^ 16 % 256 : Nat) : Int) from rfl, key 16 _ (by omega) (by omega)]
    congr 1; omega
  · rw [show [((w.toNat / 2 ^ 24 % 256 : Nat) : Int), ((w.toNat / 2 ^ 16 % 256 : Nat) : Int), ((w.toNat / 2 ^ 8 % 256 : Nat) : Int), ((w.toNat % 256 : Nat) : Int)].getD 2 0 = ((w.toNat / 2 ^ 8 % 256 : Nat) : Int) from rfl, key 8 _ (by omega) (by omega)]
    congr 1; omega
  · rw [show [((w.toNat / 2 ^ 24 % 256 : Nat) : Int), ((w.toNat / 2 ^ 16 % 256 : Nat) : Int), ((w.toNat / 2 ^ 8 % 256 : Nat) : Int), ((w.toNat % 256 : Nat) : Int)].getD 3 0 = ((w.toNat % 256 : Nat) : Int) from rfl, k0 _ (by omega) (by omega)]
    congr 1; omega

theorem fold_four (s w : BitVec 32) : (vecs (fourN w.toNat)).foldl byteB s = roundsB 32 (s ^^^ w) := by
  have h := stG_all s (fourN w.toNat)
  have h2 := stG_word s w (msg (fourN w.toNat)) 0 32 (Nat.le_refl _) fun j hj => by rw [Nat.zero_add]; exact fourN_msg w j hj
  rw [← h]
  have e : w <<< 32 = 0#32 := BitVec.shiftLeft_eq_zero (by decide)
  rw [e, BitVec.xor_zero] at h2
  rw [show 8 * (fourN w.toNat).length = 0 + 32 from rfl, h2]
  rfl
theorem fourN_inj {a b : Nat} (ha : a < 4294967296) (hb : b < 4294967296) (h : fourN a = fourN b) : a = b := by
  simp only [fourN, List.cons.injEq, and_true] at h
  obtain ⟨h1, h2, h3, h4⟩ := h
  omega
/-- Four bytes are a word's. -/
theorem four_word {bs : List Int} (h : Bytes bs) (hl : bs.length = 4) : ∃ w : BitVec 32, bs = fourN w.toNat := by
  match bs, hl with
  | [a, b, c, d], _ =>
    have ha := h a (by simp)
    have hb := h b (by simp)
    have hc := h c (by simp)
    have hd := h d (by simp)
    refine ⟨BitVec.ofNat 32 (a.toNat * 2 ^ 24 + b.toNat * 2 ^ 16 + c.toNat * 2 ^ 8 + d.toNat), ?_⟩
    rw [BitVec.toNat_ofNat, Nat.mod_eq_of_lt (by omega)]
    simp only [fourN, List.cons.injEq, and_true]
    omega

/-- A row whose last four bytes are the sum of what is before. -/
def Right (bs : List Int) (f : Nat → List Int) : Prop := bs.drop (bs.length - 4) = f (crcSum (bs.take (bs.length - 4))).toNat

theorem right_state {bs : List Int} (hb : Bytes bs) (hl : 4 ≤ bs.length) : (bs.drop (bs.length - 4) = fourN (crcSum (bs.take (bs.length - 4))).toNat) ↔ StG 4294967295#32 (msg bs) (8 * bs.length) = roundsB 32 4294967295#32 := by
  obtain ⟨n, hn⟩ : ∃ n, bs.length = n + 4 := ⟨bs.length - 4, by omega⟩
  rw [show bs.length - 4 = n by omega]
  have bt : Bytes (bs.take n) := fun b h => hb b (List.mem_of_mem_take h)
  have bd : Bytes (bs.drop n) := fun b h => hb b (List.mem_of_mem_drop h)
  obtain ⟨w, hw⟩ := four_word bd (by rw [List.length_drop]; omega)
  have e1 := sum_eq (vecs (bs.take n))
  rw [nums_vecs bt] at e1
  have e2 : (crcSum (bs.take n)).toNat = (sumB (vecs (bs.take n))).toNat := by rw [e1]; rfl
  rw [e2, hw, stG_all]
  have e3 : vecs bs = vecs (bs.take n) ++ vecs (bs.drop n) := by
    conv => lhs; rw [← List.take_append_drop n bs]
    unfold vecs
    rw [List.map_append]
  rw [e3, hw, List.foldl_append, fold_four, roundsB_inj]
  unfold sumB
  generalize (vecs (bs.take n)).foldl byteB 4294967295#32 = F
  constructor
  · intro h
    have := BitVec.eq_of_toNat_eq (fourN_inj w.isLt (4294967295#32 ^^^ F).isLt h)
    rw [this, BitVec.xor_comm 4294967295#32 F, ← BitVec.xor_assoc, BitVec.xor_self, BitVec.zero_xor]
  · intro h
    have : w = 4294967295#32 ^^^ F := by
      rw [← h, BitVec.xor_comm F w, BitVec.xor_assoc, BitVec.xor_self, BitVec.xor_zero]
    rw [this]

/-- A row of which some bits are turned. -/
theorem right_turned {xs ys : List Int} {err : Nat → Bool} (hx : Bytes xs) (hy : Bytes ys) (hl : xs.length = ys.length) (h4 : 4 ≤ xs.length) (hr : xs.drop (xs.length - 4) = fourN (crcSum (xs.take (xs.length - 4))).toNat) (he : ∀ j, msg ys j = (msg xs j ^^ err j)) :
    (ys.drop (ys.length - 4) = fourN (crcSum (ys.take (ys.length - 4))).toNat) ↔ StG 0#32 err (8 * xs.length) = 0#32 := by
  rw [right_state hx h4] at hr
  rw [right_state hy (by omega), ← hl]
  have e : StG 4294967295#32 (msg ys) (8 * xs.length) = StG 4294967295#32 (msg xs) (8 * xs.length) ^^^ StG 0#32 err (8 * xs.length) := by
    have := stG_xor 4294967295#32 0#32 (msg xs) err (8 * xs.length)
    rw [BitVec.xor_zero] at this
    rw [← this]
    exact stG_congr fun j _ => he j
  rw [e, hr]
  generalize StG 0#32 err (8 * xs.length) = E
  constructor
  · intro h
    have : roundsB 32 4294967295#32 ^^^ (roundsB 32 4294967295#32 ^^^ E) = roundsB 32 4294967295#32 ^^^ roundsB 32 4294967295#32 := by rw [h]
    rwa [← BitVec.xor_assoc, BitVec.xor_self, BitVec.zero_xor] at this
  · intro h
    rw [h, BitVec.xor_zero]

/-- One byte turned by a mask. -/
theorem msg_set {bs : List Int} (hb : Bytes bs) {i : Nat} (hi : i < bs.length) {c : BitVec 8} (j : Nat) : msg (bs.set i (bits .xor .u8 (bs.getD i 0) (c.toNat : Int))) j = (msg bs j ^^ (decide (j / 8 = i) && c.getLsbD (7 - j % 8))) := by
  unfold msg
  have hbi := hb (bs.getD i 0) (by rw [List.getD_eq_getElem?_getD, List.getElem?_eq_getElem hi]; exact List.getElem_mem _)
  by_cases h : j / 8 = i
  · rw [h]
    have e : (bs.set i (bits .xor .u8 (bs.getD i 0) (c.toNat : Int))).getD i 0 = bits .xor .u8 (bs.getD i 0) (c.toNat : Int) := by
      rw [List.getD_eq_getElem?_getD, List.getElem?_set_self hi]; rfl
    rw [e]
    generalize bs.getD i 0 = b at hbi
    have e2 : b = (((BitVec.ofInt 8 b).toNat : Nat) : Int) := by simp only [BitVec.toNat_ofInt]; omega
    have e3 : bits .xor .u8 b (c.toNat : Int) = ((BitVec.ofInt 8 b ^^^ c).toNat : Int) := by
      rw [← xor8, ← e2]
    rw [e3]
    have e4 : BitVec.ofInt 8 (((BitVec.ofInt 8 b ^^^ c).toNat : Nat) : Int) = BitVec.ofInt 8 b ^^^ c := by
      rw [BitVec.ofInt_natCast, BitVec.ofNat_toNat, BitVec.setWidth_eq]
    rw [e4, BitVec.getLsbD_xor]
    simp
  · have e : (bs.set i (bits .xor .u8 (bs.getD i 0) (c.toNat : Int))).getD (j / 8) 0 = bs.getD (j / 8) 0 := by
      rw [List.getD_eq_getElem?_getD, List.getElem?_set_ne (fun hh => h hh.symm), ← List.getD_eq_getElem?_getD]
    rw [e]
    simp [h]
theorem bytes_set {bs : List Int} (hb : Bytes bs) (i : Nat) (a b : Int) : Bytes (bs.set i (bits .xor .u8 a b)) := by
  intro x hx
  rcases List.mem_or_eq_of_mem_set hx with h | h
  · exact hb x h
  · rw [h]
    have := wrap_within .u8
    have h1 := bits_within .xor .u8 a b
    simp only [IntKind.min, IntKind.max, IntKind.signed, IntKind.bits] at h1
    simp at h1
    omega
end Go.AM.Crc
