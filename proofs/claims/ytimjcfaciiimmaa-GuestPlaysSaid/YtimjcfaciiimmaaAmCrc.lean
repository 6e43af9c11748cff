/- The sum of layer 2, as bit vectors: it is linear. -/
import Derived.Test.YtimjcfaciiimmaaAmShown
import Derived.Laws.BitsAllLaws
set_option linter.unusedSimpArgs false
set_option linter.unusedVariables false
namespace Go.AM.Crc
open Go Go.AM
def crcStep (n : Int) : Int := bits BinOp.xor IntKind.u32 (IntKind.u32.wrap (n * 2 ^ min (Int.toNat 1) IntKind.u32.bits)) (bits BinOp.and IntKind.u32 79764919 (IntKind.u32.wrap (0 - n.fdiv (2 ^ min (Int.toNat 31) IntKind.u32.bits))))
def crcRounds : Nat → Int → Int
  | 0, n => n
  | k + 1, n => crcRounds k (crcStep n)
def crcByte (n c : Int) : Int := crcRounds 8 (bits BinOp.xor IntKind.u32 n (IntKind.u32.wrap (IntKind.u32.wrap c * 2 ^ min (Int.toNat 24) IntKind.u32.bits)))
def crcSum (bs : List Int) : Int := bits BinOp.xor IntKind.u32 4294967295 (bs.foldl crcByte 4294967295)

theorem crcRounds_succ (k : Nat) (n : Int) : crcRounds (k + 1) n = crcStep (crcRounds k n) := by
  induction k generalizing n with
  | zero => rfl
  | succ k ih => rw [crcRounds, ih]; rfl

theorem xor32 (x y : BitVec 32) : bits .xor .u32 (x.toNat : Int) (y.toNat : Int) = ((x ^^^ y).toNat : Int) := by
  rw [u32_xor_nat _ _ x.isLt y.isLt, BitVec.toNat_xor]
theorem xor8 (x y : BitVec 8) : bits .xor .u8 (x.toNat : Int) (y.toNat : Int) = ((x ^^^ y).toNat : Int) := by
  rw [u8_xor_nat _ _ x.isLt y.isLt, BitVec.toNat_xor]

theorem xor4 (a b c d : BitVec 32) : (a ^^^ b) ^^^ (c ^^^ d) = (a ^^^ c) ^^^ (b ^^^ d) := by ac_rfl

def stepB (x : BitVec 32) : BitVec 32 := (x <<< 1) ^^^ (if x.msb then 79764919#32 else 0#32)

theorem wrap32 (n : Nat) : IntKind.u32.wrap (n : Int) = ((n % 4294967296 : Nat) : Int) := by
  simp [IntKind.wrap, IntKind.signed, IntKind.bits]

theorem step_eq (x : BitVec 32) : crcStep (x.toNat : Int) = ((stepB x).toNat : Int) := by
  have h1 : IntKind.u32.wrap ((x.toNat : Int) * 2 ^ min (Int.toNat 1) IntKind.u32.bits) = ((x <<< 1).toNat : Int) := by
    have : ((x.toNat : Int) * 2 ^ min (Int.toNat 1) IntKind.u32.bits) = ((x.toNat * 2 : Nat) : Int) := by
      have : min (Int.toNat 1) IntKind.u32.bits = 1 := by decide
      rw [this]; simp
    rw [this, wrap32, BitVec.toNat_shiftLeft, Nat.shiftLeft_eq]
  have h2 : bits BinOp.and IntKind.u32 79764919 (IntKind.u32.wrap (0 - (x.toNat : Int).fdiv (2 ^ min (Int.toNat 31) IntKind.u32.bits))) = (((if x.msb then 79764919#32 else 0#32) : BitVec 32).toNat : Int) := by
    have h3 : min (Int.toNat 31) IntKind.u32.bits = 31 := by decide
    rw [h3]
    have hx := x.isLt
    cases hm : x.msb with
    | false =>
      rw [BitVec.msb_eq_decide] at hm
      have h4 : ¬ 2 ^ 31 ≤ x.toNat := by simpa using hm
      have h5 : (x.toNat : Int).fdiv (2 ^ 31) = 0 := by
        rw [Int.fdiv_eq_ediv_of_nonneg _ (by decide)]
        omega
      rw [h5]
      decide
    | true =>
      rw [BitVec.msb_eq_decide] at hm
      have h4 : 2 ^ 31 ≤ x.toNat := by simpa using hm
      have h5 : (x.toNat : Int).fdiv (2 ^ 31) = 1 := by
        rw [Int.fdiv_eq_ediv_of_nonneg _ (by decide)]
        omega
      rw [h5]
      decide
  unfold crcStep stepB
  rw [h1, h2, xor32]

theorem stepB_xor (x y : BitVec 32) : stepB (x ^^^ y) = stepB x ^^^ stepB y := by
  unfold stepB
  have h : (if (x ^^^ y).msb then 79764919#32 else 0#32) = (if x.msb then 79764919#32 else 0#32) ^^^ (if y.msb then 79764919#32 else 0#32) := by
    rw [BitVec.msb_xor]
    cases x.msb <;> cases y.msb <;> decide
  rw [BitVec.shiftLeft_xor_distrib, h]
  ac_rfl

def roundsB : Nat → BitVec 32 → BitVec 32
  | 0, x => x
  | k + 1, x => roundsB k (stepB x)
theorem rounds_eq (k : Nat) (x : BitVec 32) : crcRounds k (x.toNat : Int) = ((roundsB k x).toNat : Int) := by
  induction k generalizing x with
  | zero => rfl
  | succ k ih => rw [crcRounds, step_eq, ih, roundsB]
theorem roundsB_xor (k : Nat) (x y : BitVec 32) : roundsB k (x ^^^ y) = roundsB k x ^^^ roundsB k y := by
  induction k generalizing x y with
  | zero => rfl
  | succ k ih => rw [roundsB, stepB_xor, ih]; rfl

def byteB (s : BitVec 32) (c : BitVec 8) : BitVec 32 := roundsB 8 (s ^^^ (c.setWidth 32 <<< 24))
theorem byte_eq (s : BitVec 32) (c : BitVec 8) : crcByte (s.toNat : Int) (c.toNat : Int) = ((byteB s c).toNat : Int) := by
  have hc := c.isLt
  have h1 : IntKind.u32.wrap (IntKind.u32.wrap (c.toNat : Int) * 2 ^ min (Int.toNat 24) IntKind.u32.bits) = ((c.setWidth 32 <<< 24).toNat : Int) := by
    have h3 : min (Int.toNat 24) IntKind.u32.bits = 24 := by decide
    rw [h3, wrap32, Nat.mod_eq_of_lt (by omega)]
    have h4 : ((c.toNat : Int) * 2 ^ 24) = ((c.toNat * 2 ^ 24 : Nat) : Int) := by rw [Int.natCast_mul, Int.natCast_pow]; rfl
    have h5 : (c.setWidth 32).toNat = c.toNat := by rw [BitVec.toNat_setWidth]; exact Nat.mod_eq_of_lt (by omega)
    rw [h4, wrap32, BitVec.toNat_shiftLeft, Nat.shiftLeft_eq, h5]
  unfold crcByte byteB
  rw [h1, xor32, rounds_eq]
theorem byteB_xor (s t : BitVec 32) (c d : BitVec 8) : byteB (s ^^^ t) (c ^^^ d) = byteB s c ^^^ byteB t d := by
  unfold byteB
  rw [← roundsB_xor]
  have : s ^^^ t ^^^ BitVec.setWidth 32 (c ^^^ d) <<< 24 = s ^^^ BitVec.setWidth 32 c <<< 24 ^^^ (t ^^^ BitVec.setWidth 32 d <<< 24) := by
    rw [BitVec.setWidth_xor, BitVec.shiftLeft_xor_distrib]
    exact xor4 _ _ _ _
  rw [this]

/-- Bytes, as numbers. -/
def nums (cs : List (BitVec 8)) : List Int := cs.map fun c => (c.toNat : Int)
theorem fold_eq : ∀ (cs : List (BitVec 8)) (s : BitVec 32), (nums cs).foldl crcByte (s.toNat : Int) = ((cs.foldl byteB s).toNat : Int)
  | [], s => rfl
  | c :: cs, s => by
    simp only [nums, List.map_cons, List.foldl_cons]
    rw [byte_eq]
    exact fold_eq cs _
def sumB (cs : List (BitVec 8)) : BitVec 32 := 4294967295#32 ^^^ cs.foldl byteB 4294967295#32
theorem sum_eq (cs : List (BitVec 8)) : crcSum (nums cs) = ((sumB cs).toNat : Int) := by
  unfold crcSum sumB
  have := fold_eq cs 4294967295#32
  rw [show ((4294967295#32 : BitVec 32).toNat : Int) = 4294967295 from rfl] at this
  rw [this, ← xor32]
  rfl

theorem fold_xor : ∀ (cs ds : List (BitVec 8)) (s t : BitVec 32), cs.length = ds.length → (List.zipWith (· ^^^ ·) cs ds).foldl byteB (s ^^^ t) = cs.foldl byteB s ^^^ ds.foldl byteB t
  | [], [], s, t, _ => rfl
  | c :: cs, d :: ds, s, t, h => by
    simp only [List.zipWith_cons_cons, List.foldl_cons, byteB_xor]
    exact fold_xor cs ds _ _ (by simpa using h)

/-- Rows that differ by the same have sums that differ by the same. -/
theorem sum_mix (cs ds : List (BitVec 8)) (h : cs.length = ds.length) : sumB (List.zipWith (· ^^^ ·) cs ds) ^^^ sumB cs = ds.foldl byteB 0#32 := by
  unfold sumB
  have := fold_xor cs ds 4294967295#32 0#32 h
  rw [BitVec.xor_zero] at this
  rw [this]
  have key : ∀ a b c : BitVec 32, a ^^^ (b ^^^ c) ^^^ (a ^^^ b) = c := by
    intro a b c
    ext i
    simp
    cases a[i] <;> cases b[i] <;> cases c[i] <;> rfl
  exact key _ _ _

/-- Numbers that are bytes. -/
def Bytes (bs : List Int) : Prop := ∀ b ∈ bs, 0 ≤ b ∧ b < 256
def vecs (bs : List Int) : List (BitVec 8) := bs.map fun b => BitVec.ofInt 8 b
theorem nums_vecs {bs : List Int} (h : Bytes bs) : nums (vecs bs) = bs := by
  unfold nums vecs
  rw [List.map_map]
  conv => rhs; rw [← List.map_id bs]
  refine List.map_congr_left fun b hb => ?_
  obtain ⟨h1, h2⟩ := h b hb
  simp only [Function.comp, BitVec.toNat_ofInt, id]
  omega
theorem vecs_length (bs : List Int) : (vecs bs).length = bs.length := List.length_map _
end Go.AM.Crc
