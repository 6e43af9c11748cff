/- CrcBursts comes to true on all arguments. -/
import Derived.Test.YtpjihjfelobkoaaAmC02CrcAny
import Derived.Test.YtpjihjfelobkoaaAmCrc3
set_option linter.unusedSimpArgs false
set_option linter.unusedVariables false
set_option maxRecDepth 100000
set_option maxHeartbeats 4000000
namespace Go.Proofs.Ytpjihjfelobkoaa
open Go Go.AM Go.AM.Crc

theorem four_fourN {s : Int} (h0 : 0 ≤ s) (h1 : s < 4294967296) : four s = fourN s.toNat := by
  obtain ⟨n, rfl⟩ : ∃ n : Nat, s = n := ⟨s.toNat, by omega⟩
  have w8 : ∀ k : Nat, IntKind.u8.wrap (k : Int) = ((k % 256 : Nat) : Int) := fun k => by simp [IntKind.wrap, IntKind.signed, IntKind.bits]
  have f1 : ∀ a : Nat, (n : Int).fdiv (2 ^ a) = ((n / 2 ^ a : Nat) : Int) := fun a => by
    rw [Int.fdiv_eq_ediv_of_nonneg _ (Int.le_of_lt (Int.pow_pos (by decide)))]
    simp
  have m1 : min (Int.toNat 24) IntKind.u32.bits = 24 := by decide
  have m2 : min (Int.toNat 16) IntKind.u32.bits = 16 := by decide
  have m3 : min (Int.toNat 8) IntKind.u32.bits = 8 := by decide
  unfold four fourN
  rw [m1, m2, m3, f1, f1, f1, w8, w8, w8, w8, Int.toNat_natCast]

theorem right_iff {xs : List Int} (hx : Bytes xs) (h4 : 4 ≤ xs.length) : decide (strOf (xs.drop (xs.length - 4)) = strOf (four (crcSum (xs.take (xs.length - 4))))) = decide (xs.drop (xs.length - 4) = fourN (crcSum (xs.take (xs.length - 4))).toNat) := by
  have bt : Bytes (xs.take (xs.length - 4)) := fun b h => hx b (List.mem_of_mem_take h)
  have bd : Bytes (xs.drop (xs.length - 4)) := fun b h => hx b (List.mem_of_mem_drop h)
  have hs := sum_range _ bt
  rw [← four_fourN hs.1 hs.2]
  exact decide_eq_decide.2 ⟨fun h => strOf_inj bd (four_bytes _) h, fun h => by rw [h]⟩

theorem put_bytes {bs : List Int} (hb : Bytes bs) : Bytes (bs ++ four (crcSum bs)) := by
  intro b h
  rcases List.mem_append.1 h with h | h
  · exact hb b h
  · exact four_bytes _ b h
theorem put_right {bs : List Int} (hb : Bytes bs) : (bs ++ four (crcSum bs)).drop ((bs ++ four (crcSum bs)).length - 4) = fourN (crcSum ((bs ++ four (crcSum bs)).take ((bs ++ four (crcSum bs)).length - 4))).toNat := by
  have hs := sum_range _ hb
  have e : (bs ++ four (crcSum bs)).length - 4 = bs.length := by simp [four]
  rw [e, List.drop_left, List.take_left]
  exact four_fourN hs.1 hs.2

/-- Bits turned one behind the other. -/
def turned (X : List Int) (p : Nat) (w : BitVec 32) : Nat → List Int
  | 0 => X
  | k + 1 => if (w <<< k).msb = true then (turned X p w k).set ((p + k) / 8) (bits .xor .u8 ((turned X p w k).getD ((p + k) / 8) 0) (((128#8 >>> ((p + k) % 8)).toNat : Nat) : Int)) else turned X p w k
theorem turned_length (X : List Int) (p : Nat) (w : BitVec 32) (k : Nat) : (turned X p w k).length = X.length := by
  induction k with
  | zero => rfl
  | succ k ih =>
    rw [turned]
    split
    · rw [List.length_set, ih]
    · exact ih
theorem turned_bytes {X : List Int} (hX : Bytes X) (p : Nat) (w : BitVec 32) (k : Nat) : Bytes (turned X p w k) := by
  induction k with
  | zero => exact hX
  | succ k ih =>
    rw [turned]
    split
    · exact bytes_set ih _ _ _
    · exact ih
theorem one_bit : ∀ r, r < 8 → ∀ t, t < 8 → (128#8 >>> r).getLsbD t = decide (t + r = 7) := by decide
theorem turned_msg {X : List Int} (hX : Bytes X) {p : Nat} {w : BitVec 32} : ∀ k, p + k ≤ 8 * X.length → ∀ j, msg (turned X p w k) j = (msg X j ^^ (decide (p ≤ j) && (decide (j < p + k) && (w <<< (j - p)).msb)))
  | 0, _, j => by
    have : (decide (p ≤ j) && (decide (j < p + 0) && (w <<< (j - p)).msb)) = false := by
      by_cases h : p ≤ j
      · simp [show ¬ j < p by omega]
      · simp [h]
    rw [this, Bool.xor_false]
    rfl
  | k + 1, hk, j => by
    have ih := turned_msg hX (p := p) (w := w) k (by omega) j
    rw [turned]
    by_cases hb : (w <<< k).msb = true
    · rw [if_pos hb, msg_set (turned_bytes hX p w k) (i := (p + k) / 8) (by rw [turned_length]; omega), ih, Bool.xor_assoc, one_bit _ (by omega) _ (by omega)]
      congr 1
      by_cases h : j = p + k
      · subst h
        have a : decide (p + k < p + k) = false := by simp
        have b : p + k < p + (k + 1) := by omega
        have c : 7 - (p + k) % 8 + (p + k) % 8 = 7 := by omega
        simp only [a, b, c, Bool.false_and, Bool.and_false, decide_true, Bool.and_self, Bool.false_xor, Nat.le_add_right, Nat.add_sub_cancel_left, hb]
      · have a : (decide (j / 8 = (p + k) / 8) && decide (7 - j % 8 + (p + k) % 8 = 7)) = false := by
          by_cases h1 : j / 8 = (p + k) / 8
          · have : ¬ 7 - j % 8 + (p + k) % 8 = 7 := by omega
            simp [this]
          · simp [h1]
        rw [a, Bool.xor_false]
        have b : decide (j < p + (k + 1)) = decide (j < p + k) := decide_eq_decide.2 (by omega)
        rw [b]
    · rw [if_neg hb, ih]
      congr 1
      by_cases h : j = p + k
      · subst h
        have hb' : (w <<< k).msb = false := by simpa using hb
        simp [hb']
      · have b : decide (j < p + (k + 1)) = decide (j < p + k) := decide_eq_decide.2 (by omega)
        rw [b]

theorem turned_right {X : List Int} (hX : Bytes X) (h4 : 4 ≤ X.length) (hr : X.drop (X.length - 4) = fourN (crcSum (X.take (X.length - 4))).toNat) {p : Nat} {w : BitVec 32} (hp : p + 32 ≤ 8 * X.length) :
    ((turned X p w 32).drop ((turned X p w 32).length - 4) = fourN (crcSum ((turned X p w 32).take ((turned X p w 32).length - 4))).toNat) ↔ w = 0#32 := by
  rw [right_turned hX (turned_bytes hX p w 32) (turned_length X p w 32).symm h4 hr (turned_msg hX 32 hp)]
  rw [stG_burst (w := w) (p := p) (n := 32) (Nat.le_refl _) hp (fun j hj => by simp [show ¬ p ≤ j by omega]) (fun j hj => by simp [hj]) (fun j hj => by simp [show ¬ j < p + 32 by omega]) (BitVec.shiftLeft_eq_zero (by decide))]
  constructor
  · exact roundsB_inj0
  · rintro rfl; exact roundsB_zero _

theorem mask_bit (w : BitVec 32) (k : Nat) (hk : k < 32) : (IntKind.u32.wrap ((w.toNat : Int) * 2 ^ min k IntKind.u32.bits)).fdiv (2 ^ min (Int.toNat 31) IntKind.u32.bits) = 1 ↔ (w <<< k).msb = true := by
  have e1 : min k IntKind.u32.bits = k := by simp only [IntKind.bits]; omega
  have e2 : min (Int.toNat 31) IntKind.u32.bits = 31 := by decide
  have e3 : ((w.toNat : Int) * 2 ^ k) = ((w.toNat * 2 ^ k : Nat) : Int) := by simp
  rw [e1, e2, e3, wrap32, BitVec.msb_eq_decide, BitVec.toNat_shiftLeft, Nat.shiftLeft_eq]
  have hlt : w.toNat * 2 ^ k % 4294967296 < 4294967296 := Nat.mod_lt _ (by decide)
  rw [show (2 ^ 32 : Nat) = 4294967296 from rfl]
  generalize w.toNat * 2 ^ k % 4294967296 = y at hlt
  rw [Int.fdiv_eq_ediv_of_nonneg _ (by decide)]
  simp only [decide_eq_true_eq]
  omega
theorem one_mask (r : Nat) (hr : r < 8) : (128 : Int).fdiv (2 ^ min r IntKind.u8.bits) = (((128#8 >>> r).toNat : Nat) : Int) := by
  revert r
  decide

theorem bursts_ret {m : Mem} {v : Value} {bs : List Int} (hv : IsBytes m v bs) (hu : Under m.next v) (hl : (bs.length : Int) < 2 ^ 62) (hb : Bytes bs) {a : Nat} (ha : a < 65536) (w : BitVec 32) : Ret Try.prog 6 [v, .int .u16 a, .int .u32 w.toNat] m fun v _ => v = .bool true := by
  refine ret_wp [] Try.func6 rfl (by decide) (by kernel_rfl) ?_
  simp only [optV_some, guardV_true, guardV_false, condV_true, condV_false, wpc_skip, wpc_label, wpc_exit, wpc_ret, wpc_region, wpc_seq, wpc_cond, wpc_block, wpc_scope, wpc_loop, wpo_nil, wpo_cons, wps_open, evOp, evParts, okVal, ev1, evs, evOpt, put_get, put_none, envOf, keep_some, List.lookup_nil, List.size_toArray, List.length_cons, List.length_nil, List.range, List.range.loop, Nat.zero_add, Nat.reduceAdd, Bool.not_false, Bool.not_true, Bool.true_or, if_true, if_false, reduceIte, Nat.reduceEqDiff, reduceCtorEq, List.getElem?_toArray, List.getElem?_cons_zero, List.getElem?_cons_succ, guardOf, constOk, constCell, evBuiltin, opLen, List.head?_cons, foldV, min2V, max2V, bin_add, bin_sub, bin_mul, bin_quo, bin_rem, bin_and, bin_or, bin_xor, bin_shl, bin_shr, bin_lss, bin_leq, bin_gtr, bin_geq, bin_eql, bin_neq, bin_seql, bin_beql, un_neg, un_xor, un_not, Int.reduceLT, Int.reduceEq, Kend, resOf, oneOf_one, Bool.false_eq_true, Bool.true_eq_false, IntKind.signed, IntKind.max, opConvert, opIndexAddr, opLoad, aggOf, Option.some.injEq, Value.bool.injEq, exists_eq_left', true_and, forall_const, decide_eq_true_eq, decide_eq_false_iff_not, Int.natCast_nonneg, and_self, Int.toNat_natCast, Nat.mul_one, List.append_nil, beq_self_eq_true, Nat.lt_irrefl, Nat.zero_lt_succ, Nat.reduceLT, Option.bind_some, Try.underlying3, Try.underlying4, Try.underlying5, Try.underlying9, Try.underlying22, Try.underlying24, Try.underlying29, Try.underlying32, ts3, ts4, ts5, ts9, ts22, ts24, ts29, ts32, tz3, tz4, tz5, tz9, tz22, tz24, tz29, tz32, tb3, tb4, tb5, tb9, tb22, tb24, tb29, tb32, fr4, fr5, fr6]
  refine awake_ret fun m1 x1 => ?_
  have hv := hv.ext hu x1
  have hu := hu.mono x1.1
  simp only [optV_some, guardV_true, guardV_false, condV_true, condV_false, wpc_skip, wpc_label, wpc_exit, wpc_ret, wpc_region, wpc_seq, wpc_cond, wpc_block, wpc_scope, wpc_loop, wpo_nil, wpo_cons, wps_open, evOp, evParts, okVal, ev1, evs, evOpt, put_get, put_none, envOf, keep_some, List.lookup_nil, List.size_toArray, List.length_cons, List.length_nil, List.range, List.range.loop, Nat.zero_add, Nat.reduceAdd, Bool.not_false, Bool.not_true, Bool.true_or, if_true, if_false, reduceIte, Nat.reduceEqDiff, reduceCtorEq, List.getElem?_toArray, List.getElem?_cons_zero, List.getElem?_cons_succ, guardOf, constOk, constCell, evBuiltin, List.head?_cons, foldV, min2V, max2V, bin_add, bin_sub, bin_mul, bin_quo, bin_rem, bin_and, bin_or, bin_xor, bin_shl, bin_shr, bin_lss, bin_leq, bin_gtr, bin_geq, bin_eql, bin_neq, bin_seql, bin_beql, un_neg, un_xor, un_not, Int.reduceLT, Int.reduceEq, Kend, resOf, oneOf_one, Bool.false_eq_true, Bool.true_eq_false, IntKind.signed, IntKind.max, opConvert, opIndexAddr, opLoad, aggOf, Option.some.injEq, Value.bool.injEq, exists_eq_left', true_and, forall_const, decide_eq_true_eq, decide_eq_false_iff_not, Int.natCast_nonneg, and_self, Int.toNat_natCast, Nat.mul_one, List.append_nil, beq_self_eq_true, Nat.lt_irrefl, Nat.zero_lt_succ, Nat.reduceLT, Option.bind_some, Try.underlying3, Try.underlying4, Try.underlying5, Try.underlying9, Try.underlying22, Try.underlying24, Try.underlying29, Try.underlying32, ts3, ts4, ts5, ts9, ts22, ts24, ts29, ts32, tz3, tz4, tz5, tz9, tz22, tz24, tz29, tz32, tb3, tb4, tb5, tb9, tb22, tb24, tb29, tb32, fr4, fr5, fr6, hv.len]
  refine cond_by (fun h => ?_) (fun h => ?_)
  · simp only [optV_some, guardV_true, guardV_false, condV_true, condV_false, wpc_skip, wpc_label, wpc_exit, wpc_ret, wpc_region, wpc_seq, wpc_cond, wpc_block, wpc_scope, wpc_loop, wpo_nil, wpo_cons, wps_open, evOp, evParts, okVal, ev1, evs, evOpt, put_get, put_none, envOf, keep_some, List.lookup_nil, List.size_toArray, List.length_cons, List.length_nil, List.range, List.range.loop, Nat.zero_add, Nat.reduceAdd, Bool.not_false, Bool.not_true, Bool.true_or, if_true, if_false, reduceIte, Nat.reduceEqDiff, reduceCtorEq, List.getElem?_toArray, List.getElem?_cons_zero, List.getElem?_cons_succ, guardOf, constOk, constCell, evBuiltin, opLen, List.head?_cons, foldV, min2V, max2V, bin_add, bin_sub, bin_mul, bin_quo, bin_rem, bin_and, bin_or, bin_xor, bin_shl, bin_shr, bin_lss, bin_leq, bin_gtr, bin_geq, bin_eql, bin_neq, bin_seql, bin_beql, un_neg, un_xor, un_not, Int.reduceLT, Int.reduceEq, Kend, resOf, oneOf_one, Bool.false_eq_true, Bool.true_eq_false, IntKind.signed, IntKind.max, opConvert, opIndexAddr, opLoad, aggOf, Option.some.injEq, Value.bool.injEq, exists_eq_left', true_and, forall_const, decide_eq_true_eq, decide_eq_false_iff_not, Int.natCast_nonneg, and_self, Int.toNat_natCast, Nat.mul_one, List.append_nil, beq_self_eq_true, Nat.lt_irrefl, Nat.zero_lt_succ, Nat.reduceLT, Option.bind_some, Try.underlying3, Try.underlying4, Try.underlying5, Try.underlying9, Try.underlying22, Try.underlying24, Try.underlying29, Try.underlying32, ts3, ts4, ts5, ts9, ts22, ts24, ts29, ts32, tz3, tz4, tz5, tz9, tz22, tz24, tz29, tz32, tb3, tb4, tb5, tb9, tb22, tb24, tb29, tb32, fr4, fr5, fr6]
  · simp only [optV_some, guardV_true, guardV_false, condV_true, condV_false, wpc_skip, wpc_label, wpc_exit, wpc_ret, wpc_region, wpc_seq, wpc_cond, wpc_block, wpc_scope, wpc_loop, wpo_nil, wpo_cons, wps_open, evOp, evParts, okVal, ev1, evs, evOpt, put_get, put_none, envOf, keep_some, List.lookup_nil, List.size_toArray, List.length_cons, List.length_nil, List.range, List.range.loop, Nat.zero_add, Nat.reduceAdd, Bool.not_false, Bool.not_true, Bool.true_or, if_true, if_false, reduceIte, Nat.reduceEqDiff, reduceCtorEq, List.getElem?_toArray, List.getElem?_cons_zero, List.getElem?_cons_succ, guardOf, constOk, constCell, evBuiltin, opLen, List.head?_cons, foldV, min2V, max2V, bin_add, bin_sub, bin_mul, bin_quo, bin_rem, bin_and, bin_or, bin_xor, bin_shl, bin_shr, bin_lss, bin_leq, bin_gtr, bin_geq, bin_eql, bin_neq, bin_seql, bin_beql, un_neg, un_xor, un_not, Int.reduceLT, Int.reduceEq, Kend, resOf, oneOf_one, Bool.false_eq_true, Bool.true_eq_false, IntKind.signed, IntKind.max, opConvert, opIndexAddr, opLoad, aggOf, Option.some.injEq, Value.bool.injEq, exists_eq_left', true_and, forall_const, decide_eq_true_eq, decide_eq_false_iff_not, Int.natCast_nonneg, and_self, Int.toNat_natCast, Nat.mul_one, List.append_nil, beq_self_eq_true, Nat.lt_irrefl, Nat.zero_lt_succ, Nat.reduceLT, Option.bind_some, Try.underlying3, Try.underlying4, Try.underlying5, Try.underlying9, Try.underlying22, Try.underlying24, Try.underlying29, Try.underlying32, ts3, ts4, ts5, ts9, ts22, ts24, ts29, ts32, tz3, tz4, tz5, tz9, tz22, tz24, tz29, tz32, tb3, tb4, tb5, tb9, tb22, tb24, tb29, tb32, fr4, fr5, fr6]
    refine put_ret hv hu (by omega) fun vx m2 ox x2 => ?_
    have hX := put_bytes hb
    have hXr := put_right hb
    have hXl : (bs ++ four (crcSum bs)).length = bs.length + 4 := by simp [four]
    generalize bs ++ four (crcSum bs) = X at ox hX hXr hXl
    have ol := ox.is.len
    have wa : IntKind.i64.wrap (a : Int) = a := wrap_i64 (by omega) (by omega)
    have w1 : IntKind.i64.wrap (8 * (X.length : Int)) = ((8 * X.length : Nat) : Int) := by rw [wrap_i64 (by omega) (by omega)]; omega
    have w2 : IntKind.i64.wrap (((8 * X.length : Nat) : Int) - 31) = ((8 * X.length - 31 : Nat) : Int) := by rw [wrap_i64 (by omega) (by omega)]; omega
    have w3 : ¬ (((8 * X.length - 31 : Nat) : Int) = 0) := by omega
    obtain ⟨F, hF⟩ : ∃ F, F = a % (8 * X.length - 31) := ⟨_, rfl⟩
    have hFl : F + 32 ≤ 8 * X.length := by
      have := Nat.mod_lt a (show 0 < 8 * X.length - 31 by omega)
      omega
    have w4 : Int.tmod (a : Int) ((8 * X.length - 31 : Nat) : Int) = (F : Int) := by
      rw [Int.tmod_eq_emod_of_nonneg (by omega), hF]
      simp
    simp only [optV_some, guardV_true, guardV_false, condV_true, condV_false, wpc_skip, wpc_label, wpc_exit, wpc_ret, wpc_region, wpc_seq, wpc_cond, wpc_block, wpc_scope, wpc_loop, wpo_nil, wpo_cons, wps_open, evOp, evParts, okVal, ev1, evs, evOpt, put_get, put_none, envOf, keep_some, List.lookup_nil, List.size_toArray, List.length_cons, List.length_nil, List.range, List.range.loop, Nat.zero_add, Nat.reduceAdd, Bool.not_false, Bool.not_true, Bool.true_or, if_true, if_false, reduceIte, Nat.reduceEqDiff, reduceCtorEq, List.getElem?_toArray, List.getElem?_cons_zero, List.getElem?_cons_succ, guardOf, constOk, constCell, evBuiltin, List.head?_cons, foldV, min2V, max2V, bin_add, bin_sub, bin_mul, bin_quo, bin_rem, bin_and, bin_or, bin_xor, bin_shl, bin_shr, bin_lss, bin_leq, bin_gtr, bin_geq, bin_eql, bin_neq, bin_seql, bin_beql, un_neg, un_xor, un_not, Int.reduceLT, Int.reduceEq, Kend, resOf, oneOf_one, Bool.false_eq_true, Bool.true_eq_false, IntKind.signed, IntKind.max, opConvert, opIndexAddr, opLoad, aggOf, Option.some.injEq, Value.bool.injEq, exists_eq_left', true_and, forall_const, decide_eq_true_eq, decide_eq_false_iff_not, Int.natCast_nonneg, and_self, Int.toNat_natCast, Nat.mul_one, List.append_nil, beq_self_eq_true, Nat.lt_irrefl, Nat.zero_lt_succ, Nat.reduceLT, Option.bind_some, Try.underlying3, Try.underlying4, Try.underlying5, Try.underlying9, Try.underlying22, Try.underlying24, Try.underlying29, Try.underlying32, ts3, ts4, ts5, ts9, ts22, ts24, ts29, ts32, tz3, tz4, tz5, tz9, tz22, tz24, tz29, tz32, tb3, tb4, tb5, tb9, tb22, tb24, tb29, tb32, fr4, fr5, fr6, ol, wa, w1, w2, w3, w4]
    rcases ox with ⟨hnil, _⟩ | ⟨b0, hb1, hb2, rfl, hb3⟩
    · have := congrArg List.length hnil
      rw [byteCells_length] at this
      simp only [List.length_nil] at this
      omega
    have oB : Own m2 b0 (turned X F w 0) := hb3
    rw [byteCells_length] at ol ⊢
    clear hb3
    refine loop_wp [] (by kernel_rfl) (fun q env m' => ∃ k : Nat, q + k = 32 ∧ env 24 = some (.int .i64 k) ∧ env 8 = some (.int .i64 F) ∧ env 7 = some (.slice (some ⟨b0, 0, none⟩) X.length 1) ∧ env 2 = some (.int .u32 w.toNat) ∧ Own m' b0 (turned X F w k) ∧ b0 < m'.next) ?_ 32
      ⟨0, rfl, rfl, rfl, rfl, rfl, oB, hb2⟩
    rintro q env m' ⟨k, hk, h24, h8, h7, h2, oB, hlt⟩
    simp only [optV_some, guardV_true, guardV_false, condV_true, condV_false, wpc_skip, wpc_label, wpc_exit, wpc_ret, wpc_region, wpc_seq, wpc_cond, wpc_block, wpc_scope, wpc_loop, wpo_nil, wpo_cons, wps_open, evOp, evParts, okVal, ev1, evs, evOpt, put_get, put_none, envOf, keep_some, List.lookup_nil, List.size_toArray, List.length_cons, List.length_nil, List.range, List.range.loop, Nat.zero_add, Nat.reduceAdd, Bool.not_false, Bool.not_true, Bool.true_or, if_true, if_false, reduceIte, Nat.reduceEqDiff, reduceCtorEq, List.getElem?_toArray, List.getElem?_cons_zero, List.getElem?_cons_succ, guardOf, constOk, constCell, evBuiltin, opLen, List.head?_cons, foldV, min2V, max2V, bin_add, bin_sub, bin_mul, bin_quo, bin_rem, bin_and, bin_or, bin_xor, bin_shl, bin_shr, bin_lss, bin_leq, bin_gtr, bin_geq, bin_eql, bin_neq, bin_seql, bin_beql, un_neg, un_xor, un_not, Int.reduceLT, Int.reduceEq, Kend, resOf, oneOf_one, Bool.false_eq_true, Bool.true_eq_false, IntKind.signed, IntKind.max, opConvert, opIndexAddr, opLoad, aggOf, Option.some.injEq, Value.bool.injEq, exists_eq_left', true_and, forall_const, decide_eq_true_eq, decide_eq_false_iff_not, Int.natCast_nonneg, and_self, Int.toNat_natCast, Nat.mul_one, List.append_nil, beq_self_eq_true, Nat.lt_irrefl, Nat.zero_lt_succ, Nat.reduceLT, Option.bind_some, Try.underlying3, Try.underlying4, Try.underlying5, Try.underlying9, Try.underlying22, Try.underlying24, Try.underlying29, Try.underlying32, ts3, ts4, ts5, ts9, ts22, ts24, ts29, ts32, tz3, tz4, tz5, tz9, tz22, tz24, tz29, tz32, tb3, tb4, tb5, tb9, tb22, tb24, tb29, tb32, fr4, fr5, fr6, h24]
    refine cond_by (fun hq => ?_) (fun hq => ?_)
    · have hk32 : k < 32 := by omega
      have hneg : ¬ ((k : Int) < 0) := by omega
      have h31 : ¬ ((31 : Int) < 0) := by decide
      simp only [optV_some, guardV_true, guardV_false, condV_true, condV_false, wpc_skip, wpc_label, wpc_exit, wpc_ret, wpc_region, wpc_seq, wpc_cond, wpc_block, wpc_scope, wpc_loop, wpo_nil, wpo_cons, wps_open, evOp, evParts, okVal, ev1, evs, evOpt, put_get, put_none, envOf, keep_some, List.lookup_nil, List.size_toArray, List.length_cons, List.length_nil, List.range, List.range.loop, Nat.zero_add, Nat.reduceAdd, Bool.not_false, Bool.not_true, Bool.true_or, if_true, if_false, reduceIte, Nat.reduceEqDiff, reduceCtorEq, List.getElem?_toArray, List.getElem?_cons_zero, List.getElem?_cons_succ, guardOf, constOk, constCell, evBuiltin, opLen, List.head?_cons, foldV, min2V, max2V, bin_add, bin_sub, bin_mul, bin_quo, bin_rem, bin_and, bin_or, bin_xor, bin_shl, bin_shr, bin_lss, bin_leq, bin_gtr, bin_geq, bin_eql, bin_neq, bin_seql, bin_beql, un_neg, un_xor, un_not, Int.reduceLT, Int.reduceEq, Kend, resOf, oneOf_one, Bool.false_eq_true, Bool.true_eq_false, IntKind.signed, IntKind.max, opConvert, opIndexAddr, opLoad, aggOf, Option.some.injEq, Value.bool.injEq, exists_eq_left', true_and, forall_const, decide_eq_true_eq, decide_eq_false_iff_not, Int.natCast_nonneg, and_self, Int.toNat_natCast, Nat.mul_one, List.append_nil, beq_self_eq_true, Nat.lt_irrefl, Nat.zero_lt_succ, Nat.reduceLT, Option.bind_some, Try.underlying3, Try.underlying4, Try.underlying5, Try.underlying9, Try.underlying22, Try.underlying24, Try.underlying29, Try.underlying32, ts3, ts4, ts5, ts9, ts22, ts24, ts29, ts32, tz3, tz4, tz5, tz9, tz22, tz24, tz29, tz32, tb3, tb4, tb5, tb9, tb22, tb24, tb29, tb32, fr4, fr5, fr6, h24, h8, h7, h2, hneg, h31]
      refine cond_by (fun hm => ?_) (fun hm => ?_)
      · rw [mask_bit w k hk32] at hm
        have e1 : IntKind.i64.wrap ((F : Int) + (k : Int)) = ((F + k : Nat) : Int) := by rw [wrap_i64 (by omega) (by omega)]; omega
        have e2 : IntKind.i64.wrap (Int.tdiv ((F + k : Nat) : Int) 8) = (((F + k) / 8 : Nat) : Int) := by
          rw [Int.tdiv_eq_ediv_of_nonneg (by omega), wrap_i64 (by omega) (by omega)]; simp
        have e3 : Int.tmod ((F + k : Nat) : Int) 8 = (((F + k) % 8 : Nat) : Int) := by
          rw [Int.tmod_eq_emod_of_nonneg (by omega)]; simp
        have e4 : ¬ ((((F + k) % 8 : Nat) : Int) < 0) := by omega
        have hi : (F + k) / 8 < X.length := by omega
        have ix : opIndexAddr Try.prog 22 (.slice (some ⟨b0, 0, none⟩) X.length 1) (.int .i64 (((F + k) / 8 : Nat) : Int)) = some (.pointer (some ⟨b0, (F + k) / 8, none⟩)) := index_own Try.underlying22 ts5 hi
        have ld := own_load oB (j := (F + k) / 8) (by rw [turned_length]; exact hi)
        have st := own_store oB (j := (F + k) / 8) (by rw [turned_length]; exact hi) (bits .xor .u8 ((turned X F w k).getD ((F + k) / 8) 0) (((128#8 >>> ((F + k) % 8)).toNat : Nat) : Int))
        have hn : turned X F w (k + 1) = (turned X F w k).set ((F + k) / 8) (bits .xor .u8 ((turned X F w k).getD ((F + k) / 8) 0) (((128#8 >>> ((F + k) % 8)).toNat : Nat) : Int)) := by rw [turned, if_pos hm]
        rw [← hn] at st
        simp only [optV_some, guardV_true, guardV_false, condV_true, condV_false, wpc_skip, wpc_label, wpc_exit, wpc_ret, wpc_region, wpc_seq, wpc_cond, wpc_block, wpc_scope, wpc_loop, wpo_nil, wpo_cons, wps_open, evOp, evParts, okVal, ev1, evs, evOpt, put_get, put_none, envOf, keep_some, List.lookup_nil, List.size_toArray, List.length_cons, List.length_nil, List.range, List.range.loop, Nat.zero_add, Nat.reduceAdd, Bool.not_false, Bool.not_true, Bool.true_or, if_true, if_false, reduceIte, Nat.reduceEqDiff, reduceCtorEq, List.getElem?_toArray, List.getElem?_cons_zero, List.getElem?_cons_succ, guardOf, constOk, constCell, evBuiltin, opLen, List.head?_cons, foldV, min2V, max2V, bin_add, bin_sub, bin_mul, bin_quo, bin_rem, bin_and, bin_or, bin_xor, bin_shl, bin_shr, bin_lss, bin_leq, bin_gtr, bin_geq, bin_eql, bin_neq, bin_seql, bin_beql, un_neg, un_xor, un_not, Int.reduceLT, Int.reduceEq, Kend, resOf, oneOf_one, Bool.false_eq_true, Bool.true_eq_false, IntKind.signed, IntKind.max, opConvert, aggOf, Option.some.injEq, Value.bool.injEq, exists_eq_left', true_and, forall_const, decide_eq_true_eq, decide_eq_false_iff_not, Int.natCast_nonneg, and_self, Int.toNat_natCast, Nat.mul_one, List.append_nil, beq_self_eq_true, Nat.lt_irrefl, Nat.zero_lt_succ, Nat.reduceLT, Option.bind_some, Try.underlying3, Try.underlying4, Try.underlying5, Try.underlying9, Try.underlying22, Try.underlying24, Try.underlying29, Try.underlying32, ts3, ts4, ts5, ts9, ts22, ts24, ts29, ts32, tz3, tz4, tz5, tz9, tz22, tz24, tz29, tz32, tb3, tb4, tb5, tb9, tb22, tb24, tb29, tb32, fr4, fr5, fr6, h24, h8, h7, h2, e1, e2, e3, e4, ix, ld, one_mask _ (Nat.mod_lt (F + k) (show 0 < 8 by decide)), st]
        refine ⟨q - 1, by omega, k + 1, by omega, ?_, own_set, hlt⟩
        rw [wrap_i64 (by omega) (by omega)]; rfl
      · rw [mask_bit w k hk32] at hm
        simp only [optV_some, guardV_true, guardV_false, condV_true, condV_false, wpc_skip, wpc_label, wpc_exit, wpc_ret, wpc_region, wpc_seq, wpc_cond, wpc_block, wpc_scope, wpc_loop, wpo_nil, wpo_cons, wps_open, evOp, evParts, okVal, ev1, evs, evOpt, put_get, put_none, envOf, keep_some, List.lookup_nil, List.size_toArray, List.length_cons, List.length_nil, List.range, List.range.loop, Nat.zero_add, Nat.reduceAdd, Bool.not_false, Bool.not_true, Bool.true_or, if_true, if_false, reduceIte, Nat.reduceEqDiff, reduceCtorEq, List.getElem?_toArray, List.getElem?_cons_zero, List.getElem?_cons_succ, guardOf, constOk, constCell, evBuiltin, opLen, List.head?_cons, foldV, min2V, max2V, bin_add, bin_sub, bin_mul, bin_quo, bin_rem, bin_and, bin_or, bin_xor, bin_shl, bin_shr, bin_lss, bin_leq, bin_gtr, bin_geq, bin_eql, bin_neq, bin_seql, bin_beql, un_neg, un_xor, un_not, Int.reduceLT, Int.reduceEq, Kend, resOf, oneOf_one, Bool.false_eq_true, Bool.true_eq_false, IntKind.signed, IntKind.max, opConvert, opIndexAddr, opLoad, aggOf, Option.some.injEq, Value.bool.injEq, exists_eq_left', true_and, forall_const, decide_eq_true_eq, decide_eq_false_iff_not, Int.natCast_nonneg, and_self, Int.toNat_natCast, Nat.mul_one, List.append_nil, beq_self_eq_true, Nat.lt_irrefl, Nat.zero_lt_succ, Nat.reduceLT, Option.bind_some, Try.underlying3, Try.underlying4, Try.underlying5, Try.underlying9, Try.underlying22, Try.underlying24, Try.underlying29, Try.underlying32, ts3, ts4, ts5, ts9, ts22, ts24, ts29, ts32, tz3, tz4, tz5, tz9, tz22, tz24, tz29, tz32, tb3, tb4, tb5, tb9, tb22, tb24, tb29, tb32, fr4, fr5, fr6, h24, h8, h7, h2]
        refine ⟨q - 1, by omega, k + 1, by omega, ?_, ?_, hlt⟩
        · rw [wrap_i64 (by omega) (by omega)]; rfl
        · rw [turned, if_neg hm]; exact oB
    · have hk32 : k = 32 := by omega
      subst hk32
      have is : IsBytes m' (.slice (some ⟨b0, 0, none⟩) X.length 1) (turned X F w 32) := oB.is (turned_length _ _ _ _)
      simp only [optV_some, guardV_true, guardV_false, condV_true, condV_false, wpc_skip, wpc_label, wpc_exit, wpc_ret, wpc_region, wpc_seq, wpc_cond, wpc_block, wpc_scope, wpc_loop, wpo_nil, wpo_cons, wps_open, evOp, evParts, okVal, ev1, evs, evOpt, put_get, put_none, envOf, keep_some, List.lookup_nil, List.size_toArray, List.length_cons, List.length_nil, List.range, List.range.loop, Nat.zero_add, Nat.reduceAdd, Bool.not_false, Bool.not_true, Bool.true_or, if_true, if_false, reduceIte, Nat.reduceEqDiff, reduceCtorEq, List.getElem?_toArray, List.getElem?_cons_zero, List.getElem?_cons_succ, guardOf, constOk, constCell, evBuiltin, opLen, List.head?_cons, foldV, min2V, max2V, bin_add, bin_sub, bin_mul, bin_quo, bin_rem, bin_and, bin_or, bin_xor, bin_shl, bin_shr, bin_lss, bin_leq, bin_gtr, bin_geq, bin_eql, bin_neq, bin_seql, bin_beql, un_neg, un_xor, un_not, Int.reduceLT, Int.reduceEq, Kend, resOf, oneOf_one, Bool.false_eq_true, Bool.true_eq_false, IntKind.signed, IntKind.max, opConvert, opIndexAddr, opLoad, aggOf, Option.some.injEq, Value.bool.injEq, exists_eq_left', true_and, forall_const, decide_eq_true_eq, decide_eq_false_iff_not, Int.natCast_nonneg, and_self, Int.toNat_natCast, Nat.mul_one, List.append_nil, beq_self_eq_true, Nat.lt_irrefl, Nat.zero_lt_succ, Nat.reduceLT, Option.bind_some, Try.underlying3, Try.underlying4, Try.underlying5, Try.underlying9, Try.underlying22, Try.underlying24, Try.underlying29, Try.underlying32, ts3, ts4, ts5, ts9, ts22, ts24, ts29, ts32, tz3, tz4, tz5, tz9, tz22, tz24, tz29, tz32, tb3, tb4, tb5, tb9, tb22, tb24, tb29, tb32, fr4, fr5, fr6, h24, h8, h7, h2]
      refine right_ret is (fun i off sp n z he => by simp only [Value.slice.injEq, Option.some.injEq, Addr.mk.injEq] at he; omega) (by rw [turned_length]; omega) fun m3 x3 => ?_
      simp only [optV_some, guardV_true, guardV_false, condV_true, condV_false, wpc_skip, wpc_label, wpc_exit, wpc_ret, wpc_region, wpc_seq, wpc_cond, wpc_block, wpc_scope, wpc_loop, wpo_nil, wpo_cons, wps_open, evOp, evParts, okVal, ev1, evs, evOpt, put_get, put_none, envOf, keep_some, List.lookup_nil, List.size_toArray, List.length_cons, List.length_nil, List.range, List.range.loop, Nat.zero_add, Nat.reduceAdd, Bool.not_false, Bool.not_true, Bool.true_or, if_true, if_false, reduceIte, Nat.reduceEqDiff, reduceCtorEq, List.getElem?_toArray, List.getElem?_cons_zero, List.getElem?_cons_succ, guardOf, constOk, constCell, evBuiltin, opLen, List.head?_cons, foldV, min2V, max2V, bin_add, bin_sub, bin_mul, bin_quo, bin_rem, bin_and, bin_or, bin_xor, bin_shl, bin_shr, bin_lss, bin_leq, bin_gtr, bin_geq, bin_eql, bin_neq, bin_seql, bin_beql, un_neg, un_xor, un_not, Int.reduceLT, Int.reduceEq, Kend, resOf, oneOf_one, Bool.false_eq_true, Bool.true_eq_false, IntKind.signed, IntKind.max, opConvert, opIndexAddr, opLoad, aggOf, Option.some.injEq, Value.bool.injEq, exists_eq_left', true_and, forall_const, decide_eq_true_eq, decide_eq_false_iff_not, Int.natCast_nonneg, and_self, Int.toNat_natCast, Nat.mul_one, List.append_nil, beq_self_eq_true, Nat.lt_irrefl, Nat.zero_lt_succ, Nat.reduceLT, Option.bind_some, Try.underlying3, Try.underlying4, Try.underlying5, Try.underlying9, Try.underlying22, Try.underlying24, Try.underlying29, Try.underlying32, ts3, ts4, ts5, ts9, ts22, ts24, ts29, ts32, tz3, tz4, tz5, tz9, tz22, tz24, tz29, tz32, tb3, tb4, tb5, tb9, tb22, tb24, tb29, tb32, fr4, fr5, fr6, h24, h8, h7, h2]
      rw [if_neg (by rw [turned_length]; omega), right_iff (turned_bytes hX F w 32) (by rw [turned_length]; omega), (show _ = decide (w = 0#32) from decide_eq_decide.2 (turned_right hX (by omega) hXr hFl))]
      have : decide ((w.toNat : Int) = 0) = decide (w = 0#32) := decide_eq_decide.2 ⟨fun h => BitVec.eq_of_toNat_eq (by rw [BitVec.toNat_ofNat]; omega), fun h => by rw [h]; rfl⟩
      rw [this]
      simp

theorem u16_wf {n : Int} (h : (Lit.int .u16 n).wf = true) : ∃ a : Nat, n = a ∧ a < 65536 := by
  simp [Lit.wf, IntKind.min, IntKind.max, IntKind.signed, IntKind.bits] at h
  exact ⟨n.toNat, by omega, by omega⟩
theorem u32_wf {n : Int} (h : (Lit.int .u32 n).wf = true) : ∃ w : BitVec 32, n = w.toNat := by
  simp [Lit.wf, IntKind.min, IntKind.max, IntKind.signed, IntKind.bits] at h
  exact ⟨BitVec.ofInt 32 n, by rw [BitVec.toNat_ofInt]; omega⟩

theorem crcBursts_true {H : Type} {m : Mem} {xs : List Value} {ds : List (DataW H)} (hd : IsDs Try.prog 8 [22, 29, 24] ds) (hl : LieAll Try.prog m [22, 29, 24] ds xs) : Ret Try.prog 6 xs m fun v _ => v = .bool true := by
  match ds, hd with
  | [d0, d1, d2], hd =>
    obtain ⟨i0, i1, i2, _⟩ := hd
    obtain ⟨v0, _, rfl, l0, v1, _, rfl, l1, v2, _, rfl, l2, rfl⟩ := hl
    obtain ⟨z0, w0, b0, s0, u0⟩ := lies_ints (k := 6) Try.underlying22 Try.underlying5 (by kernel_rfl) i0 l0
    obtain ⟨n1, rfl, w1⟩ := lies_int (k := 7) Try.underlying29 i1 l1
    obtain ⟨n2, rfl, w2⟩ := lies_int (k := 7) Try.underlying24 i2 l2
    obtain ⟨a, rfl, ha⟩ := u16_wf w1
    obtain ⟨w, rfl⟩ := u32_wf w2
    exact bursts_ret s0 u0 (len_small b0 (by kernel_rfl)) (bytes_wf w0) ha w
end Go.Proofs.Ytpjihjfelobkoaa
