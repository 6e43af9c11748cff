/- A text of the abstract machine. -/

/- LexBytes comes to true on all arguments. -/
import Derived.Test.YtbaohgjammpgjaaAmC04LexJoins
set_option linter.unusedSimpArgs false
set_option linter.unusedVariables false
set_option maxRecDepth 100000
set_option maxHeartbeats 4000000
namespace Go.Proofs.Ytbaohgjammpgjaa
open Go Go.AM Go.AM.Crc Go.AM.Lex

/-- A number's digits. -/
def dec : Nat → Nat → List Int
  | 0, _ => []
  | f + 1, k => if k < 10 then [48 + (k : Int)] else dec f (k / 10) ++ [48 + ((k % 10 : Nat) : Int)]
theorem dec_more : ∀ (f k : Nat), k < 10 ^ f → dec (f + 1) k = if k < 10 then [48 + (k : Int)] else dec f (k / 10) ++ [48 + ((k % 10 : Nat) : Int)] := fun f k _ => rfl
theorem dec_fuel : ∀ (f g k : Nat), k < 10 ^ f → f ≤ g → 0 < f → dec g k = dec f k
  | 0, _, _, _, _, h => by omega
  | f + 1, 0, _, _, h, _ => by omega
  | f + 1, g + 1, k, hk, h, _ => by
    rw [dec, dec]
    split
    · rfl
    · rename_i h10
      have hf : 0 < f := by
        rcases Nat.eq_zero_or_pos f with h0 | h0
        · subst h0; simp at hk; omega
        · exact h0
      rw [dec_fuel f g (k / 10) (by rw [Nat.pow_succ] at hk; omega) (by omega) hf]
theorem dec_props : ∀ (f k : Nat), k < 10 ^ f → 0 < f → (dec f k).length ≤ f ∧ (∀ c ∈ dec f k, 48 ≤ c ∧ c ≤ 57) ∧ ∃ c r, dec f k = c :: r ∧ (c = 48 → r = [])
  | 0, _, _, h => by omega
  | f + 1, k, hk, _ => by
    rw [dec]
    split
    · refine ⟨by simp, fun c hc => by simp at hc; omega, _, [], rfl, fun _ => rfl⟩
    · rename_i h10
      have hf : 0 < f := by
        rcases Nat.eq_zero_or_pos f with h0 | h0
        · subst h0; simp at hk; omega
        · exact h0
      obtain ⟨h1, h2, c, r, h3, h4⟩ := dec_props f (k / 10) (by rw [Nat.pow_succ] at hk; omega) hf
      refine ⟨by rw [List.length_append]; simp; exact h1, fun x hx => ?_, c, r ++ [48 + ((k % 10 : Nat) : Int)], by rw [h3]; rfl, fun h => ?_⟩
      · rcases List.mem_append.1 hx with hx | hx
        · exact h2 x hx
        · simp only [List.mem_singleton] at hx; omega
      · exfalso
        have hr := h4 h
        -- a number above 9 does not begin with a nought
        have hz : ∀ (f k : Nat), k < 10 ^ f → 0 < k → ∀ c r, dec f k = c :: r → c ≠ 48 := by
          intro f
          induction f with
          | zero => intro k h1 h2; simp at h1; omega
          | succ f ih =>
            intro k h1 h2 c r he
            rw [dec] at he
            split at he
            · simp at he; omega
            · have h3 : k / 10 < 10 ^ f := by rw [Nat.pow_succ] at h1; omega
              cases hd : dec f (k / 10) with
              | nil =>
                rw [hd] at he
                rcases Nat.eq_zero_or_pos f with h0 | h0
                · subst h0; simp at h1; omega
                · obtain ⟨g, rfl⟩ : ∃ g, f = g + 1 := ⟨f - 1, by omega⟩
                  rw [dec] at hd
                  split at hd <;> simp at hd
              | cons c' r' =>
                rw [hd] at he
                simp at he
                have := ih (k / 10) h3 (by omega) c' r' hd
                omega
        exact hz f (k / 10) (by rw [Nat.pow_succ] at hk; omega) (by omega) c r h3 h
theorem val_snoc (x : List Int) (c n : Int) : valOf10 (x ++ [c]) n = IntKind.i64.wrap (IntKind.i64.wrap (valOf10 x n * 10) + IntKind.i64.wrap (IntKind.u8.wrap (c - 48))) := by
  induction x generalizing n with
  | nil => rfl
  | cons d r ih => rw [List.cons_append, valOf10, valOf10, ih]
theorem val_dec : ∀ (f k : Nat), k < 10 ^ f → k < 2 ^ 40 → 0 < f → valOf10 (dec f k) 0 = k
  | 0, _, _, _, h => by omega
  | f + 1, k, hk, hk2, _ => by
    rw [dec]
    split
    · rename_i h10
      have a1 : IntKind.u8.wrap (48 + (k : Int) - 48) = k := by rw [wrap_u8 (by omega) (by omega)]; omega
      have a2 : IntKind.i64.wrap (k : Int) = k := wrap_i64 (by omega) (by omega)
      have a3 : IntKind.i64.wrap (0 * 10) = 0 := by decide
      have a4 : IntKind.i64.wrap (0 + (k : Int)) = k := by rw [wrap_i64 (by omega) (by omega)]; omega
      rw [valOf10, valOf10, a1, a2, a3, a4]
    · rename_i h10
      have hf : 0 < f := by
        rcases Nat.eq_zero_or_pos f with h0 | h0
        · subst h0; simp at hk; omega
        · exact h0
      rw [val_snoc, val_dec f (k / 10) (by rw [Nat.pow_succ] at hk; omega) (by omega) hf]
      have a1 : IntKind.u8.wrap (48 + ((k % 10 : Nat) : Int) - 48) = ((k % 10 : Nat) : Int) := by rw [wrap_u8 (by omega) (by omega)]; omega
      have a2 : IntKind.i64.wrap ((k % 10 : Nat) : Int) = ((k % 10 : Nat) : Int) := wrap_i64 (by omega) (by omega)
      have a3 : IntKind.i64.wrap (((k / 10 : Nat) : Int) * 10) = ((k / 10 * 10 : Nat) : Int) := by rw [wrap_i64 (by omega) (by omega)]; omega
      have a4 : IntKind.i64.wrap (((k / 10 * 10 : Nat) : Int) + ((k % 10 : Nat) : Int)) = k := by rw [wrap_i64 (by omega) (by omega)]; omega
      rw [a1, a2, a3, a4]
theorem tokens_num {c : Int} {r : List Int} (h : ∀ x ∈ c :: r, 48 ≤ x ∧ x ≤ 57) (hl : r.length ≤ 9) (hz : c = 48 → r = []) : tokens 0 (c :: r) = ([⟨2, 0, c :: r⟩], none) := by
  have hd : ∀ x ∈ c :: r, digitB x = true := fun x hx => by have := h x hx; simp [digitB]; omega
  have hc := h c (by simp)
  have h1 : blankB c = false := by simp [blankB]; omega
  have h2 : letterB c = false := by simp [letterB]; omega
  have hs : span digitB r = r.length := span_all fun x hx => hd x (by simp [hx])
  rw [tokens_cons, h1, h2, hd c (by simp), hs, if_neg (by decide), if_neg (by omega), if_neg (by decide), if_pos rfl, if_neg]
  · rw [List.take_length, List.drop_length, tokens_nil]
    rfl
  · rintro (h | ⟨h, h'⟩)
    · omega
    · rw [hz h] at h'
      simp at h'
theorem one_b (m : Mem) (a : Int) : opBuildSlice Try.prog 22 1 [(0, .int .u8 a)] m = some (.slice (some ⟨m.next, 0, none⟩) 1 1, m.new (.cells [.int .u8 a] 5 true)) := by kernel_rfl
theorem bld37n (s : ByteArray) : opBuild Try.prog 37 [(0, .int .u8 1), (2, .string s)] = some (.agg #[.int .u8 1, .int .i64 0, .string s]) := by kernel_rfl
theorem bin_bools {a b : Bool} : binV Try.prog .eql 4 (.bool a) (.bool b) = some (.bool (a == b)) := bin_beql Try.underlying4

theorem bytes_ret {m : Mem} {c : Int} {n : Nat} {s : List Int} (hc : 0 ≤ c ∧ c < 256) (hn : n < 4294967296) (hs : Bytes s) (hsl : s.length < 2 ^ 60) : Ret Try.prog 5 [.int .u8 c, .int .u32 n, .string (strOf s)] m fun v _ => v = .bool true := by
  refine ret_wp [] Try.func5 rfl (by decide) (by kernel_rfl) ?_
  simp only [optV_some, guardV_true, guardV_false, condV_true, condV_false, wpc_skip, wpc_label, wpc_exit, wpc_ret, wpc_region, wpc_seq, wpc_cond, wpc_block, wpc_scope, wpc_loop, wpo_nil, wpo_cons, wps_open, evOp, evParts, okVal, ev1, evs, evOpt, put_get, put_none, envOf, keep_some, List.lookup_nil, List.size_toArray, List.length_cons, List.length_nil, List.range, List.range.loop, Nat.zero_add, Nat.reduceAdd, Bool.not_false, Bool.not_true, Bool.true_or, if_true, if_false, reduceIte, Nat.reduceEqDiff, reduceCtorEq, List.getElem?_toArray, List.getElem?_cons_zero, List.getElem?_cons_succ, guardOf, constOk, constCell, evBuiltin, opLen, List.head?_cons, foldV, min2V, max2V, bin_add, bin_sub, bin_mul, bin_quo, bin_rem, bin_and, bin_or, bin_xor, bin_shl, bin_shr, bin_lss, bin_leq, bin_gtr, bin_geq, bin_eql, bin_neq, bin_seql, bin_beql, un_neg, un_xor, un_not, Int.reduceLT, Int.reduceEq, Kend, resOf, oneOf_one, Bool.false_eq_true, Bool.true_eq_false, IntKind.signed, IntKind.max, opConvert, opIndexAddr, opLoad, aggOf, Option.some.injEq, Value.bool.injEq, exists_eq_left', true_and, forall_const, decide_eq_true_eq, decide_eq_false_iff_not, Int.natCast_nonneg, and_self, Int.toNat_natCast, Nat.mul_one, List.append_nil, beq_self_eq_true, Nat.lt_irrefl, Nat.zero_lt_succ, Nat.reduceLT, Option.bind_some, Try.underlying3, Try.underlying4, Try.underlying5, Try.underlying9, Try.underlying22, Try.underlying25, Try.underlying26, Try.underlying27, Try.underlying30, Try.underlying34, Try.underlying35, Try.underlying37, Try.underlying40, Try.underlying41, ts3, ts4, ts5, ts9, ts22, ts25, ts26, ts27, ts30, ts34, ts35, ts37, ts40, ts41, tz3, tz4, tz5, tz9, tz22, tz25, tz26, tz27, tz30, tz34, tz35, tz37, tz40, tz41, tb3, tb4, tb5, tb9, tb22, tb25, tb26, tb27, tb30, tb34, tb35, tb37, tb40, tb41, fr3, fr4, fr5, fr6, fr7, fr8, fr9, fr10, fr11, fr12, fr13, fr14, fr15, fr16, fr17, fr18, new_get_if, new_next, set_get_if, set_next, decide_true, decide_false, beq_tt, beq_tf, beq_ft, beq_ff, undef, Nat.left_eq_add, Nat.add_eq_left, List.drop_zero, List.drop_succ_cons, List.take_succ_cons, List.take_zero, List.drop_nil, opBox, Value.cells, opStore, setCells, List.length_append, Nat.reduceLeDiff, Nat.add_zero, Nat.add_assoc, Nat.add_right_cancel_iff, List.cons_append, List.nil_append, Array.toList, Nat.reduceLT, Option.bind_some, Option.isNone_none, Option.isNone_some, al34, al37, fa34_0, fa34_1, fa34_2, fa37_0, fa37_1, fa37_2]
  refine awake_ret fun m1 x1 => ?_
  have wn : IntKind.u64.wrap (n : Int) = n := by simp [IntKind.wrap, IntKind.signed, IntKind.bits]; omega
  simp only [optV_some, guardV_true, guardV_false, condV_true, condV_false, wpc_skip, wpc_label, wpc_exit, wpc_ret, wpc_region, wpc_seq, wpc_cond, wpc_block, wpc_scope, wpc_loop, wpo_nil, wpo_cons, wps_open, evOp, evParts, okVal, ev1, evs, evOpt, put_get, put_none, envOf, keep_some, List.lookup_nil, List.size_toArray, List.length_cons, List.length_nil, List.range, List.range.loop, Nat.zero_add, Nat.reduceAdd, Bool.not_false, Bool.not_true, Bool.true_or, if_true, if_false, reduceIte, Nat.reduceEqDiff, reduceCtorEq, List.getElem?_toArray, List.getElem?_cons_zero, List.getElem?_cons_succ, guardOf, constOk, constCell, evBuiltin, opLen, List.head?_cons, foldV, min2V, max2V, bin_add, bin_sub, bin_mul, bin_quo, bin_rem, bin_and, bin_or, bin_xor, bin_shl, bin_shr, bin_lss, bin_leq, bin_gtr, bin_geq, bin_eql, bin_neq, bin_seql, bin_beql, un_neg, un_xor, un_not, Int.reduceLT, Int.reduceEq, Kend, resOf, oneOf_one, Bool.false_eq_true, Bool.true_eq_false, IntKind.signed, IntKind.max, opConvert, opIndexAddr, opLoad, aggOf, Option.some.injEq, Value.bool.injEq, exists_eq_left', true_and, forall_const, decide_eq_true_eq, decide_eq_false_iff_not, Int.natCast_nonneg, and_self, Int.toNat_natCast, Nat.mul_one, List.append_nil, beq_self_eq_true, Nat.lt_irrefl, Nat.zero_lt_succ, Nat.reduceLT, Option.bind_some, Try.underlying3, Try.underlying4, Try.underlying5, Try.underlying9, Try.underlying22, Try.underlying25, Try.underlying26, Try.underlying27, Try.underlying30, Try.underlying34, Try.underlying35, Try.underlying37, Try.underlying40, Try.underlying41, ts3, ts4, ts5, ts9, ts22, ts25, ts26, ts27, ts30, ts34, ts35, ts37, ts40, ts41, tz3, tz4, tz5, tz9, tz22, tz25, tz26, tz27, tz30, tz34, tz35, tz37, tz40, tz41, tb3, tb4, tb5, tb9, tb22, tb25, tb26, tb27, tb30, tb34, tb35, tb37, tb40, tb41, fr3, fr4, fr5, fr6, fr7, fr8, fr9, fr10, fr11, fr12, fr13, fr14, fr15, fr16, fr17, fr18, new_get_if, new_next, set_get_if, set_next, decide_true, decide_false, beq_tt, beq_tf, beq_ft, beq_ff, undef, Nat.left_eq_add, Nat.add_eq_left, List.drop_zero, List.drop_succ_cons, List.take_succ_cons, List.take_zero, List.drop_nil, opBox, Value.cells, opStore, setCells, List.length_append, Nat.reduceLeDiff, Nat.add_zero, Nat.add_assoc, Nat.add_right_cancel_iff, List.cons_append, List.nil_append, Array.toList, Nat.reduceLT, Option.bind_some, Option.isNone_none, Option.isNone_some, al34, al37, fa34_0, fa34_1, fa34_2, fa37_0, fa37_1, fa37_2, e_eq, wn]
  refine loop_wp [] (by kernel_rfl) (fun q env μ => ∃ (k : Nat) (z : List Int), k ≤ n ∧ q = k ∧ env 8 = some (.int .u64 k) ∧ env 7 = some (.string (strOf z)) ∧ env 0 = some (.int .u8 c) ∧ env 1 = some (.int .u32 n) ∧ env 2 = some (.string (strOf s)) ∧ dec 10 n = dec 10 k ++ z ∧ Bytes z ∧ z.length ≤ 10) ?_ n
    ⟨n, [], Nat.le_refl _, rfl, rfl, rfl, rfl, rfl, rfl, by simp, by intro b h; simp at h, by simp⟩
  rintro q env μ ⟨k, z, hkn, rfl, h8, h7, h0, h1, h2, hd, hz, hzl⟩
  have hq : q < 10 ^ 10 := by omega
  have e1 : Int.tmod (q : Int) 10 = ((q % 10 : Nat) : Int) := by rw [Int.tmod_eq_emod_of_nonneg (by omega)]; rfl
  have e2 : IntKind.u64.wrap (Int.tdiv (q : Int) 10) = ((q / 10 : Nat) : Int) := by
    rw [Int.tdiv_eq_ediv_of_nonneg (by omega)]
    simp [IntKind.wrap, IntKind.signed, IntKind.bits]
    omega
  have e3 : IntKind.u64.wrap (48 + ((q % 10 : Nat) : Int)) = 48 + ((q % 10 : Nat) : Int) := by simp [IntKind.wrap, IntKind.signed, IntKind.bits]; omega
  have e4 : IntKind.u8.wrap (48 + ((q % 10 : Nat) : Int)) = 48 + ((q % 10 : Nat) : Int) := wrap_u8 (by omega) (by omega)
  have b1 : Bytes [48 + ((q % 10 : Nat) : Int)] := by intro b h; simp at h; omega
  obtain ⟨y, hy⟩ : ∃ y, y = 48 + ((q % 10 : Nat) : Int) := ⟨_, rfl⟩
  rw [← hy] at e3 e4 b1
  have cvb : ∀ m, opConvert Try.prog 41 5 (.int .u64 y) m = some (.int .u8 y, m) := fun m => by simp only [opConvert, Try.underlying41, Try.underlying5]; rw [e4]
  have sh : Shows (μ.new (.cells [.int .u8 y] 5 true)) (.slice (some ⟨μ.next, 0, none⟩) 1 1) [.int .u8 y] := Shows.whole (new_get μ (.cells [.int .u8 y] 5 true))
  have cv := conv_string (P := Try.prog) (bs := [y]) Try.underlying22 Try.underlying5 Try.underlying9 sh
  have dl := (dec_props 10 n (by omega) (by decide)).1
  have hzl2 : (dec 10 q ++ z).length ≤ 10 := by rw [← hd]; exact dl
  have ct := cat_str (P := Try.prog) (t := 9) (x := [y]) (y := z) (by simp; omega)
  have h40 : ¬ q < 10 → dec 10 q = dec 10 (q / 10) ++ [y] := fun h => by
    rw [show (10 : Nat) = 9 + 1 from rfl, dec, if_neg h, hy, dec_fuel 9 (9 + 1) (q / 10) (by omega) (by omega) (by decide)]
  by_cases h10 : (q : Int) < 10
  · have hlast : dec 10 n = y :: z := by
      rw [hd, show (10 : Nat) = 9 + 1 from rfl, dec, if_pos (by omega), hy]
      have : ((q % 10 : Nat) : Int) = q := by omega
      rw [this]
      rfl
    obtain ⟨_, hdig, c', r', hcr, hc48⟩ := dec_props 10 n (by omega) (by decide)
    rw [hlast] at hdig dl hcr
    obtain ⟨rfl, rfl⟩ := List.cons.inj hcr
    have tk := tokens_num hdig (by simpa using dl) hc48
    have hsp : splitOf (y :: z) = ([⟨2, 0, y :: z⟩, endTk (y :: z).length], 0, 0) := split_of_ok tk (by omega)
    have hby : Bytes (y :: z) := fun b h => by have := hdig b h; omega
    have hval : valOf10 ((y :: z).take 18) 0 = n := by
      rw [List.take_of_length_le (by omega), ← hlast]
      exact val_dec 10 n (by omega) (by omega) (by decide)
    simp only [optV_some, guardV_true, guardV_false, condV_true, condV_false, wpc_skip, wpc_label, wpc_exit, wpc_ret, wpc_region, wpc_seq, wpc_cond, wpc_block, wpc_scope, wpc_loop, wpo_nil, wpo_cons, wps_open, evOp, evParts, okVal, ev1, evs, evOpt, put_get, put_none, envOf, keep_some, List.lookup_nil, List.size_toArray, List.length_cons, List.length_nil, List.range, List.range.loop, Nat.zero_add, Nat.reduceAdd, Bool.not_false, Bool.not_true, Bool.true_or, if_true, if_false, reduceIte, Nat.reduceEqDiff, reduceCtorEq, List.getElem?_toArray, List.getElem?_cons_zero, List.getElem?_cons_succ, guardOf, constOk, constCell, evBuiltin, opLen, List.head?_cons, foldV, min2V, max2V, bin_add, bin_sub, bin_mul, bin_quo, bin_rem, bin_and, bin_or, bin_xor, bin_shl, bin_shr, bin_lss, bin_leq, bin_gtr, bin_geq, bin_eql, bin_neq, bin_seql, bin_beql, un_neg, un_xor, un_not, Int.reduceLT, Int.reduceEq, Kend, resOf, oneOf_one, Bool.false_eq_true, Bool.true_eq_false, IntKind.signed, IntKind.max, opIndexAddr, opLoad, aggOf, Option.some.injEq, Value.bool.injEq, exists_eq_left', true_and, forall_const, decide_eq_true_eq, decide_eq_false_iff_not, Int.natCast_nonneg, and_self, Int.toNat_natCast, Nat.mul_one, List.append_nil, beq_self_eq_true, Nat.lt_irrefl, Nat.zero_lt_succ, Nat.reduceLT, Option.bind_some, Try.underlying3, Try.underlying4, Try.underlying5, Try.underlying9, Try.underlying22, Try.underlying25, Try.underlying26, Try.underlying27, Try.underlying30, Try.underlying34, Try.underlying35, Try.underlying37, Try.underlying40, Try.underlying41, ts3, ts4, ts5, ts9, ts22, ts25, ts26, ts27, ts30, ts34, ts35, ts37, ts40, ts41, tz3, tz4, tz5, tz9, tz22, tz25, tz26, tz27, tz30, tz34, tz35, tz37, tz40, tz41, tb3, tb4, tb5, tb9, tb22, tb25, tb26, tb27, tb30, tb34, tb35, tb37, tb40, tb41, fr3, fr4, fr5, fr6, fr7, fr8, fr9, fr10, fr11, fr12, fr13, fr14, fr15, fr16, fr17, fr18, new_get_if, new_next, set_get_if, set_next, decide_true, decide_false, beq_tt, beq_tf, beq_ft, beq_ff, undef, Nat.left_eq_add, Nat.add_eq_left, List.drop_zero, List.drop_succ_cons, List.take_succ_cons, List.take_zero, List.drop_nil, opBox, Value.cells, opStore, setCells, List.length_append, Nat.reduceLeDiff, Nat.add_zero, Nat.add_assoc, Nat.add_right_cancel_iff, List.cons_append, List.nil_append, Array.toList, Nat.reduceLT, Option.bind_some, Option.isNone_none, Option.isNone_some, al34, al37, fa34_0, fa34_1, fa34_2, fa37_0, fa37_1, fa37_2, h8, h7, e1, hy.symm, e3, cvb, one_b, cv, ct, h10]
    refine split_ret hby fun m2 w1 r1 T1 => ?_
    rw [hsp] at T1 ⊢
    have mk := make_one (P := Try.prog) (t := 22) (e := 5) (z := .int .u8 0) (N := 4001) (n := 4001) (m := m2) Try.underlying22 ts5 tz5 tb5 rfl rfl rfl (by decide) (by decide)
    have sh2 : Shows (m2.new (.cells (List.replicate 4001 (.int .u8 0)) 5 true)) (.slice (some ⟨m2.next, 0, none⟩) 4001 1) (List.replicate 4001 (.int .u8 0)) := by
      have := Shows.whole (new_get m2 (.cells (List.replicate 4001 (.int .u8 0)) 5 true))
      rw [List.length_replicate] at this
      exact this
    have er : List.replicate 4001 (Value.int .u8 0) = (List.replicate 4001 (0 : Int)).map (.int .u8) := by rw [List.map_replicate]
    rw [er] at sh2 mk
    have cv2 := conv_string (P := Try.prog) (bs := List.replicate 4001 0) Try.underlying22 Try.underlying5 Try.underlying9 sh2
    simp only [optV_some, guardV_true, guardV_false, condV_true, condV_false, wpc_skip, wpc_label, wpc_exit, wpc_ret, wpc_region, wpc_seq, wpc_cond, wpc_block, wpc_scope, wpc_loop, wpo_nil, wpo_cons, wps_open, evOp, evParts, okVal, ev1, evs, evOpt, put_get, put_none, envOf, keep_some, List.lookup_nil, List.size_toArray, List.length_cons, List.length_nil, List.range, List.range.loop, Nat.zero_add, Nat.reduceAdd, Bool.not_false, Bool.not_true, Bool.true_or, if_true, if_false, reduceIte, Nat.reduceEqDiff, reduceCtorEq, List.getElem?_toArray, List.getElem?_cons_zero, List.getElem?_cons_succ, guardOf, constOk, constCell, evBuiltin, opLen, List.head?_cons, foldV, min2V, max2V, bin_add, bin_sub, bin_mul, bin_quo, bin_rem, bin_and, bin_or, bin_xor, bin_shl, bin_shr, bin_lss, bin_leq, bin_gtr, bin_geq, bin_eql, bin_neq, bin_seql, bin_beql, un_neg, un_xor, un_not, Int.reduceLT, Int.reduceEq, Kend, resOf, oneOf_one, Bool.false_eq_true, Bool.true_eq_false, IntKind.signed, IntKind.max, opIndexAddr, opLoad, aggOf, Option.some.injEq, Value.bool.injEq, exists_eq_left', true_and, forall_const, decide_eq_true_eq, decide_eq_false_iff_not, Int.natCast_nonneg, and_self, Int.toNat_natCast, Nat.mul_one, List.append_nil, beq_self_eq_true, Nat.lt_irrefl, Nat.zero_lt_succ, Nat.reduceLT, Option.bind_some, Try.underlying3, Try.underlying4, Try.underlying5, Try.underlying9, Try.underlying22, Try.underlying25, Try.underlying26, Try.underlying27, Try.underlying30, Try.underlying34, Try.underlying35, Try.underlying37, Try.underlying40, Try.underlying41, ts3, ts4, ts5, ts9, ts22, ts25, ts26, ts27, ts30, ts34, ts35, ts37, ts40, ts41, tz3, tz4, tz5, tz9, tz22, tz25, tz26, tz27, tz30, tz34, tz35, tz37, tz40, tz41, tb3, tb4, tb5, tb9, tb22, tb25, tb26, tb27, tb30, tb34, tb35, tb37, tb40, tb41, fr3, fr4, fr5, fr6, fr7, fr8, fr9, fr10, fr11, fr12, fr13, fr14, fr15, fr16, fr17, fr18, new_get_if, new_next, set_get_if, set_next, decide_true, decide_false, beq_tt, beq_tf, beq_ft, beq_ff, undef, Nat.left_eq_add, Nat.add_eq_left, List.drop_zero, List.drop_succ_cons, List.take_succ_cons, List.take_zero, List.drop_nil, opBox, Value.cells, opStore, setCells, List.length_append, Nat.reduceLeDiff, Nat.add_zero, Nat.add_assoc, Nat.add_right_cancel_iff, List.cons_append, List.nil_append, Array.toList, Nat.reduceLT, Option.bind_some, Option.isNone_none, Option.isNone_some, al34, al37, fa34_0, fa34_1, fa34_2, fa37_0, fa37_1, fa37_2, mk, cv2]
    have T1 : Toks (μ.new (.cells [.int .u8 y] 5 true)) (m2.new (.cells ((List.replicate 4001 (0 : Int)).map (.int .u8)) 5 true)) w1 r1 _ := GrowR.ext T1 (Ext.new _ _)
    refine split_ret (fun b h => by rw [(List.mem_replicate.1 h).2]; decide) fun m3 w2 r2 T2 => ?_
    have hsp2 : splitOf (List.replicate 4001 0) = ([], 4000, 6) := by rw [splitOf, if_pos (by rw [List.length_replicate]; decide)]
    rw [hsp2]
    have T1 : Toks _ m3 w1 r1 _ := GrowR.ext T1 T2.1
    have lt1 := T1.2.1.len (P := Try.prog) Try.underlying26
    simp only at T1
    obtain ⟨cs, rfl, g1, p1, l1, f1, _⟩ := Toks.at T1 (j := 0) (by simp)
    obtain ⟨cs', _, g2, _, _, f2, _⟩ := Toks.at T1 (j := 1) (by simp)
    rw [g1] at g2
    obtain ⟨rfl, _⟩ := Blk.cells.inj (Option.some.inj g2)
    simp only [List.length_cons, List.length_nil] at l1
    have ld0 : ∀ μ', Ext m3 μ' → opLoad Try.prog 37 (.pointer (some ⟨r1, 0, none⟩)) μ' = some (.agg #[.int .u8 2, .int .i64 0, .string (strOf (y :: z))]) := fun μ' x => by
      rw [load_agg (e := 37) ((x.2 r1 p1).trans g1) (by simp only [aggOf, Try.underlying37]) ts37 (by rw [l1]; decide)]
      rw [show (0 : Nat) = 0 * 3 from rfl, f1]
      rfl
    have ld1 : ∀ μ', Ext m3 μ' → opLoad Try.prog 37 (.pointer (some ⟨r1, 3, none⟩)) μ' = some (.agg #[.int .u8 0, .int .i64 ((endTk (y :: z).length).pos : Nat), .string (strOf [])]) := fun μ' x => by
      rw [load_agg (e := 37) ((x.2 r1 p1).trans g1) (by simp only [aggOf, Try.underlying37]) ts37 (by rw [l1]; decide)]
      rw [show (3 : Nat) = 1 * 3 from rfl, f2]
      rfl
    have ix1 : opIndexAddr Try.prog 26 (.slice (some ⟨r1, 0, none⟩) 2 3) (.int .i64 1) = some (.pointer (some ⟨r1, 3, none⟩)) := by
      simp only [opIndexAddr, Try.underlying26, ts37]; rfl
    have ix0 : opIndexAddr Try.prog 26 (.slice (some ⟨r1, 0, none⟩) 2 3) (.int .i64 0) = some (.pointer (some ⟨r1, 0, none⟩)) := by
      simp only [opIndexAddr, Try.underlying26, ts37]; rfl
    have l00 := ld0 m3 (Ext.refl _)
    simp only [optV_some, guardV_true, guardV_false, condV_true, condV_false, wpc_skip, wpc_label, wpc_exit, wpc_ret, wpc_region, wpc_seq, wpc_cond, wpc_block, wpc_scope, wpc_loop, wpo_nil, wpo_cons, wps_open, evOp, evParts, okVal, ev1, evs, evOpt, put_get, put_none, envOf, keep_some, List.lookup_nil, List.size_toArray, List.length_cons, List.length_nil, List.range, List.range.loop, Nat.zero_add, Nat.reduceAdd, Bool.not_false, Bool.not_true, Bool.true_or, if_true, if_false, reduceIte, Nat.reduceEqDiff, reduceCtorEq, List.getElem?_toArray, List.getElem?_cons_zero, List.getElem?_cons_succ, guardOf, constOk, constCell, evBuiltin, opLen, List.head?_cons, foldV, min2V, max2V, bin_add, bin_sub, bin_mul, bin_quo, bin_rem, bin_and, bin_or, bin_xor, bin_shl, bin_shr, bin_lss, bin_leq, bin_gtr, bin_geq, bin_eql, bin_neq, bin_seql, bin_beql, un_neg, un_xor, un_not, Int.reduceLT, Int.reduceEq, Kend, resOf, oneOf_one, Bool.false_eq_true, Bool.true_eq_false, IntKind.signed, IntKind.max, opConvert, aggOf, Option.some.injEq, Value.bool.injEq, exists_eq_left', true_and, forall_const, decide_eq_true_eq, decide_eq_false_iff_not, Int.natCast_nonneg, and_self, Int.toNat_natCast, Nat.mul_one, List.append_nil, beq_self_eq_true, Nat.lt_irrefl, Nat.zero_lt_succ, Nat.reduceLT, Option.bind_some, Try.underlying3, Try.underlying4, Try.underlying5, Try.underlying9, Try.underlying22, Try.underlying25, Try.underlying26, Try.underlying27, Try.underlying30, Try.underlying34, Try.underlying35, Try.underlying37, Try.underlying40, Try.underlying41, ts3, ts4, ts5, ts9, ts22, ts25, ts26, ts27, ts30, ts34, ts35, ts37, ts40, ts41, tz3, tz4, tz5, tz9, tz22, tz25, tz26, tz27, tz30, tz34, tz35, tz37, tz40, tz41, tb3, tb4, tb5, tb9, tb22, tb25, tb26, tb27, tb30, tb34, tb35, tb37, tb40, tb41, fr3, fr4, fr5, fr6, fr7, fr8, fr9, fr10, fr11, fr12, fr13, fr14, fr15, fr16, fr17, fr18, new_get_if, new_next, set_get_if, set_next, decide_true, decide_false, beq_tt, beq_tf, beq_ft, beq_ff, undef, Nat.left_eq_add, Nat.add_eq_left, List.drop_zero, List.drop_succ_cons, List.take_succ_cons, List.take_zero, List.drop_nil, opBox, Value.cells, opStore, setCells, List.length_append, Nat.reduceLeDiff, Nat.add_zero, Nat.add_assoc, Nat.add_right_cancel_iff, List.cons_append, List.nil_append, Array.toList, Nat.reduceLT, Option.bind_some, Option.isNone_none, Option.isNone_some, al34, al37, fa34_0, fa34_1, fa34_2, fa37_0, fa37_1, fa37_2, ix0, l00, List.length_cons, List.length_nil, Int.cast_ofNat_Int, ne_eq, not_true_eq_false]
    refine value_ret hby (by simp; omega) fun m4 x4 => ?_
    have wn2 : IntKind.i64.wrap (n : Int) = n := wrap_i64 (by omega) (by omega)
    have l11 := ld1 m4 x4
    rw [if_pos rfl, hval]
    simp only [optV_some, guardV_true, guardV_false, condV_true, condV_false, wpc_skip, wpc_label, wpc_exit, wpc_ret, wpc_region, wpc_seq, wpc_cond, wpc_block, wpc_scope, wpc_loop, wpo_nil, wpo_cons, wps_open, evOp, evParts, okVal, ev1, evs, evOpt, put_get, put_none, envOf, keep_some, List.lookup_nil, List.size_toArray, List.length_cons, List.length_nil, List.range, List.range.loop, Nat.zero_add, Nat.reduceAdd, Bool.not_false, Bool.not_true, Bool.true_or, if_true, if_false, reduceIte, Nat.reduceEqDiff, reduceCtorEq, List.getElem?_toArray, List.getElem?_cons_zero, List.getElem?_cons_succ, guardOf, constOk, constCell, evBuiltin, opLen, List.head?_cons, foldV, min2V, max2V, bin_add, bin_sub, bin_mul, bin_quo, bin_rem, bin_and, bin_or, bin_xor, bin_shl, bin_shr, bin_lss, bin_leq, bin_gtr, bin_geq, bin_eql, bin_neq, bin_seql, bin_beql, un_neg, un_xor, un_not, Int.reduceLT, Int.reduceEq, Kend, resOf, oneOf_one, Bool.false_eq_true, Bool.true_eq_false, IntKind.signed, IntKind.max, opConvert, aggOf, Option.some.injEq, Value.bool.injEq, exists_eq_left', true_and, forall_const, decide_eq_true_eq, decide_eq_false_iff_not, Int.natCast_nonneg, and_self, Int.toNat_natCast, Nat.mul_one, List.append_nil, beq_self_eq_true, Nat.lt_irrefl, Nat.zero_lt_succ, Nat.reduceLT, Option.bind_some, Try.underlying3, Try.underlying4, Try.underlying5, Try.underlying9, Try.underlying22, Try.underlying25, Try.underlying26, Try.underlying27, Try.underlying30, Try.underlying34, Try.underlying35, Try.underlying37, Try.underlying40, Try.underlying41, ts3, ts4, ts5, ts9, ts22, ts25, ts26, ts27, ts30, ts34, ts35, ts37, ts40, ts41, tz3, tz4, tz5, tz9, tz22, tz25, tz26, tz27, tz30, tz34, tz35, tz37, tz40, tz41, tb3, tb4, tb5, tb9, tb22, tb25, tb26, tb27, tb30, tb34, tb35, tb37, tb40, tb41, fr3, fr4, fr5, fr6, fr7, fr8, fr9, fr10, fr11, fr12, fr13, fr14, fr15, fr16, fr17, fr18, new_get_if, new_next, set_get_if, set_next, decide_true, decide_false, beq_tt, beq_tf, beq_ft, beq_ff, undef, Nat.left_eq_add, Nat.add_eq_left, List.drop_zero, List.drop_succ_cons, List.take_succ_cons, List.take_zero, List.drop_nil, opBox, Value.cells, opStore, setCells, List.length_append, Nat.reduceLeDiff, Nat.add_zero, Nat.add_assoc, Nat.add_right_cancel_iff, List.cons_append, List.nil_append, Array.toList, Nat.reduceLT, Option.bind_some, Option.isNone_none, Option.isNone_some, al34, al37, fa34_0, fa34_1, fa34_2, fa37_0, fa37_1, fa37_2, ix1, l11, h1, wn2, ne_eq, not_true_eq_false]
    refine value_ret (by intro b h; simp at h) (by simp) fun m5 x5 => ?_
    rw [if_neg (by decide)]
    have LB : letterB c = (decide (97 ≤ c) && decide (c ≤ 122) || decide (65 ≤ c) && decide (c ≤ 90)) := rfl
    have DB : digitB c = (decide (48 ≤ c) && decide (c ≤ 57)) := rfl
    by_cases a1 : 65 ≤ c <;> by_cases a2 : c ≤ 90 <;> by_cases a3 : 97 ≤ c <;> by_cases a4 : c ≤ 122 <;> first
      | (exfalso; omega)
      | (simp only [a1, a2, a3, a4, decide_true, decide_false, Bool.and_true, Bool.and_false, Bool.or_true, Bool.or_false, Bool.true_or, Bool.false_or] at LB
         simp only [optV_some, guardV_true, guardV_false, condV_true, condV_false, wpc_skip, wpc_label, wpc_exit, wpc_ret, wpc_region, wpc_seq, wpc_cond, wpc_block, wpc_scope, wpc_loop, wpo_nil, wpo_cons, wps_open, evOp, evParts, okVal, ev1, evs, evOpt, put_get, put_none, envOf, keep_some, List.lookup_nil, List.size_toArray, List.length_cons, List.length_nil, List.range, List.range.loop, Nat.zero_add, Nat.reduceAdd, Bool.not_false, Bool.not_true, Bool.true_or, if_true, if_false, reduceIte, Nat.reduceEqDiff, reduceCtorEq, List.getElem?_toArray, List.getElem?_cons_zero, List.getElem?_cons_succ, guardOf, constOk, constCell, evBuiltin, opLen, List.head?_cons, foldV, min2V, max2V, bin_add, bin_sub, bin_mul, bin_quo, bin_rem, bin_and, bin_or, bin_xor, bin_shl, bin_shr, bin_lss, bin_leq, bin_gtr, bin_geq, bin_eql, bin_neq, bin_seql, bin_beql, un_neg, un_xor, un_not, Int.reduceLT, Int.reduceEq, Kend, resOf, oneOf_one, Bool.false_eq_true, Bool.true_eq_false, IntKind.signed, IntKind.max, opConvert, opIndexAddr, opLoad, aggOf, Option.some.injEq, Value.bool.injEq, exists_eq_left', true_and, forall_const, decide_eq_true_eq, decide_eq_false_iff_not, Int.natCast_nonneg, and_self, Int.toNat_natCast, Nat.mul_one, List.append_nil, beq_self_eq_true, Nat.lt_irrefl, Nat.zero_lt_succ, Nat.reduceLT, Option.bind_some, Try.underlying3, Try.underlying4, Try.underlying5, Try.underlying9, Try.underlying22, Try.underlying25, Try.underlying26, Try.underlying27, Try.underlying30, Try.underlying34, Try.underlying35, Try.underlying37, Try.underlying40, Try.underlying41, ts3, ts4, ts5, ts9, ts22, ts25, ts26, ts27, ts30, ts34, ts35, ts37, ts40, ts41, tz3, tz4, tz5, tz9, tz22, tz25, tz26, tz27, tz30, tz34, tz35, tz37, tz40, tz41, tb3, tb4, tb5, tb9, tb22, tb25, tb26, tb27, tb30, tb34, tb35, tb37, tb40, tb41, fr3, fr4, fr5, fr6, fr7, fr8, fr9, fr10, fr11, fr12, fr13, fr14, fr15, fr16, fr17, fr18, new_get_if, new_next, set_get_if, set_next, decide_true, decide_false, beq_tt, beq_tf, beq_ft, beq_ff, undef, Nat.left_eq_add, Nat.add_eq_left, List.drop_zero, List.drop_succ_cons, List.take_succ_cons, List.take_zero, List.drop_nil, opBox, Value.cells, opStore, setCells, List.length_append, Nat.reduceLeDiff, Nat.add_zero, Nat.add_assoc, Nat.add_right_cancel_iff, List.cons_append, List.nil_append, Array.toList, Nat.reduceLT, Option.bind_some, Option.isNone_none, Option.isNone_some, al34, al37, fa34_0, fa34_1, fa34_2, fa37_0, fa37_1, fa37_2, ne_eq, not_true_eq_false, h0, a1, a2]
         refine letter_ret ?_
         rw [LB]
         simp only [optV_some, guardV_true, guardV_false, condV_true, condV_false, wpc_skip, wpc_label, wpc_exit, wpc_ret, wpc_region, wpc_seq, wpc_cond, wpc_block, wpc_scope, wpc_loop, wpo_nil, wpo_cons, wps_open, evOp, evParts, okVal, ev1, evs, evOpt, put_get, put_none, envOf, keep_some, List.lookup_nil, List.size_toArray, List.length_cons, List.length_nil, List.range, List.range.loop, Nat.zero_add, Nat.reduceAdd, Bool.not_false, Bool.not_true, Bool.true_or, if_true, if_false, reduceIte, Nat.reduceEqDiff, reduceCtorEq, List.getElem?_toArray, List.getElem?_cons_zero, List.getElem?_cons_succ, guardOf, constOk, constCell, evBuiltin, opLen, List.head?_cons, foldV, min2V, max2V, bin_add, bin_sub, bin_mul, bin_quo, bin_rem, bin_and, bin_or, bin_xor, bin_shl, bin_shr, bin_lss, bin_leq, bin_gtr, bin_geq, bin_eql, bin_neq, bin_seql, bin_beql, un_neg, un_xor, un_not, Int.reduceLT, Int.reduceEq, Kend, resOf, oneOf_one, Bool.false_eq_true, Bool.true_eq_false, IntKind.signed, IntKind.max, opConvert, opIndexAddr, opLoad, aggOf, Option.some.injEq, Value.bool.injEq, exists_eq_left', true_and, forall_const, decide_eq_true_eq, decide_eq_false_iff_not, Int.natCast_nonneg, and_self, Int.toNat_natCast, Nat.mul_one, List.append_nil, beq_self_eq_true, Nat.lt_irrefl, Nat.zero_lt_succ, Nat.reduceLT, Option.bind_some, Try.underlying3, Try.underlying4, Try.underlying5, Try.underlying9, Try.underlying22, Try.underlying25, Try.underlying26, Try.underlying27, Try.underlying30, Try.underlying34, Try.underlying35, Try.underlying37, Try.underlying40, Try.underlying41, ts3, ts4, ts5, ts9, ts22, ts25, ts26, ts27, ts30, ts34, ts35, ts37, ts40, ts41, tz3, tz4, tz5, tz9, tz22, tz25, tz26, tz27, tz30, tz34, tz35, tz37, tz40, tz41, tb3, tb4, tb5, tb9, tb22, tb25, tb26, tb27, tb30, tb34, tb35, tb37, tb40, tb41, fr3, fr4, fr5, fr6, fr7, fr8, fr9, fr10, fr11, fr12, fr13, fr14, fr15, fr16, fr17, fr18, new_get_if, new_next, set_get_if, set_next, decide_true, decide_false, beq_tt, beq_tf, beq_ft, beq_ff, undef, Nat.left_eq_add, Nat.add_eq_left, List.drop_zero, List.drop_succ_cons, List.take_succ_cons, List.take_zero, List.drop_nil, opBox, Value.cells, opStore, setCells, List.length_append, Nat.reduceLeDiff, Nat.add_zero, Nat.add_assoc, Nat.add_right_cancel_iff, List.cons_append, List.nil_append, Array.toList, Nat.reduceLT, Option.bind_some, Option.isNone_none, Option.isNone_some, al34, al37, fa34_0, fa34_1, fa34_2, fa37_0, fa37_1, fa37_2, h0, a3, a4, bin_bools]
         refine digit_ret ?_
         by_cases a5 : 48 ≤ c <;> by_cases a6 : c ≤ 57 <;>
           (simp only [a5, a6, decide_true, decide_false, Bool.and_true, Bool.and_false] at DB
            rw [DB]
            simp only [optV_some, guardV_true, guardV_false, condV_true, condV_false, wpc_skip, wpc_label, wpc_exit, wpc_ret, wpc_region, wpc_seq, wpc_cond, wpc_block, wpc_scope, wpc_loop, wpo_nil, wpo_cons, wps_open, evOp, evParts, okVal, ev1, evs, evOpt, put_get, put_none, envOf, keep_some, List.lookup_nil, List.size_toArray, List.length_cons, List.length_nil, List.range, List.range.loop, Nat.zero_add, Nat.reduceAdd, Bool.not_false, Bool.not_true, Bool.true_or, if_true, if_false, reduceIte, Nat.reduceEqDiff, reduceCtorEq, List.getElem?_toArray, List.getElem?_cons_zero, List.getElem?_cons_succ, guardOf, constOk, constCell, evBuiltin, opLen, List.head?_cons, foldV, min2V, max2V, bin_add, bin_sub, bin_mul, bin_quo, bin_rem, bin_and, bin_or, bin_xor, bin_shl, bin_shr, bin_lss, bin_leq, bin_gtr, bin_geq, bin_eql, bin_neq, bin_seql, bin_beql, un_neg, un_xor, un_not, Int.reduceLT, Int.reduceEq, Kend, resOf, oneOf_one, Bool.false_eq_true, Bool.true_eq_false, IntKind.signed, IntKind.max, opConvert, opIndexAddr, opLoad, aggOf, Option.some.injEq, Value.bool.injEq, exists_eq_left', true_and, forall_const, decide_eq_true_eq, decide_eq_false_iff_not, Int.natCast_nonneg, and_self, Int.toNat_natCast, Nat.mul_one, List.append_nil, beq_self_eq_true, Nat.lt_irrefl, Nat.zero_lt_succ, Nat.reduceLT, Option.bind_some, Try.underlying3, Try.underlying4, Try.underlying5, Try.underlying9, Try.underlying22, Try.underlying25, Try.underlying26, Try.underlying27, Try.underlying30, Try.underlying34, Try.underlying35, Try.underlying37, Try.underlying40, Try.underlying41, ts3, ts4, ts5, ts9, ts22, ts25, ts26, ts27, ts30, ts34, ts35, ts37, ts40, ts41, tz3, tz4, tz5, tz9, tz22, tz25, tz26, tz27, tz30, tz34, tz35, tz37, tz40, tz41, tb3, tb4, tb5, tb9, tb22, tb25, tb26, tb27, tb30, tb34, tb35, tb37, tb40, tb41, fr3, fr4, fr5, fr6, fr7, fr8, fr9, fr10, fr11, fr12, fr13, fr14, fr15, fr16, fr17, fr18, new_get_if, new_next, set_get_if, set_next, decide_true, decide_false, beq_tt, beq_tf, beq_ft, beq_ff, undef, Nat.left_eq_add, Nat.add_eq_left, List.drop_zero, List.drop_succ_cons, List.take_succ_cons, List.take_zero, List.drop_nil, opBox, Value.cells, opStore, setCells, List.length_append, Nat.reduceLeDiff, Nat.add_zero, Nat.add_assoc, Nat.add_right_cancel_iff, List.cons_append, List.nil_append, Array.toList, Nat.reduceLT, Option.bind_some, Option.isNone_none, Option.isNone_some, al34, al37, fa34_0, fa34_1, fa34_2, fa37_0, fa37_1, fa37_2, h0, a5, a6, bin_bools, h2, bld37n]
            refine value_ret hs hsl fun m6 x6 => ?_
            rw [if_neg (by decide)]
            simp only [optV_some, guardV_true, guardV_false, condV_true, condV_false, wpc_skip, wpc_label, wpc_exit, wpc_ret, wpc_region, wpc_seq, wpc_cond, wpc_block, wpc_scope, wpc_loop, wpo_nil, wpo_cons, wps_open, evOp, evParts, okVal, ev1, evs, evOpt, put_get, put_none, envOf, keep_some, List.lookup_nil, List.size_toArray, List.length_cons, List.length_nil, List.range, List.range.loop, Nat.zero_add, Nat.reduceAdd, Bool.not_false, Bool.not_true, Bool.true_or, if_true, if_false, reduceIte, Nat.reduceEqDiff, reduceCtorEq, List.getElem?_toArray, List.getElem?_cons_zero, List.getElem?_cons_succ, guardOf, constOk, constCell, evBuiltin, opLen, List.head?_cons, foldV, min2V, max2V, bin_add, bin_sub, bin_mul, bin_quo, bin_rem, bin_and, bin_or, bin_xor, bin_shl, bin_shr, bin_lss, bin_leq, bin_gtr, bin_geq, bin_eql, bin_neq, bin_seql, bin_beql, un_neg, un_xor, un_not, Int.reduceLT, Int.reduceEq, Kend, resOf, oneOf_one, Bool.false_eq_true, Bool.true_eq_false, IntKind.signed, IntKind.max, opConvert, opIndexAddr, opLoad, aggOf, Option.some.injEq, Value.bool.injEq, exists_eq_left', true_and, forall_const, decide_eq_true_eq, decide_eq_false_iff_not, Int.natCast_nonneg, and_self, Int.toNat_natCast, Nat.mul_one, List.append_nil, beq_self_eq_true, Nat.lt_irrefl, Nat.zero_lt_succ, Nat.reduceLT, Option.bind_some, Try.underlying3, Try.underlying4, Try.underlying5, Try.underlying9, Try.underlying22, Try.underlying25, Try.underlying26, Try.underlying27, Try.underlying30, Try.underlying34, Try.underlying35, Try.underlying37, Try.underlying40, Try.underlying41, ts3, ts4, ts5, ts9, ts22, ts25, ts26, ts27, ts30, ts34, ts35, ts37, ts40, ts41, tz3, tz4, tz5, tz9, tz22, tz25, tz26, tz27, tz30, tz34, tz35, tz37, tz40, tz41, tb3, tb4, tb5, tb9, tb22, tb25, tb26, tb27, tb30, tb34, tb35, tb37, tb40, tb41, fr3, fr4, fr5, fr6, fr7, fr8, fr9, fr10, fr11, fr12, fr13, fr14, fr15, fr16, fr17, fr18, new_get_if, new_next, set_get_if, set_next, decide_true, decide_false, beq_tt, beq_tf, beq_ft, beq_ff, undef, Nat.left_eq_add, Nat.add_eq_left, List.drop_zero, List.drop_succ_cons, List.take_succ_cons, List.take_zero, List.drop_nil, opBox, Value.cells, opStore, setCells, List.length_append, Nat.reduceLeDiff, Nat.add_zero, Nat.add_assoc, Nat.add_right_cancel_iff, List.cons_append, List.nil_append, Array.toList, Nat.reduceLT, Option.bind_some, Option.isNone_none, Option.isNone_some, al34, al37, fa34_0, fa34_1, fa34_2, fa37_0, fa37_1, fa37_2]))
  · have h := h40 (by omega)
    simp only [optV_some, guardV_true, guardV_false, condV_true, condV_false, wpc_skip, wpc_label, wpc_exit, wpc_ret, wpc_region, wpc_seq, wpc_cond, wpc_block, wpc_scope, wpc_loop, wpo_nil, wpo_cons, wps_open, evOp, evParts, okVal, ev1, evs, evOpt, put_get, put_none, envOf, keep_some, List.lookup_nil, List.size_toArray, List.length_cons, List.length_nil, List.range, List.range.loop, Nat.zero_add, Nat.reduceAdd, Bool.not_false, Bool.not_true, Bool.true_or, if_true, if_false, reduceIte, Nat.reduceEqDiff, reduceCtorEq, List.getElem?_toArray, List.getElem?_cons_zero, List.getElem?_cons_succ, guardOf, constOk, constCell, evBuiltin, opLen, List.head?_cons, foldV, min2V, max2V, bin_add, bin_sub, bin_mul, bin_quo, bin_rem, bin_and, bin_or, bin_xor, bin_shl, bin_shr, bin_lss, bin_leq, bin_gtr, bin_geq, bin_eql, bin_neq, bin_seql, bin_beql, un_neg, un_xor, un_not, Int.reduceLT, Int.reduceEq, Kend, resOf, oneOf_one, Bool.false_eq_true, Bool.true_eq_false, IntKind.signed, IntKind.max, opIndexAddr, opLoad, aggOf, Option.some.injEq, Value.bool.injEq, exists_eq_left', true_and, forall_const, decide_eq_true_eq, decide_eq_false_iff_not, Int.natCast_nonneg, and_self, Int.toNat_natCast, Nat.mul_one, List.append_nil, beq_self_eq_true, Nat.lt_irrefl, Nat.zero_lt_succ, Nat.reduceLT, Option.bind_some, Try.underlying3, Try.underlying4, Try.underlying5, Try.underlying9, Try.underlying22, Try.underlying25, Try.underlying26, Try.underlying27, Try.underlying30, Try.underlying34, Try.underlying35, Try.underlying37, Try.underlying40, Try.underlying41, ts3, ts4, ts5, ts9, ts22, ts25, ts26, ts27, ts30, ts34, ts35, ts37, ts40, ts41, tz3, tz4, tz5, tz9, tz22, tz25, tz26, tz27, tz30, tz34, tz35, tz37, tz40, tz41, tb3, tb4, tb5, tb9, tb22, tb25, tb26, tb27, tb30, tb34, tb35, tb37, tb40, tb41, fr3, fr4, fr5, fr6, fr7, fr8, fr9, fr10, fr11, fr12, fr13, fr14, fr15, fr16, fr17, fr18, new_get_if, new_next, set_get_if, set_next, decide_true, decide_false, beq_tt, beq_tf, beq_ft, beq_ff, undef, Nat.left_eq_add, Nat.add_eq_left, List.drop_zero, List.drop_succ_cons, List.take_succ_cons, List.take_zero, List.drop_nil, opBox, Value.cells, opStore, setCells, List.length_append, Nat.reduceLeDiff, Nat.add_zero, Nat.add_assoc, Nat.add_right_cancel_iff, List.cons_append, List.nil_append, Array.toList, Nat.reduceLT, Option.bind_some, Option.isNone_none, Option.isNone_some, al34, al37, fa34_0, fa34_1, fa34_2, fa37_0, fa37_1, fa37_2, h8, h7, e1, hy.symm, e3, cvb, one_b, cv, ct, h10, e2]
    exact ⟨q / 10, by omega, q / 10, y :: z, by omega, rfl, rfl, rfl, h0, h1, h2, by rw [hd, h]; simp, bytes_app b1 hz, by rw [h] at hzl2; simp at hzl2 ⊢; omega⟩

theorem lexBytes_true {H : Type} {m : Mem} {xs : List Value} {ds : List (DataW H)} (hd : IsDs Try.prog 8 [5, 40, 9] ds) (hl : LieAll Try.prog m [5, 40, 9] ds xs) : Ret Try.prog 5 xs m fun v _ => v = .bool true := by
  obtain ⟨d0, dr, rfl, i0, hd⟩ := isDs_cons hd
  obtain ⟨d1, dr, rfl, i1, hd⟩ := isDs_cons hd
  obtain ⟨d2, dr, rfl, i2, hd⟩ := isDs_cons hd
  obtain rfl := isDs_nil hd
  obtain ⟨v0, _, rfl, l0, v1, _, rfl, l1, v2, _, rfl, l2, rfl⟩ := hl
  have hrb := reachBytes_lt
  obtain ⟨c, rfl, hc⟩ := lies_int (k := 7) Try.underlying5 i0 l0
  obtain ⟨n, rfl, hn⟩ := lies_int (k := 7) Try.underlying40 i1 l1
  obtain ⟨s, rfl, hs⟩ := lies_string (k := 7) Try.underlying9 i2 l2
  obtain ⟨bs, hb, hbl, e⟩ := str_bytes s
  have hn2 := wf_u32 hn
  obtain ⟨k, rfl⟩ : ∃ k : Nat, n = k := ⟨n.toNat, by omega⟩
  rw [e]
  exact bytes_ret (wf_u8 hc) (by omega) hb (by omega)
end Go.Proofs.Ytbaohgjammpgjaa
