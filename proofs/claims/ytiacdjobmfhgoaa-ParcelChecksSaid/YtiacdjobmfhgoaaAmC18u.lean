/- A text of the abstract machine. -/

/- Parcels of small numbers, their bytes as they are meant, whether two are the same. -/
import Derived.Test.YtiacdjobmfhgoaaAmC18t
import Derived.Test.YtiacdjobmfhgoaaAmBun
set_option linter.unusedSimpArgs false
set_option linter.unusedVariables false
set_option maxRecDepth 100000
set_option maxHeartbeats 4000000
namespace Go.Proofs.Ytiacdjobmfhgoaa
open Go Go.AM Go.AM.Crc Go.AM.Wire
theorem fxC18u : type_of% (And.intro (And.intro (And.intro (And.intro (And.intro (And.intro @Try.underlying3 (And.intro @Try.underlying4 @Try.underlying5)) (And.intro (And.intro @Try.underlying9 @Try.underlying23) (And.intro @Try.underlying24 @Try.underlying0))) (And.intro (And.intro @Try.underlying54 (And.intro @Try.underlying22 @Try.underlying66)) (And.intro (And.intro @Try.underlying68 @Try.underlying75) (And.intro @Try.underlying85 @Try.underlying27)))) (And.intro (And.intro (And.intro @Try.underlying32 (And.intro @Try.underlying47 @Try.underlying50)) (And.intro (And.intro @Try.underlying45 @ts3) (And.intro @ts4 @ts5))) (And.intro (And.intro @ts9 (And.intro @ts23 @ts24)) (And.intro (And.intro @ts0 @ts54) (And.intro @ts22 @ts66))))) (And.intro (And.intro (And.intro (And.intro @ts68 (And.intro @ts75 @ts85)) (And.intro (And.intro @ts27 @ts32) (And.intro @ts47 @ts50))) (And.intro (And.intro @ts45 (And.intro @tz3 @tz4)) (And.intro (And.intro @tz5 @tz9) (And.intro @tz23 @tz24)))) (And.intro (And.intro (And.intro @tz0 (And.intro @tz54 @tz22)) (And.intro (And.intro @tz66 @tz68) (And.intro @tz75 @tz85))) (And.intro (And.intro @tz27 (And.intro @tz32 @tz47)) (And.intro (And.intro @tz50 @tz45) (And.intro @tb3 @tb4)))))) (And.intro (And.intro (And.intro (And.intro (And.intro @tb5 (And.intro @tb9 @tb23)) (And.intro (And.intro @tb24 @tb0) (And.intro @tb54 @tb22))) (And.intro (And.intro @tb66 (And.intro @tb68 @tb75)) (And.intro (And.intro @tb85 @tb27) (And.intro @tb32 @tb47)))) (And.intro (And.intro (And.intro @tb50 (And.intro @tb45 @fr10)) (And.intro (And.intro @fr13 @fr14) (And.intro @fr15 @fr16))) (And.intro (And.intro @fr17 (And.intro @fr18 @fr21)) (And.intro (And.intro @fr22 @fr23) (And.intro @fr24 @fr25))))) (And.intro (And.intro (And.intro (And.intro @fr26 (And.intro @fr27 @fr28)) (And.intro (And.intro @fr29 @fr30) (And.intro @fr31 @fr32))) (And.intro (And.intro @fr33 (And.intro @fr34 @bz85)) (And.intro (And.intro @al68 @al85) (And.intro @fa68_0 @fa85_0)))) (And.intro (And.intro (And.intro @fa85_1 (And.intro @fa85_2 @bz32)) (And.intro (And.intro @al32 @fa32_0) (And.intro @fa32_1 @fa32_2))) (And.intro (And.intro (And.intro @fa32_3 @fa32_4) (And.intro @fa45_0 @fa45_1)) (And.intro (And.intro @fa45_2 @fa45_3) (And.intro @fa45_4 @bz68))))))) := (And.intro (And.intro (And.intro (And.intro (And.intro (And.intro @Try.underlying3 (And.intro @Try.underlying4 @Try.underlying5)) (And.intro (And.intro @Try.underlying9 @Try.underlying23) (And.intro @Try.underlying24 @Try.underlying0))) (And.intro (And.intro @Try.underlying54 (And.intro @Try.underlying22 @Try.underlying66)) (And.intro (And.intro @Try.underlying68 @Try.underlying75) (And.intro @Try.underlying85 @Try.underlying27)))) (And.intro (And.intro (And.intro @Try.underlying32 (And.intro @Try.underlying47 @Try.underlying50)) (And.intro (And.intro @Try.underlying45 @ts3) (And.intro @ts4 @ts5))) (And.intro (And.intro @ts9 (And.intro @ts23 @ts24)) (And.intro (And.intro @ts0 @ts54) (And.intro @ts22 @ts66))))) (And.intro (And.intro (And.intro (And.intro @ts68 (And.intro @ts75 @ts85)) (And.intro (And.intro @ts27 @ts32) (And.intro @ts47 @ts50))) (And.intro (And.intro @ts45 (And.intro @tz3 @tz4)) (And.intro (And.intro @tz5 @tz9) (And.intro @tz23 @tz24)))) (And.intro (And.intro (And.intro @tz0 (And.intro @tz54 @tz22)) (And.intro (And.intro @tz66 @tz68) (And.intro @tz75 @tz85))) (And.intro (And.intro @tz27 (And.intro @tz32 @tz47)) (And.intro (And.intro @tz50 @tz45) (And.intro @tb3 @tb4)))))) (And.intro (And.intro (And.intro (And.intro (And.intro @tb5 (And.intro @tb9 @tb23)) (And.intro (And.intro @tb24 @tb0) (And.intro @tb54 @tb22))) (And.intro (And.intro @tb66 (And.intro @tb68 @tb75)) (And.intro (And.intro @tb85 @tb27) (And.intro @tb32 @tb47)))) (And.intro (And.intro (And.intro @tb50 (And.intro @tb45 @fr10)) (And.intro (And.intro @fr13 @fr14) (And.intro @fr15 @fr16))) (And.intro (And.intro @fr17 (And.intro @fr18 @fr21)) (And.intro (And.intro @fr22 @fr23) (And.intro @fr24 @fr25))))) (And.intro (And.intro (And.intro (And.intro @fr26 (And.intro @fr27 @fr28)) (And.intro (And.intro @fr29 @fr30) (And.intro @fr31 @fr32))) (And.intro (And.intro @fr33 (And.intro @fr34 @bz85)) (And.intro (And.intro @al68 @al85) (And.intro @fa68_0 @fa85_0)))) (And.intro (And.intro (And.intro @fa85_1 (And.intro @fa85_2 @bz32)) (And.intro (And.intro @al32 @fa32_0) (And.intro @fa32_1 @fa32_2))) (And.intro (And.intro (And.intro @fa32_3 @fa32_4) (And.intro @fa45_0 @fa45_1)) (And.intro (And.intro @fa45_2 @fa45_3) (And.intro @fa45_4 @bz68)))))))
theorem blds (f l n : Int) : opBuild Try.prog 32 [(0, .int .i64 f), (1, .int .u32 l), (3, .int .i64 n)] = some (.agg #[.int .i64 f, .int .u32 l, .int .i64 0, .int .i64 n, .slice none 0 0]) := by kernel_rfl
theorem shown_take {n k : Nat} {v : Value} {m : Mem} {cs : List Value} (h : shown 1 n v m = some cs) (hl : cs.length = n) (hk : k ≤ n) : shown 1 k v m = some (cs.take k) := by
  unfold shown at h ⊢
  split at h
  · split at h
    · have : k = 0 := by omega
      subst this
      obtain rfl := Option.some.inj h
      simp
    · cases h
  · split at h
    · have : k = 0 := by omega
      subst this
      obtain rfl := Option.some.inj h
      simp
    · split at h
      · rename_i all e o hg
        split at h
        · obtain rfl := Option.some.inj h
          by_cases h0 : k = 0
          · subst h0; simp
          · rename_i hle
            simp only [Nat.mul_one] at hle ⊢
            simp only [if_neg h0, hg]
            rw [if_pos (by omega), List.take_take, Nat.min_eq_left hk]
        · cases h
      · cases h
  · cases h
/-- A row of noughts into which bytes are copied. -/
theorem copy_into {m : Mem} {q n : Nat} {v : Value} {s : List Int} (hg : m.get q = some (.cells (List.replicate n (.int .u8 0)) 5 true)) (hq : q < m.next) (hv : Shows m v (byteCells s)) :
    ∃ c m', opCopy Try.prog [22, 22] [.slice (some ⟨q, 0, none⟩) n 1, v] m = some (.int .i64 c, m') ∧ m'.get q = some (.cells (byteCells (s.take n ++ List.replicate (n - s.length) 0)) 5 true) ∧ m'.next = m.next ∧ ∀ j, j ≠ q → m'.get j = m.get j := by
  obtain ⟨a, z, rfl, hs, _⟩ := hv
  rw [byteCells_length] at hs
  have sh := shown_take hs (byteCells_length s) (Nat.min_le_left s.length n)
  have er : (List.replicate n (0 : Int)).map (Value.int .u8) = List.replicate n (.int .u8 0) := List.map_replicate
  have e0 : byteCells (s.take n ++ List.replicate (n - s.length) 0) = setCells (List.replicate n (.int .u8 0)) 0 ((byteCells s).take (min s.length n)) := by
    have hlen : ((byteCells s).take (min s.length n)).length = min s.length n := by rw [List.length_take, byteCells_length]; omega
    simp only [setCells, List.take_zero, List.nil_append, Nat.zero_add, hlen, byteCells_append, List.drop_replicate]
    congr 1
    · have : (byteCells s).take (min s.length n) = byteCells (s.take (min s.length n)) := byteCells_take s _
      rw [this]
      congr 1
      rcases Nat.le_total s.length n with h | h
      · rw [Nat.min_eq_left h, List.take_of_length_le h, List.take_of_length_le (Nat.le_refl _)]
      · rw [Nat.min_eq_right h]
    · rw [byteCells, List.map_replicate]
      congr 1
      omega
  by_cases h0 : min s.length n = 0
  · refine ⟨((min s.length n : Nat) : Int), m, ?_, ?_, rfl, fun _ _ => rfl⟩
    · simp only [opCopy, Try.underlying22, ts5, hg, byteCells_length, sh]
      rw [if_pos h0]
    · rw [hg, e0, h0]
      simp [setCells]
  · refine ⟨((min s.length n : Nat) : Int), m.set q (.cells (byteCells (s.take n ++ List.replicate (n - s.length) 0)) 5 true), ?_, set_get _ _ _, rfl, fun j hj => set_get_ne _ hj⟩
    simp only [opCopy, Try.underlying22, ts5, hg, byteCells_length, sh]
    rw [if_neg h0, if_pos (by simp), e0]

/-- The parcel of small numbers. -/
def smLen (p n : Int) (k : Nat) : Nat := if p + 1 = n then (if 1 < n then max (min k 48) 1 else min k 48) else 48
def smP (f l p n : Int) (s : List Int) : Pa :=
  let many := 1 + n % 100
  let part := p % many
  let k := smLen part many s.length
  ⟨f % 16, l, part, many, s.take k ++ List.replicate (k - s.length) 0⟩
theorem smP_len (p n : Int) (s : List Int) (k : Nat) : (s.take k ++ List.replicate (k - s.length) (0 : Int)).length = k := by
  rw [List.length_append, List.length_take, List.length_replicate]; omega
theorem smP_fit {f l p n : Int} {s : List Int} (hp : 0 ≤ p) (hn : 0 ≤ n) (hs : Bytes s) : pcheck (smP f l p n s) = 0 ∧ Bytes (smP f l p n s).b := by
  have h1 : 0 ≤ n % 100 ∧ n % 100 < 100 := by omega
  have h2 : 0 ≤ p % (1 + n % 100) ∧ p % (1 + n % 100) < 1 + n % 100 := ⟨Int.emod_nonneg _ (by omega), Int.emod_lt_of_pos _ (by omega)⟩
  have h3 : 0 ≤ f % 16 ∧ f % 16 < 16 := by omega
  constructor
  · simp only [smP, pcheck, smP_len p n]
    have h4 : 1 ≤ 1 + n % 100 ∧ 1 + n % 100 ≤ 100 := by omega
    generalize p % (1 + n % 100) = a at h2
    generalize f % 16 = b at h3
    generalize 1 + n % 100 = c at h1 h2 h4
    rw [if_neg (by omega), smLen]
    split
    · split <;> rw [if_neg (by omega)]
    · rw [if_neg (by omega)]
  · simp only [smP]
    refine bytes_append (fun b hb => hs b (List.mem_of_mem_take hb)) fun b hb => ?_
    have := List.eq_of_mem_replicate hb
    omega
theorem small_ret {m : Mem} {f l p n : Int} {a : Option Addr} {k z : Nat} {s : List Int} (hf : 0 ≤ f ∧ f < 256) (hp : 0 ≤ p ∧ p < 256) (hn : 0 ≤ n ∧ n < 256) (hv : Shows m (.slice a k z) (byteCells s)) (hu : Under m.next (.slice a k z)) (hl : s.length < 2 ^ 40)
    {K : Value → Mem → Prop} (hK : ∀ m' r, Ext m m' → m.next ≤ r → Byr m' r (smP f l p n s).b → K (paV (smP f l p n s) (rowV r (smP f l p n s).b)) m') : Ret Try.prog 13 [.agg #[.int .u8 f, .int .u32 l, .int .u8 p, .int .u8 n, .slice a k z]] m K := by
  refine ret_wp [] Try.func13 rfl (by decide) (by kernel_rfl) ?_
  have e1 : IntKind.i64.wrap (f.tmod 16) = f % 16 := by rw [Int.tmod_eq_emod_of_nonneg hf.1, wrap_i64 (by omega) (by omega)]
  have e2 : IntKind.i64.wrap (n.tmod 100) = n % 100 := by rw [Int.tmod_eq_emod_of_nonneg hn.1, wrap_i64 (by omega) (by omega)]
  have e3 : IntKind.i64.wrap (1 + n % 100) = 1 + n % 100 := wrap_i64 (by omega) (by omega)
  have e4 : IntKind.i64.wrap p = p := wrap_i64 (by omega) (by omega)
  have e5 : p.tmod (1 + n % 100) = p % (1 + n % 100) := Int.tmod_eq_emod_of_nonneg hp.1
  have e6 : ¬ (1 + n % 100 = 0) := by omega
  have h2 : 0 ≤ p % (1 + n % 100) ∧ p % (1 + n % 100) < 1 + n % 100 := ⟨Int.emod_nonneg _ (by omega), Int.emod_lt_of_pos _ (by omega)⟩
  have h3 : 1 ≤ 1 + n % 100 ∧ 1 + n % 100 ≤ 100 := by omega
  have lv : opLen Try.prog (some 22) (.slice a k z) = some (.int .i64 s.length) := IsBytes.len hv
  have eP : smP f l p n s = ⟨f % 16, l, p % (1 + n % 100), 1 + n % 100, s.take (smLen (p % (1 + n % 100)) (1 + n % 100) s.length) ++ List.replicate (smLen (p % (1 + n % 100)) (1 + n % 100) s.length - s.length) 0⟩ := rfl
  rw [eP] at hK
  generalize f % 16 = F at hK e1 eP
  generalize hP : p % (1 + n % 100) = Pp at hK e5 eP h2
  generalize hN : 1 + n % 100 = N at hK e3 e5 e6 eP h2 h3 hP
  have e7 : IntKind.i64.wrap (Pp + 1) = Pp + 1 := wrap_i64 (by omega) (by omega)
  obtain ⟨kk, hkk⟩ : ∃ q, q = smLen Pp N s.length := ⟨_, rfl⟩
  rw [← hkk] at hK
  have hkb : kk ≤ 48 := by
    rw [hkk, smLen]
    split
    · split <;> omega
    · exact Nat.le_refl _
  simp only [evOp, evParts, okVal, ev1, evs, evOpt, envOf, List.lookup_nil, List.size_toArray, List.length_cons, List.length_nil, List.range, List.range.loop, Nat.zero_add, Nat.reduceAdd, Bool.not_false, Bool.not_true, Bool.true_or, if_true, if_false, reduceIte, Nat.reduceEqDiff, reduceCtorEq, List.getElem?_toArray, List.getElem?_cons_zero, List.getElem?_cons_succ, guardOf, constOk, constCell, evBuiltin, List.head?_cons, foldV, min2V, max2V, Int.reduceLT, Int.reduceEq, Kend, resOf, Bool.false_eq_true, Bool.true_eq_false, IntKind.signed, IntKind.max, opConvert, opIndexAddr, opLoad, aggOf, Option.some.injEq, Value.bool.injEq, exists_eq_left', true_and, forall_const, decide_eq_true_eq, decide_eq_false_iff_not, Int.natCast_nonneg, and_self, Int.toNat_natCast, Nat.mul_one, List.append_nil, beq_self_eq_true, Nat.lt_irrefl, Nat.zero_lt_succ, Nat.reduceLT, Option.bind_some, new_get_if, new_next, set_get_if, set_next, decide_true, decide_false, beq_tt, beq_tf, beq_ft, beq_ff, undef, Nat.left_eq_add, Nat.add_eq_left, List.drop_zero, List.drop_succ_cons, List.take_succ_cons, List.take_zero, List.drop_nil, opBox, Value.cells, opStore, setCells, List.length_append, Nat.reduceLeDiff, Nat.add_zero, Nat.add_assoc, Nat.add_right_cancel_iff, List.cons_append, List.nil_append, Array.toList, Option.isNone_none, Option.isNone_some, bin_weq, bin_wneq, bin_req, bin_rneq, ne_eq, not_true_eq_false, not_false_eq_true, blds, wk0, fxC18u, e1, e2, hN, e3, e4, e5, e6, lv, e7]
  refine cond_cut (fun e M => M = ((((m.new (.cells [.int .u8 f, .int .u32 l, .int .u8 p, .int .u8 n, .slice a k z] 45 true)).new (.cells [.int .i64 0, .int .u32 0, .int .i64 0, .int .i64 0, .slice none 0 0] 32 true)).new (.cells [.int .i64 0, .int .u32 0, .int .i64 0, .int .i64 0, .slice none 0 0] 32 true)).set (m.next + 2) (.cells [.int .i64 F, .int .u32 l, .int .i64 0, .int .i64 N, .slice none 0 0] 32 true)).set (m.next + 2) (.cells [.int .i64 F, .int .u32 l, .int .i64 Pp, .int .i64 N, .slice none 0 0] 32 true) ∧ e 1 = some (.pointer (some ⟨m.next, 0, none⟩)) ∧ e 2 = some (.pointer (some ⟨m.next + 1, 0, none⟩)) ∧ e 3 = some (.pointer (some ⟨m.next + 2, 0, none⟩)) ∧ e 4 = some (.int .i64 kk)) ?_ ?_
  · by_cases c1 : Pp + 1 = N
    · by_cases c2 : 1 < N
      · by_cases d1 : 48 < (s.length : Int)
        · have hv1 : (kk : Int) = 48 := by rw [hkk, smLen, if_pos c1, if_pos c2]; omega
          simp only [evOp, evParts, okVal, ev1, evs, evOpt, envOf, List.lookup_nil, List.size_toArray, List.length_cons, List.length_nil, List.range, List.range.loop, Nat.zero_add, Nat.reduceAdd, Bool.not_false, Bool.not_true, Bool.true_or, if_true, if_false, reduceIte, Nat.reduceEqDiff, reduceCtorEq, List.getElem?_toArray, List.getElem?_cons_zero, List.getElem?_cons_succ, guardOf, constOk, constCell, evBuiltin, List.head?_cons, foldV, min2V, max2V, Int.reduceLT, Int.reduceEq, Kend, resOf, Bool.false_eq_true, Bool.true_eq_false, IntKind.signed, IntKind.max, opConvert, opIndexAddr, opLoad, aggOf, Option.some.injEq, Value.bool.injEq, exists_eq_left', true_and, forall_const, decide_eq_true_eq, decide_eq_false_iff_not, Int.natCast_nonneg, and_self, Int.toNat_natCast, Nat.mul_one, List.append_nil, beq_self_eq_true, Nat.lt_irrefl, Nat.zero_lt_succ, Nat.reduceLT, Option.bind_some, new_get_if, new_next, set_get_if, set_next, decide_true, decide_false, beq_tt, beq_tf, beq_ft, beq_ff, undef, Nat.left_eq_add, Nat.add_eq_left, List.drop_zero, List.drop_succ_cons, List.take_succ_cons, List.take_zero, List.drop_nil, opBox, Value.cells, opStore, setCells, List.length_append, Nat.reduceLeDiff, Nat.add_zero, Nat.add_assoc, Nat.add_right_cancel_iff, List.cons_append, List.nil_append, Array.toList, Option.isNone_none, Option.isNone_some, bin_weq, bin_wneq, bin_req, bin_rneq, ne_eq, not_true_eq_false, not_false_eq_true, blds, wk0, fxC18u, lv, c1, c2, d1, hv1]
          rfl
        · by_cases d2 : (s.length : Int) < 1
          · have hv1 : (kk : Int) = 1 := by rw [hkk, smLen, if_pos c1, if_pos c2]; omega
            simp only [evOp, evParts, okVal, ev1, evs, evOpt, envOf, List.lookup_nil, List.size_toArray, List.length_cons, List.length_nil, List.range, List.range.loop, Nat.zero_add, Nat.reduceAdd, Bool.not_false, Bool.not_true, Bool.true_or, if_true, if_false, reduceIte, Nat.reduceEqDiff, reduceCtorEq, List.getElem?_toArray, List.getElem?_cons_zero, List.getElem?_cons_succ, guardOf, constOk, constCell, evBuiltin, List.head?_cons, foldV, min2V, max2V, Int.reduceLT, Int.reduceEq, Kend, resOf, Bool.false_eq_true, Bool.true_eq_false, IntKind.signed, IntKind.max, opConvert, opIndexAddr, opLoad, aggOf, Option.some.injEq, Value.bool.injEq, exists_eq_left', true_and, forall_const, decide_eq_true_eq, decide_eq_false_iff_not, Int.natCast_nonneg, and_self, Int.toNat_natCast, Nat.mul_one, List.append_nil, beq_self_eq_true, Nat.lt_irrefl, Nat.zero_lt_succ, Nat.reduceLT, Option.bind_some, new_get_if, new_next, set_get_if, set_next, decide_true, decide_false, beq_tt, beq_tf, beq_ft, beq_ff, undef, Nat.left_eq_add, Nat.add_eq_left, List.drop_zero, List.drop_succ_cons, List.take_succ_cons, List.take_zero, List.drop_nil, opBox, Value.cells, opStore, setCells, List.length_append, Nat.reduceLeDiff, Nat.add_zero, Nat.add_assoc, Nat.add_right_cancel_iff, List.cons_append, List.nil_append, Array.toList, Option.isNone_none, Option.isNone_some, bin_weq, bin_wneq, bin_req, bin_rneq, ne_eq, not_true_eq_false, not_false_eq_true, blds, wk0, fxC18u, lv, c1, c2, d1, d2, hv1]
          · have hv1 : (kk : Int) = s.length := by rw [hkk, smLen, if_pos c1, if_pos c2]; omega
            simp only [evOp, evParts, okVal, ev1, evs, evOpt, envOf, List.lookup_nil, List.size_toArray, List.length_cons, List.length_nil, List.range, List.range.loop, Nat.zero_add, Nat.reduceAdd, Bool.not_false, Bool.not_true, Bool.true_or, if_true, if_false, reduceIte, Nat.reduceEqDiff, reduceCtorEq, List.getElem?_toArray, List.getElem?_cons_zero, List.getElem?_cons_succ, guardOf, constOk, constCell, evBuiltin, List.head?_cons, foldV, min2V, max2V, Int.reduceLT, Int.reduceEq, Kend, resOf, Bool.false_eq_true, Bool.true_eq_false, IntKind.signed, IntKind.max, opConvert, opIndexAddr, opLoad, aggOf, Option.some.injEq, Value.bool.injEq, exists_eq_left', true_and, forall_const, decide_eq_true_eq, decide_eq_false_iff_not, Int.natCast_nonneg, and_self, Int.toNat_natCast, Nat.mul_one, List.append_nil, beq_self_eq_true, Nat.lt_irrefl, Nat.zero_lt_succ, Nat.reduceLT, Option.bind_some, new_get_if, new_next, set_get_if, set_next, decide_true, decide_false, beq_tt, beq_tf, beq_ft, beq_ff, undef, Nat.left_eq_add, Nat.add_eq_left, List.drop_zero, List.drop_succ_cons, List.take_succ_cons, List.take_zero, List.drop_nil, opBox, Value.cells, opStore, setCells, List.length_append, Nat.reduceLeDiff, Nat.add_zero, Nat.add_assoc, Nat.add_right_cancel_iff, List.cons_append, List.nil_append, Array.toList, Option.isNone_none, Option.isNone_some, bin_weq, bin_wneq, bin_req, bin_rneq, ne_eq, not_true_eq_false, not_false_eq_true, blds, wk0, fxC18u, lv, c1, c2, d1, d2, hv1]
      · by_cases d1 : 48 < (s.length : Int)
        · have hv1 : (kk : Int) = 48 := by rw [hkk, smLen, if_pos c1, if_neg c2]; omega
          simp only [evOp, evParts, okVal, ev1, evs, evOpt, envOf, List.lookup_nil, List.size_toArray, List.length_cons, List.length_nil, List.range, List.range.loop, Nat.zero_add, Nat.reduceAdd, Bool.not_false, Bool.not_true, Bool.true_or, if_true, if_false, reduceIte, Nat.reduceEqDiff, reduceCtorEq, List.getElem?_toArray, List.getElem?_cons_zero, List.getElem?_cons_succ, guardOf, constOk, constCell, evBuiltin, List.head?_cons, foldV, min2V, max2V, Int.reduceLT, Int.reduceEq, Kend, resOf, Bool.false_eq_true, Bool.true_eq_false, IntKind.signed, IntKind.max, opConvert, opIndexAddr, opLoad, aggOf, Option.some.injEq, Value.bool.injEq, exists_eq_left', true_and, forall_const, decide_eq_true_eq, decide_eq_false_iff_not, Int.natCast_nonneg, and_self, Int.toNat_natCast, Nat.mul_one, List.append_nil, beq_self_eq_true, Nat.lt_irrefl, Nat.zero_lt_succ, Nat.reduceLT, Option.bind_some, new_get_if, new_next, set_get_if, set_next, decide_true, decide_false, beq_tt, beq_tf, beq_ft, beq_ff, undef, Nat.left_eq_add, Nat.add_eq_left, List.drop_zero, List.drop_succ_cons, List.take_succ_cons, List.take_zero, List.drop_nil, opBox, Value.cells, opStore, setCells, List.length_append, Nat.reduceLeDiff, Nat.add_zero, Nat.add_assoc, Nat.add_right_cancel_iff, List.cons_append, List.nil_append, Array.toList, Option.isNone_none, Option.isNone_some, bin_weq, bin_wneq, bin_req, bin_rneq, ne_eq, not_true_eq_false, not_false_eq_true, blds, wk0, fxC18u, lv, c1, c2, d1, hv1]
        · have hv1 : (kk : Int) = s.length := by rw [hkk, smLen, if_pos c1, if_neg c2]; omega
          simp only [evOp, evParts, okVal, ev1, evs, evOpt, envOf, List.lookup_nil, List.size_toArray, List.length_cons, List.length_nil, List.range, List.range.loop, Nat.zero_add, Nat.reduceAdd, Bool.not_false, Bool.not_true, Bool.true_or, if_true, if_false, reduceIte, Nat.reduceEqDiff, reduceCtorEq, List.getElem?_toArray, List.getElem?_cons_zero, List.getElem?_cons_succ, guardOf, constOk, constCell, evBuiltin, List.head?_cons, foldV, min2V, max2V, Int.reduceLT, Int.reduceEq, Kend, resOf, Bool.false_eq_true, Bool.true_eq_false, IntKind.signed, IntKind.max, opConvert, opIndexAddr, opLoad, aggOf, Option.some.injEq, Value.bool.injEq, exists_eq_left', true_and, forall_const, decide_eq_true_eq, decide_eq_false_iff_not, Int.natCast_nonneg, and_self, Int.toNat_natCast, Nat.mul_one, List.append_nil, beq_self_eq_true, Nat.lt_irrefl, Nat.zero_lt_succ, Nat.reduceLT, Option.bind_some, new_get_if, new_next, set_get_if, set_next, decide_true, decide_false, beq_tt, beq_tf, beq_ft, beq_ff, undef, Nat.left_eq_add, Nat.add_eq_left, List.drop_zero, List.drop_succ_cons, List.take_succ_cons, List.take_zero, List.drop_nil, opBox, Value.cells, opStore, setCells, List.length_append, Nat.reduceLeDiff, Nat.add_zero, Nat.add_assoc, Nat.add_right_cancel_iff, List.cons_append, List.nil_append, Array.toList, Option.isNone_none, Option.isNone_some, bin_weq, bin_wneq, bin_req, bin_rneq, ne_eq, not_true_eq_false, not_false_eq_true, blds, wk0, fxC18u, lv, c1, c2, d1, hv1]
    · have hv1 : (kk : Int) = 48 := by rw [hkk, smLen, if_neg c1]; rfl
      simp only [evOp, evParts, okVal, ev1, evs, evOpt, envOf, List.lookup_nil, List.size_toArray, List.length_cons, List.length_nil, List.range, List.range.loop, Nat.zero_add, Nat.reduceAdd, Bool.not_false, Bool.not_true, Bool.true_or, if_true, if_false, reduceIte, Nat.reduceEqDiff, reduceCtorEq, List.getElem?_toArray, List.getElem?_cons_zero, List.getElem?_cons_succ, guardOf, constOk, constCell, evBuiltin, List.head?_cons, foldV, min2V, max2V, Int.reduceLT, Int.reduceEq, Kend, resOf, Bool.false_eq_true, Bool.true_eq_false, IntKind.signed, IntKind.max, opConvert, opIndexAddr, opLoad, aggOf, Option.some.injEq, Value.bool.injEq, exists_eq_left', true_and, forall_const, decide_eq_true_eq, decide_eq_false_iff_not, Int.natCast_nonneg, and_self, Int.toNat_natCast, Nat.mul_one, List.append_nil, beq_self_eq_true, Nat.lt_irrefl, Nat.zero_lt_succ, Nat.reduceLT, Option.bind_some, new_get_if, new_next, set_get_if, set_next, decide_true, decide_false, beq_tt, beq_tf, beq_ft, beq_ff, undef, Nat.left_eq_add, Nat.add_eq_left, List.drop_zero, List.drop_succ_cons, List.take_succ_cons, List.take_zero, List.drop_nil, opBox, Value.cells, opStore, setCells, List.length_append, Nat.reduceLeDiff, Nat.add_zero, Nat.add_assoc, Nat.add_right_cancel_iff, List.cons_append, List.nil_append, Array.toList, Option.isNone_none, Option.isNone_some, bin_weq, bin_wneq, bin_req, bin_rneq, ne_eq, not_true_eq_false, not_false_eq_true, blds, wk0, fxC18u, lv, c1, hv1]
  rintro e M ⟨hM, g1, g2, g3, g4⟩
  have nM : M.next = m.next + 3 := by rw [hM]; rfl
  have xM : Ext m M := ⟨by omega, fun j hj => by rw [hM, set_get_ne _ (by omega), set_get_ne _ (by omega), new_get_ne _ (by simp only [new_next]; omega), new_get_ne _ (by simp only [new_next]; omega), new_get_ne _ (by omega)]⟩
  have h1 : M.get m.next = some (.cells [.int .u8 f, .int .u32 l, .int .u8 p, .int .u8 n, .slice a k z] 45 true) := by rw [hM, set_get_ne _ (by omega), set_get_ne _ (by omega), new_get_ne _ (by simp only [new_next]; omega), new_get_ne _ (by simp only [new_next]; omega), new_get]
  have h2' : M.get (m.next + 1) = some (.cells [.int .i64 0, .int .u32 0, .int .i64 0, .int .i64 0, .slice none 0 0] 32 true) := by
    rw [hM, set_get_ne _ (by omega), set_get_ne _ (by omega), new_get_ne _ (by simp only [new_next]; omega)]
    exact new_get (m.new _) _
  have h3' : M.get (m.next + 2) = some (.cells [.int .i64 F, .int .u32 l, .int .i64 Pp, .int .i64 N, .slice none 0 0] 32 true) := by rw [hM, set_get]
  clear hM
  have mk := make_one (P := Try.prog) (t := 22) (m := M) (N := (kk : Int)) (n := kk) Try.underlying22 ts5 tz5 tb5 rfl rfl rfl (by omega) (by omega)
  have hne : ¬ m.next + 2 = M.next := by omega
  obtain ⟨M2, hM2⟩ : ∃ X, X = (M.new (.cells (List.replicate kk (.int .u8 0)) 5 true)).set (m.next + 2) (.cells [.int .i64 F, .int .u32 l, .int .i64 Pp, .int .i64 N, .slice (some ⟨M.next, 0, none⟩) kk 1] 32 true) := ⟨_, rfl⟩
  have n2 : M2.next = M.next + 1 := by rw [hM2]; rfl
  have k2 : ∀ j, j < M.next → j ≠ m.next + 2 → M2.get j = M.get j := fun j hj hn => by rw [hM2, set_get_ne _ hn, new_get_ne _ (by omega)]
  have r2 : M2.get M.next = some (.cells (List.replicate kk (.int .u8 0)) 5 true) := by rw [hM2, set_get_ne _ (by omega), new_get]
  have t2 : M2.get (m.next + 2) = some (.cells [.int .i64 F, .int .u32 l, .int .i64 Pp, .int .i64 N, .slice (some ⟨M.next, 0, none⟩) kk 1] 32 true) := by rw [hM2, set_get]
  have x2 : Ext m M2 := ⟨by omega, fun j hj => by rw [k2 j (by omega) (by omega), xM.2 j hj]⟩
  obtain ⟨c, M3, cp, g5, n3, k3⟩ := copy_into (n := kk) r2 (by omega) (hv.ext hu x2)
  have x3 : Ext m M3 := ⟨by omega, fun j hj => by rw [k3 j (by omega), x2.2 j hj]⟩
  have t3 := (k3 (m.next + 2) (by omega)).trans t2
  have z3 := ((k3 (m.next + 1) (by omega)).trans (k2 (m.next + 1) (by omega) (by omega))).trans h2'
  have s2 := (k2 m.next (by omega) (by omega)).trans h1
  have hlen : (s.take kk ++ List.replicate (kk - s.length) (0 : Int)).length = kk := smP_len 0 0 s kk
  simp only [evOp, evParts, okVal, ev1, evs, evOpt, envOf, List.lookup_nil, List.size_toArray, List.length_cons, List.length_nil, List.range, List.range.loop, Nat.zero_add, Nat.reduceAdd, Bool.not_false, Bool.not_true, Bool.true_or, if_true, if_false, reduceIte, Nat.reduceEqDiff, reduceCtorEq, List.getElem?_toArray, List.getElem?_cons_zero, List.getElem?_cons_succ, guardOf, constOk, constCell, evBuiltin, opLen, List.head?_cons, foldV, min2V, max2V, Int.reduceLT, Int.reduceEq, Kend, resOf, Bool.false_eq_true, Bool.true_eq_false, IntKind.signed, IntKind.max, opConvert, opIndexAddr, opLoad, aggOf, Option.some.injEq, Value.bool.injEq, exists_eq_left', true_and, forall_const, decide_eq_true_eq, decide_eq_false_iff_not, Int.natCast_nonneg, and_self, Int.toNat_natCast, Nat.mul_one, List.append_nil, beq_self_eq_true, Nat.lt_irrefl, Nat.zero_lt_succ, Nat.reduceLT, Option.bind_some, new_get_if, new_next, set_get_if, set_next, decide_true, decide_false, beq_tt, beq_tf, beq_ft, beq_ff, undef, Nat.left_eq_add, Nat.add_eq_left, List.drop_zero, List.drop_succ_cons, List.take_succ_cons, List.take_zero, List.drop_nil, opBox, Value.cells, opStore, setCells, List.length_append, Nat.reduceLeDiff, Nat.add_zero, Nat.add_assoc, Nat.add_right_cancel_iff, List.cons_append, List.nil_append, Array.toList, Option.isNone_none, Option.isNone_some, bin_weq, bin_wneq, bin_req, bin_rneq, ne_eq, not_true_eq_false, not_false_eq_true, blds, wk0, fxC18u, g1, g2, g3, g4, h1, h2', h3', mk, hne, ← hM2, t2, s2, cp, t3, z3]
  have fin := hK _ M.next (x3.set (i := m.next + 1) (b := .cells [.int .i64 F, .int .u32 l, .int .i64 Pp, .int .i64 N, .slice (some ⟨M.next, 0, none⟩) kk 1] 32 true) (by omega)) (by omega) ⟨by simp only [set_next]; omega, by rw [set_get_ne _ (by omega)]; exact g5⟩
  rw [show rowV M.next (s.take kk ++ List.replicate (kk - s.length) (0 : Int)) = .slice (some ⟨M.next, 0, none⟩) kk 1 by rw [rowV, hlen]] at fin
  exact fin

/-- The same parcel? -/
def samePa (P Q : Pa) : Bool := decide (P.f = Q.f) && (decide (P.l = Q.l) && (decide (P.p = Q.p) && (decide (P.n = Q.n) && decide (strOf P.b = strOf Q.b))))
theorem same_ret {m : Mem} {P Q : Pa} {v w : Value} (h1 : ∀ M, Ext m M → Shows M v (byteCells P.b)) (h2 : ∀ M, Ext m M → Shows M w (byteCells Q.b)) {K : Value → Mem → Prop} (hK : ∀ m', Ext m m' → K (.bool (samePa P Q)) m') : Ret Try.prog 17 [paV P v, paV Q w] m K := by
  refine ret_wp [] Try.func17 rfl (by decide) (by kernel_rfl) ?_
  have hx : ∀ a b : Blk, Ext m ((m.new a).new b) := fun a b => (Ext.new _ _).trans (Ext.new _ _)
  have c1 := fun a b => conv_string (P := Try.prog) Try.underlying22 Try.underlying5 Try.underlying9 (h1 _ (hx a b))
  have c2 := fun a b => conv_string (P := Try.prog) Try.underlying22 Try.underlying5 Try.underlying9 (h2 _ (hx a b))
  obtain ⟨a1, z1, rfl, _⟩ := id (h1 m (Ext.refl m))
  obtain ⟨a2, z2, rfl, _⟩ := id (h2 m (Ext.refl m))
  rw [samePa] at hK
  by_cases d1 : P.f = Q.f
  · by_cases d2 : P.l = Q.l
    · by_cases d3 : P.p = Q.p
      · by_cases d4 : P.n = Q.n
        · rw [decide_eq_true d1, decide_eq_true d2, decide_eq_true d3, decide_eq_true d4, Bool.true_and, Bool.true_and, Bool.true_and, Bool.true_and] at hK
          simp only [evOp, evParts, okVal, ev1, evs, evOpt, envOf, List.lookup_nil, List.size_toArray, List.length_cons, List.length_nil, List.range, List.range.loop, Nat.zero_add, Nat.reduceAdd, Bool.not_false, Bool.not_true, Bool.true_or, if_true, if_false, reduceIte, Nat.reduceEqDiff, reduceCtorEq, List.getElem?_toArray, List.getElem?_cons_zero, List.getElem?_cons_succ, guardOf, constOk, constCell, evBuiltin, opLen, List.head?_cons, foldV, min2V, max2V, Int.reduceLT, Int.reduceEq, Kend, resOf, Bool.false_eq_true, Bool.true_eq_false, IntKind.signed, IntKind.max, opIndexAddr, opLoad, aggOf, Option.some.injEq, Value.bool.injEq, exists_eq_left', true_and, forall_const, decide_eq_true_eq, decide_eq_false_iff_not, Int.natCast_nonneg, and_self, Int.toNat_natCast, Nat.mul_one, List.append_nil, beq_self_eq_true, Nat.lt_irrefl, Nat.zero_lt_succ, Nat.reduceLT, Option.bind_some, new_get_if, new_next, set_get_if, set_next, decide_true, decide_false, beq_tt, beq_tf, beq_ft, beq_ff, undef, Nat.left_eq_add, Nat.add_eq_left, List.drop_zero, List.drop_succ_cons, List.take_succ_cons, List.take_zero, List.drop_nil, opBox, Value.cells, opStore, setCells, List.length_append, Nat.reduceLeDiff, Nat.add_zero, Nat.add_assoc, Nat.add_right_cancel_iff, List.cons_append, List.nil_append, Array.toList, Option.isNone_none, Option.isNone_some, bin_weq, bin_wneq, bin_req, bin_rneq, ne_eq, not_true_eq_false, not_false_eq_true, blds, wk0, fxC18u, d1, d2, d3, d4, c1, c2]
          exact hK _ (hx _ _)
        · rw [decide_eq_false d4] at hK
          simp only [Bool.false_and, Bool.and_false] at hK
          simp only [evOp, evParts, okVal, ev1, evs, evOpt, envOf, List.lookup_nil, List.size_toArray, List.length_cons, List.length_nil, List.range, List.range.loop, Nat.zero_add, Nat.reduceAdd, Bool.not_false, Bool.not_true, Bool.true_or, if_true, if_false, reduceIte, Nat.reduceEqDiff, reduceCtorEq, List.getElem?_toArray, List.getElem?_cons_zero, List.getElem?_cons_succ, guardOf, constOk, constCell, evBuiltin, opLen, List.head?_cons, foldV, min2V, max2V, Int.reduceLT, Int.reduceEq, Kend, resOf, Bool.false_eq_true, Bool.true_eq_false, IntKind.signed, IntKind.max, opIndexAddr, opLoad, aggOf, Option.some.injEq, Value.bool.injEq, exists_eq_left', true_and, forall_const, decide_eq_true_eq, decide_eq_false_iff_not, Int.natCast_nonneg, and_self, Int.toNat_natCast, Nat.mul_one, List.append_nil, beq_self_eq_true, Nat.lt_irrefl, Nat.zero_lt_succ, Nat.reduceLT, Option.bind_some, new_get_if, new_next, set_get_if, set_next, decide_true, decide_false, beq_tt, beq_tf, beq_ft, beq_ff, undef, Nat.left_eq_add, Nat.add_eq_left, List.drop_zero, List.drop_succ_cons, List.take_succ_cons, List.take_zero, List.drop_nil, opBox, Value.cells, opStore, setCells, List.length_append, Nat.reduceLeDiff, Nat.add_zero, Nat.add_assoc, Nat.add_right_cancel_iff, List.cons_append, List.nil_append, Array.toList, Option.isNone_none, Option.isNone_some, bin_weq, bin_wneq, bin_req, bin_rneq, ne_eq, not_true_eq_false, not_false_eq_true, blds, wk0, fxC18u, d1, d2, d3, d4]
          exact hK _ (hx _ _)
      · rw [decide_eq_false d3] at hK
        simp only [Bool.false_and, Bool.and_false] at hK
        simp only [evOp, evParts, okVal, ev1, evs, evOpt, envOf, List.lookup_nil, List.size_toArray, List.length_cons, List.length_nil, List.range, List.range.loop, Nat.zero_add, Nat.reduceAdd, Bool.not_false, Bool.not_true, Bool.true_or, if_true, if_false, reduceIte, Nat.reduceEqDiff, reduceCtorEq, List.getElem?_toArray, List.getElem?_cons_zero, List.getElem?_cons_succ, guardOf, constOk, constCell, evBuiltin, opLen, List.head?_cons, foldV, min2V, max2V, Int.reduceLT, Int.reduceEq, Kend, resOf, Bool.false_eq_true, Bool.true_eq_false, IntKind.signed, IntKind.max, opIndexAddr, opLoad, aggOf, Option.some.injEq, Value.bool.injEq, exists_eq_left', true_and, forall_const, decide_eq_true_eq, decide_eq_false_iff_not, Int.natCast_nonneg, and_self, Int.toNat_natCast, Nat.mul_one, List.append_nil, beq_self_eq_true, Nat.lt_irrefl, Nat.zero_lt_succ, Nat.reduceLT, Option.bind_some, new_get_if, new_next, set_get_if, set_next, decide_true, decide_false, beq_tt, beq_tf, beq_ft, beq_ff, undef, Nat.left_eq_add, Nat.add_eq_left, List.drop_zero, List.drop_succ_cons, List.take_succ_cons, List.take_zero, List.drop_nil, opBox, Value.cells, opStore, setCells, List.length_append, Nat.reduceLeDiff, Nat.add_zero, Nat.add_assoc, Nat.add_right_cancel_iff, List.cons_append, List.nil_append, Array.toList, Option.isNone_none, Option.isNone_some, bin_weq, bin_wneq, bin_req, bin_rneq, ne_eq, not_true_eq_false, not_false_eq_true, blds, wk0, fxC18u, d1, d2, d3]
        exact hK _ (hx _ _)
    · rw [decide_eq_false d2] at hK
      simp only [Bool.false_and, Bool.and_false] at hK
      simp only [evOp, evParts, okVal, ev1, evs, evOpt, envOf, List.lookup_nil, List.size_toArray, List.length_cons, List.length_nil, List.range, List.range.loop, Nat.zero_add, Nat.reduceAdd, Bool.not_false, Bool.not_true, Bool.true_or, if_true, if_false, reduceIte, Nat.reduceEqDiff, reduceCtorEq, List.getElem?_toArray, List.getElem?_cons_zero, List.getElem?_cons_succ, guardOf, constOk, constCell, evBuiltin, opLen, List.head?_cons, foldV, min2V, max2V, Int.reduceLT, Int.reduceEq, Kend, resOf, Bool.false_eq_true, Bool.true_eq_false, IntKind.signed, IntKind.max, opIndexAddr, opLoad, aggOf, Option.some.injEq, Value.bool.injEq, exists_eq_left', true_and, forall_const, decide_eq_true_eq, decide_eq_false_iff_not, Int.natCast_nonneg, and_self, Int.toNat_natCast, Nat.mul_one, List.append_nil, beq_self_eq_true, Nat.lt_irrefl, Nat.zero_lt_succ, Nat.reduceLT, Option.bind_some, new_get_if, new_next, set_get_if, set_next, decide_true, decide_false, beq_tt, beq_tf, beq_ft, beq_ff, undef, Nat.left_eq_add, Nat.add_eq_left, List.drop_zero, List.drop_succ_cons, List.take_succ_cons, List.take_zero, List.drop_nil, opBox, Value.cells, opStore, setCells, List.length_append, Nat.reduceLeDiff, Nat.add_zero, Nat.add_assoc, Nat.add_right_cancel_iff, List.cons_append, List.nil_append, Array.toList, Option.isNone_none, Option.isNone_some, bin_weq, bin_wneq, bin_req, bin_rneq, ne_eq, not_true_eq_false, not_false_eq_true, blds, wk0, fxC18u, d1, d2]
      exact hK _ (hx _ _)
  · rw [decide_eq_false d1] at hK
    simp only [Bool.false_and] at hK
    simp only [evOp, evParts, okVal, ev1, evs, evOpt, envOf, List.lookup_nil, List.size_toArray, List.length_cons, List.length_nil, List.range, List.range.loop, Nat.zero_add, Nat.reduceAdd, Bool.not_false, Bool.not_true, Bool.true_or, if_true, if_false, reduceIte, Nat.reduceEqDiff, reduceCtorEq, List.getElem?_toArray, List.getElem?_cons_zero, List.getElem?_cons_succ, guardOf, constOk, constCell, evBuiltin, opLen, List.head?_cons, foldV, min2V, max2V, Int.reduceLT, Int.reduceEq, Kend, resOf, Bool.false_eq_true, Bool.true_eq_false, IntKind.signed, IntKind.max, opIndexAddr, opLoad, aggOf, Option.some.injEq, Value.bool.injEq, exists_eq_left', true_and, forall_const, decide_eq_true_eq, decide_eq_false_iff_not, Int.natCast_nonneg, and_self, Int.toNat_natCast, Nat.mul_one, List.append_nil, beq_self_eq_true, Nat.lt_irrefl, Nat.zero_lt_succ, Nat.reduceLT, Option.bind_some, new_get_if, new_next, set_get_if, set_next, decide_true, decide_false, beq_tt, beq_tf, beq_ft, beq_ff, undef, Nat.left_eq_add, Nat.add_eq_left, List.drop_zero, List.drop_succ_cons, List.take_succ_cons, List.take_zero, List.drop_nil, opBox, Value.cells, opStore, setCells, List.length_append, Nat.reduceLeDiff, Nat.add_zero, Nat.add_assoc, Nat.add_right_cancel_iff, List.cons_append, List.nil_append, Array.toList, Option.isNone_none, Option.isNone_some, bin_weq, bin_wneq, bin_req, bin_rneq, ne_eq, not_true_eq_false, not_false_eq_true, blds, wk0, fxC18u, d1]
    exact hK _ (hx _ _)
theorem samePa_self (P : Pa) : samePa P P = true := by simp [samePa]
end Go.Proofs.Ytiacdjobmfhgoaa
