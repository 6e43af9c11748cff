/- A text of the abstract machine. -/



/- ChairLate comes to true on all arguments. -/
import Derived.Test.YtgecmpgpinihhaaAmC16f
import Derived.Test.YtgecmpgpinihhaaAmArgs6
import Derived.Test.YtgecmpgpinihhaaAmArgs7
import Derived.Test.YtgecmpgpinihhaaAmBun
set_option linter.unusedSimpArgs false
set_option linter.unusedVariables false
set_option maxRecDepth 100000
set_option maxHeartbeats 4000000
namespace Go.Proofs.Ytgecmpgpinihhaa
open Go Go.AM Go.AM.Crc Go.AM.Wire
theorem fxC16ChairLate : type_of% (And.intro (And.intro (And.intro (And.intro (And.intro (And.intro (And.intro @Try.underlying3 @Try.underlying4) (And.intro @Try.underlying5 @Try.underlying9)) (And.intro (And.intro @Try.underlying30 @Try.underlying33) (And.intro @Try.underlying103 (And.intro @Try.underlying78 @Try.underlying22)))) (And.intro (And.intro (And.intro @Try.underlying26 @Try.underlying28) (And.intro @Try.underlying41 (And.intro @Try.underlying43 @Try.underlying45))) (And.intro (And.intro @Try.underlying24 @Try.underlying39) (And.intro @Try.underlying23 (And.intro @Try.underlying34 @Try.underlying37))))) (And.intro (And.intro (And.intro (And.intro @Try.underlying49 @Try.underlying51) (And.intro @Try.underlying57 (And.intro @Try.underlying73 @Try.underlying76))) (And.intro (And.intro @ts3 @ts4) (And.intro @ts5 (And.intro @ts9 @ts30)))) (And.intro (And.intro (And.intro @ts33 @ts103) (And.intro @ts78 (And.intro @ts22 @ts26))) (And.intro (And.intro @ts28 @ts41) (And.intro @ts43 (And.intro @ts45 @ts24)))))) (And.intro (And.intro (And.intro (And.intro (And.intro @ts39 @ts23) (And.intro @ts34 @ts37)) (And.intro (And.intro @ts49 @ts51) (And.intro @ts57 (And.intro @ts73 @ts76)))) (And.intro (And.intro (And.intro @tz3 @tz4) (And.intro @tz5 (And.intro @tz9 @tz30))) (And.intro (And.intro @tz33 @tz103) (And.intro @tz78 (And.intro @tz22 @tz26))))) (And.intro (And.intro (And.intro (And.intro @tz28 @tz41) (And.intro @tz43 (And.intro @tz45 @tz24))) (And.intro (And.intro @tz39 @tz23) (And.intro @tz34 (And.intro @tz37 @tz49)))) (And.intro (And.intro (And.intro @tz51 @tz57) (And.intro @tz73 (And.intro @tz76 @tb3))) (And.intro (And.intro @tb4 @tb5) (And.intro @tb9 (And.intro @tb30 @tb33))))))) (And.intro (And.intro (And.intro (And.intro (And.intro (And.intro @tb103 @tb78) (And.intro @tb22 @tb26)) (And.intro (And.intro @tb28 @tb41) (And.intro @tb43 (And.intro @tb45 @tb24)))) (And.intro (And.intro (And.intro @tb39 @tb23) (And.intro @tb34 (And.intro @tb37 @tb49))) (And.intro (And.intro @tb51 @tb57) (And.intro @tb73 (And.intro @tb76 @fr3))))) (And.intro (And.intro (And.intro (And.intro @fr5 @fr7) (And.intro @fr8 (And.intro @fr9 @fr10))) (And.intro (And.intro @fr11 @fr12) (And.intro @fr13 (And.intro @fr15 @fr16)))) (And.intro (And.intro (And.intro @fr19 @fr21) (And.intro @fr22 (And.intro @fr23 @bz33))) (And.intro (And.intro @al33 @fa33_0) (And.intro @fa33_1 (And.intro @bz28 @bz26)))))) (And.intro (And.intro (And.intro (And.intro (And.intro @bz43 @bz45) (And.intro @al43 @al45)) (And.intro (And.intro @fa45_0 @fa45_1) (And.intro @fa45_2 (And.intro @fa43_0 @fa43_1)))) (And.intro (And.intro (And.intro @fa43_2 @fa28_0) (And.intro @fa28_1 (And.intro @fa28_2 @fa26_0))) (And.intro (And.intro @fa26_1 @fa26_2) (And.intro @fa26_3 (And.intro @bz37 @bz76))))) (And.intro (And.intro (And.intro (And.intro @al37 @fa37_0) (And.intro @fa37_1 (And.intro @fa76_0 @fa76_1))) (And.intro (And.intro @fa76_2 @fa76_3) (And.intro @fa76_4 (And.intro @fa76_5 @fa76_6)))) (And.intro (And.intro (And.intro @fa76_7 @fa76_8) (And.intro @oneOf_two (And.intro @al49 @fa49_0))) (And.intro (And.intro @fa49_1 @fa49_2) (And.intro @fa49_3 (And.intro @fa49_4 @fa49_5)))))))) := (And.intro (And.intro (And.intro (And.intro (And.intro (And.intro (And.intro @Try.underlying3 @Try.underlying4) (And.intro @Try.underlying5 @Try.underlying9)) (And.intro (And.intro @Try.underlying30 @Try.underlying33) (And.intro @Try.underlying103 (And.intro @Try.underlying78 @Try.underlying22)))) (And.intro (And.intro (And.intro @Try.underlying26 @Try.underlying28) (And.intro @Try.underlying41 (And.intro @Try.underlying43 @Try.underlying45))) (And.intro (And.intro @Try.underlying24 @Try.underlying39) (And.intro @Try.underlying23 (And.intro @Try.underlying34 @Try.underlying37))))) (And.intro (And.intro (And.intro (And.intro @Try.underlying49 @Try.underlying51) (And.intro @Try.underlying57 (And.intro @Try.underlying73 @Try.underlying76))) (And.intro (And.intro @ts3 @ts4) (And.intro @ts5 (And.intro @ts9 @ts30)))) (And.intro (And.intro (And.intro @ts33 @ts103) (And.intro @ts78 (And.intro @ts22 @ts26))) (And.intro (And.intro @ts28 @ts41) (And.intro @ts43 (And.intro @ts45 @ts24)))))) (And.intro (And.intro (And.intro (And.intro (And.intro @ts39 @ts23) (And.intro @ts34 @ts37)) (And.intro (And.intro @ts49 @ts51) (And.intro @ts57 (And.intro @ts73 @ts76)))) (And.intro (And.intro (And.intro @tz3 @tz4) (And.intro @tz5 (And.intro @tz9 @tz30))) (And.intro (And.intro @tz33 @tz103) (And.intro @tz78 (And.intro @tz22 @tz26))))) (And.intro (And.intro (And.intro (And.intro @tz28 @tz41) (And.intro @tz43 (And.intro @tz45 @tz24))) (And.intro (And.intro @tz39 @tz23) (And.intro @tz34 (And.intro @tz37 @tz49)))) (And.intro (And.intro (And.intro @tz51 @tz57) (And.intro @tz73 (And.intro @tz76 @tb3))) (And.intro (And.intro @tb4 @tb5) (And.intro @tb9 (And.intro @tb30 @tb33))))))) (And.intro (And.intro (And.intro (And.intro (And.intro (And.intro @tb103 @tb78) (And.intro @tb22 @tb26)) (And.intro (And.intro @tb28 @tb41) (And.intro @tb43 (And.intro @tb45 @tb24)))) (And.intro (And.intro (And.intro @tb39 @tb23) (And.intro @tb34 (And.intro @tb37 @tb49))) (And.intro (And.intro @tb51 @tb57) (And.intro @tb73 (And.intro @tb76 @fr3))))) (And.intro (And.intro (And.intro (And.intro @fr5 @fr7) (And.intro @fr8 (And.intro @fr9 @fr10))) (And.intro (And.intro @fr11 @fr12) (And.intro @fr13 (And.intro @fr15 @fr16)))) (And.intro (And.intro (And.intro @fr19 @fr21) (And.intro @fr22 (And.intro @fr23 @bz33))) (And.intro (And.intro @al33 @fa33_0) (And.intro @fa33_1 (And.intro @bz28 @bz26)))))) (And.intro (And.intro (And.intro (And.intro (And.intro @bz43 @bz45) (And.intro @al43 @al45)) (And.intro (And.intro @fa45_0 @fa45_1) (And.intro @fa45_2 (And.intro @fa43_0 @fa43_1)))) (And.intro (And.intro (And.intro @fa43_2 @fa28_0) (And.intro @fa28_1 (And.intro @fa28_2 @fa26_0))) (And.intro (And.intro @fa26_1 @fa26_2) (And.intro @fa26_3 (And.intro @bz37 @bz76))))) (And.intro (And.intro (And.intro (And.intro @al37 @fa37_0) (And.intro @fa37_1 (And.intro @fa76_0 @fa76_1))) (And.intro (And.intro @fa76_2 @fa76_3) (And.intro @fa76_4 (And.intro @fa76_5 @fa76_6)))) (And.intro (And.intro (And.intro @fa76_7 @fa76_8) (And.intro @oneOf_two (And.intro @al49 @fa49_0))) (And.intro (And.intro @fa49_1 @fa49_2) (And.intro @fa49_3 (And.intro @fa49_4 @fa49_5))))))))
theorem bld33m (a : Option Addr) (n z : Nat) : opBuild Try.prog 33 [(1, .slice a n z)] = some (viewV 0 (.slice a n z)) := by kernel_rfl
theorem bld45z : opBuild Try.prog 45 [] = some (entW 0 0 0 0 (.slice none 0 0) (.slice none 0 0)) := by kernel_rfl
theorem bld37c (a b : Int) : opBuild Try.prog 37 [(0, .int .i64 a), (1, .int .i64 b)] = some (bal a b) := by kernel_rfl
theorem zE_is {m : Mem} : EnF m (entW 0 0 0 0 (.slice none 0 0) (.slice none 0 0)) zE := ⟨_, _, rfl, FRow.nil, FRow.nil⟩
theorem awake_ret {m : Mem} {K : Value → Mem → Prop} (hK : ∀ m', Ext m m' → K (.bool true) m') : Ret Try.prog 5 [] m K := by
  refine ret_wp [] Try.func5 rfl (by decide) (by kernel_rfl) ?_
  simp only [Nat.reduceAdd, reduceIte, Nat.reduceEqDiff, reduceCtorEq, opLen, Int.reduceLT, Int.reduceEq, opConvert, opIndexAddr, opLoad, Nat.reduceLT, undef, Nat.reduceLeDiff, Array.toList, bin_cneq, bin_cne, bin_bne, bin_beq, bld76n, bld37z, bld33m, bld45z, bld37c, wk4, wk5, wk0, fxC16ChairLate, one_intP]
  have o2 : OwnI m.next 3 1 (m.new (.cells [.int .i64 3] 3 true)) (.slice (some ⟨m.next, 0, none⟩) 1 1) 1 (ints [3]) := OwnI.made rfl
  obtain ⟨m1, z1, f1, n1, k1⟩ := o2.frz
  have n1' : m1.next = m.next + 1 := n1
  have x1 : Ext m m1 := ⟨by omega, fun j hj => by rw [k1 j (by omega), new_get_ne _ (by omega)]⟩
  refine Ret.thaw z1 ?_
  refine new_ret (M := [3]) f1 (by decide) fun m2 i H2 hi x2 => ?_
  simp only [Nat.reduceAdd, reduceIte, Nat.reduceEqDiff, reduceCtorEq, opLen, Int.reduceLT, Int.reduceEq, opConvert, opIndexAddr, opLoad, Nat.reduceLT, undef, Nat.reduceLeDiff, Array.toList, bin_cneq, bin_cne, bin_bne, bin_beq, bld76n, bld37z, bld33m, bld45z, bld37c, wk4, wk5, wk0, fxC16ChairLate]
  refine open_ret H2 zE_is fun m3 H3 z3 f3 => ?_
  simp only [Nat.reduceAdd, reduceIte, Nat.reduceEqDiff, reduceCtorEq, opLen, Int.reduceLT, Int.reduceEq, opConvert, opIndexAddr, opLoad, Nat.reduceLT, undef, Nat.reduceLeDiff, Array.toList, bin_cneq, bin_cne, bin_bne, bin_beq, bld76n, bld37z, bld33m, bld45z, bld37c, wk4, wk5, wk0, fxC16ChairLate]
  refine prom_yes (X := zE) H3 zE_is (by decide) rfl ⟨rfl, rfl⟩ (by decide) (by simp [Ch.open]) fun m4 r4 H4 z4 f4 hr4 => ?_
  have e : (((Ch.new [3]).open 1 3 zE).hear 3 |>.take false 0 0 zE).most = true := by decide
  rw [e]
  have e2 : (((Ch.new [3]).open 1 3 zE).hear 3 |>.take false 0 0 zE).fin.ph = 2 := by decide
  simp only [Nat.reduceAdd, reduceIte, Nat.reduceEqDiff, reduceCtorEq, opLen, Int.reduceLT, Int.reduceEq, opConvert, opIndexAddr, opLoad, Nat.reduceLT, undef, Nat.reduceLeDiff, Array.toList, bin_cneq, bin_cne, bin_bne, bin_beq, bld76n, bld37z, bld33m, bld45z, bld37c, wk4, wk5, wk0, fxC16ChairLate]
  refine phase_ret H4 ?_
  rw [e2]
  simp only [Nat.reduceAdd, reduceIte, Nat.reduceEqDiff, reduceCtorEq, opLen, Int.reduceLT, Int.reduceEq, opConvert, opIndexAddr, opLoad, Nat.reduceLT, undef, Nat.reduceLeDiff, Array.toList, bin_cneq, bin_cne, bin_bne, bin_beq, bld76n, bld37z, bld33m, bld45z, bld37c, wk4, wk5, wk0, fxC16ChairLate]
  have := x1.1; have := x2.1; have := z3.1; have := z4.1
  exact hK _ ⟨by omega, fun j hj => by rw [f4 j (by omega) (by omega) (by omega), f3 j (by omega) (by omega), x2.2 j (by omega), x1.2 j hj]⟩
theorem and63 (n : Int) : 0 ≤ bits .and .u16 n 63 ∧ bits .and .u16 n 63 ≤ 63 := by
  simp only [bits]
  have h : (BitVec.ofInt IntKind.u16.bits n &&& BitVec.ofInt IntKind.u16.bits 63).toNat ≤ 63 := by
    rw [BitVec.toNat_and]
    exact Nat.le_trans Nat.and_le_right (by decide)
  generalize (BitVec.ofInt IntKind.u16.bits n &&& BitVec.ofInt IntKind.u16.bits 63).toNat = y at h
  simp [IntKind.wrap, IntKind.signed, IntKind.bits]
  omega
theorem memN_small {y : Int} (h : 0 ≤ y ∧ y ≤ 63) : ∀ k ∈ memN y 16, k < 6 := by
  intro k hk
  obtain ⟨h1, h2⟩ := List.mem_filter.1 hk
  rw [List.mem_range] at h1
  rw [decide_eq_true_eq, bitI] at h2
  rcases Nat.lt_or_ge k 6 with h6 | h6
  · exact h6
  have e : y.fdiv (2 ^ min k IntKind.u16.bits) = 0 := by
    have hb : min k IntKind.u16.bits = k := by simp [IntKind.bits]; omega
    rw [hb, Int.fdiv_eq_ediv_of_nonneg _ (by exact_mod_cast Nat.zero_le _)]
    refine Int.ediv_eq_zero_of_lt h.1 ?_
    have : (64 : Int) ≤ 2 ^ k := by
      have h := Nat.pow_le_pow_right (n := 2) (by decide) h6
      have : ((2 ^ 6 : Nat) : Int) ≤ ((2 ^ k : Nat) : Int) := by exact_mod_cast h
      simpa using this
    omega
  rw [e] at h2
  exact absurd h2 (by decide)
theorem memL_small {y : Int} (h : 0 ≤ y ∧ y ≤ 63) : ∀ x ∈ memL y, 0 ≤ x ∧ x < 6 := by
  intro x hx
  rw [memL, intsN, List.mem_map] at hx
  obtain ⟨k, hk, rfl⟩ := hx
  rw [memO] at hk
  split at hk
  · simp at hk
    omega
  · have := memN_small h k hk
    omega
theorem manyIn_nodup {M l : List Int} (hM : M.Nodup) (hl : l.Nodup) (hs : ∀ x ∈ l, x ∈ M) : manyIn M l = l.length := by
  rw [manyIn, List.countP_eq_length_filter]
  refine List.Perm.length_eq ?_
  refine (List.perm_ext_iff_of_nodup (hM.filter _) hl).2 fun x => ?_
  simp only [List.mem_filter, decide_eq_true_eq]
  exact ⟨fun h => h.2, fun h => ⟨hs x h, h⟩⟩
structure Act where
  k : Int
  n : Int
  r : Int
  w : Int
  s : Bool
  e : Sm
def actR (m : Mem) (a : Act) (c : List Value) : Prop := ∃ va, c = [.int .u8 a.k, .int .u8 a.n, .int .u8 a.r, .int .u8 a.w, .bool a.s, .int .u8 a.e.k, .int .u16 a.e.t, .int .u16 a.e.n, .int .u16 a.e.p, va, .int .u16 a.e.mm] ∧ FRow m va 1 a.e.args.length (byteCells a.e.args)
def Act.ok (a : Act) : Prop := (0 ≤ a.k ∧ a.k < 256) ∧ (0 ≤ a.n ∧ a.n < 256) ∧ (0 ≤ a.r ∧ a.r < 256) ∧ (0 ≤ a.w ∧ a.w < 256)
theorem actR_size {m : Mem} (a : Act) (c : List Value) (h : actR m a c) : c.length = 11 := by
  obtain ⟨bv, rfl, _⟩ := h
  rfl
theorem actR_pz {m m' : Mem} (hp : Pz m m') (a : Act) (c : List Value) (h : actR m a c) : actR m' a c := by
  obtain ⟨bv, h1, h2⟩ := h
  exact ⟨bv, h1, h2.pz hp⟩
theorem fat {m : Mem} {v : Value} {l : List Int} (h : FRow m v 1 l.length (ints l)) {j : Nat} (hj : j < l.length) : ∃ p, p.block < m.next ∧ opIndexAddr Try.prog 30 v (.int .i64 j) = some (.pointer (some p)) ∧ ∀ M, Pz m M → opLoad Try.prog 3 (.pointer (some p)) M = some (.int .i64 l[j]) := by
  obtain ⟨p, i1, r1⟩ := RdI.at h.rd hj
  refine ⟨p, ?_, i1, fun M hz => ?_⟩
  · obtain ⟨h0, ⟨hn, _⟩ | ⟨bi, off, all, e', rfl, h2, h3, h4, h5⟩⟩ := h
    · omega
    · simp only [opIndexAddr, Try.underlying30, ts3] at i1
      split at i1
      · simp only [Option.some.injEq, Value.pointer.injEq] at i1
        rw [← i1]
        exact h2
      · exact absurd i1 (by simp)
  · obtain ⟨p', i2, r2⟩ := RdI.at (h.pz hz).rd hj
    rw [i1] at i2
    simp only [Option.some.injEq, Value.pointer.injEq] at i2
    rw [i2]
    exact r2
theorem nb1 : binV Try.prog .neq 4 (.bool true) (.bool true) = some (.bool false) := by kernel_rfl
theorem nb2 : binV Try.prog .neq 4 (.bool false) (.bool false) = some (.bool false) := by kernel_rfl
theorem vq2 {a b : Int} : veq (.agg #[.int .i64 a, .int .i64 b]) (.agg #[.int .i64 a, .int .i64 b]) = true := by simp [veq, veqList, veqCell]
def LC (M : List Int) (O : Ent) (h : List Int) : Ch := ⟨M, 1, 7, 2, O, 0, 0, zE, false, h, zE⟩
theorem lc_hear (M : List Int) (O : Ent) (h : List Int) (x wr wn : Int) (X : Ent) : ((LC M O h).hear x).take false wr wn X = LC M O (h ++ [x]) := rfl
theorem lc_most (M : List Int) (O : Ent) (h : List Int) (hM : M.Nodup) (hn : h.Nodup) (hs : ∀ x ∈ h, x ∈ M) : (LC M O h).most = decide (M.length < 2 * h.length) := by
  have := manyIn_nodup hM hn hs
  show decide (M.length < 2 * manyIn M h) = _
  rw [this]
theorem late_ret {m : Mem} {x : Int} {v ow : Value} {l : List Act} {cs : List Value} {S : Sm} (hv : FRow m v 11 l.length cs) (hR : RowsOf (actR m) l cs) (hok : ∀ a ∈ l, a.ok) (hS : SmF m ow S) : Ret Try.prog 3 [.int .u16 x, v, ow] m fun v _ => v = .bool true := by
  refine ret_wp [(8, [1]), (20, [2, 8, 25, 27, 28, 29, 41, 42]), (27, [9]), (32, [2])] Try.func3 rfl (by decide) (by kernel_rfl) ?_
  obtain ⟨va, rfl, fa⟩ := hS
  obtain ⟨a, z, rfl⟩ := fa.is
  simp only [wk6, Nat.reduceBEq, wk1, forall_eq, Nat.reduceAdd, reduceIte, Nat.reduceEqDiff, reduceCtorEq, opLen, Int.reduceLT, Int.reduceEq, opConvert, opIndexAddr, opLoad, Nat.reduceLT, undef, Nat.reduceLeDiff, Array.toList, bin_cneq, bin_cne, bin_bne, bin_beq, bld76n, bld37z, bld33m, bld45z, bld37c, wk4, wk5, wk0, fxC16ChairLate]
  obtain ⟨b5, hb5⟩ : ∃ b5, b5 = m.next := ⟨_, rfl⟩
  obtain ⟨m0, hm0⟩ : ∃ m0, m0 = m.new (.cells [.int .u8 S.k, .int .u16 S.t, .int .u16 S.n, .int .u16 S.p, .slice a S.args.length z, .int .u16 S.mm] 28 true) := ⟨_, rfl⟩
  have g5 : m0.get b5 = some (.cells [.int .u8 S.k, .int .u16 S.t, .int .u16 S.n, .int .u16 S.p, .slice a S.args.length z, .int .u16 S.mm] 28 true) := by rw [hm0, hb5, new_get]
  have x0 : Ext m m0 := by rw [hm0]; exact Ext.new _ _
  have l5 : b5 < m0.next := by rw [hm0, hb5]; exact Nat.lt_succ_self _
  rw [← hm0, ← hb5]
  clear hm0
  refine awake_ret fun m1 x1 => ?_
  replace g5 := (x1.2 b5 l5).trans g5
  replace l5 := Nat.lt_of_lt_of_le l5 x1.1
  have z01 := (x0.trans x1).pz
  replace hv := hv.pz z01
  replace hR := hR.mono (actR_pz z01)
  replace fa := fa.pz z01
  clear x0 x1 z01
  have lv := hv.len (P := Try.prog) Try.underlying23
  by_cases h60 : (60 : Int) < l.length
  · simp only [wk6, Nat.reduceBEq, wk1, forall_eq, Nat.reduceAdd, reduceIte, Nat.reduceEqDiff, reduceCtorEq, Int.reduceLT, Int.reduceEq, opConvert, opIndexAddr, opLoad, Nat.reduceLT, undef, Nat.reduceLeDiff, Array.toList, bin_cneq, bin_cne, bin_bne, bin_beq, bld76n, bld37z, bld33m, bld45z, bld37c, wk4, wk5, wk0, fxC16ChairLate, lv, h60]
  by_cases h50 : (50 : Int) < S.args.length
  · have ll : opLen Try.prog (some 24) (.slice a S.args.length z) = some (.int .i64 S.args.length) := by simp only [opLen, Try.underlying24]
    simp only [wk6, Nat.reduceBEq, wk1, forall_eq, Nat.reduceAdd, reduceIte, Nat.reduceEqDiff, reduceCtorEq, Int.reduceLT, Int.reduceEq, opConvert, opIndexAddr, opLoad, Nat.reduceLT, undef, Nat.reduceLeDiff, Array.toList, bin_cneq, bin_cne, bin_bne, bin_beq, bld76n, bld37z, bld33m, bld45z, bld37c, wk4, wk5, wk0, fxC16ChairLate, lv, ll, h60, g5, h50]
  have ll : opLen Try.prog (some 24) (.slice a S.args.length z) = some (.int .i64 S.args.length) := by simp only [opLen, Try.underlying24]
  simp only [wk6, Nat.reduceBEq, wk1, forall_eq, Nat.reduceAdd, reduceIte, Nat.reduceEqDiff, reduceCtorEq, Int.reduceLT, Int.reduceEq, opConvert, opIndexAddr, opLoad, Nat.reduceLT, undef, Nat.reduceLeDiff, Array.toList, bin_cneq, bin_cne, bin_bne, bin_beq, bld76n, bld37z, bld33m, bld45z, bld37c, wk4, wk5, wk0, fxC16ChairLate, lv, ll, h60, g5, h50]
  obtain ⟨y, hy⟩ : ∃ y, y = bits .and .u16 x 63 := ⟨_, rfl⟩
  have hyb := and63 x
  rw [← hy] at hyb ⊢
  refine memf_ret fun m2 w x2 fw => ?_
  obtain ⟨M, hM⟩ : ∃ M, M = memL y := ⟨_, rfl⟩
  have hMs := memL_small hyb
  have hMl := memL_len y
  have hMn := memL_nodup y
  rw [← hM] at fw hMs hMl hMn
  obtain ⟨wa, wz, rfl⟩ := fw.is
  simp only [wk6, Nat.reduceBEq, wk1, forall_eq, Nat.reduceAdd, reduceIte, Nat.reduceEqDiff, reduceCtorEq, opLen, Int.reduceLT, Int.reduceEq, opConvert, opIndexAddr, opLoad, Nat.reduceLT, undef, Nat.reduceLeDiff, Array.toList, bin_cneq, bin_cne, bin_bne, bin_beq, bld76n, bld37z, bld33m, bld45z, bld37c, wk4, wk5, wk0, fxC16ChairLate]
  obtain ⟨b7, hb7⟩ : ∃ b7, b7 = m2.next := ⟨_, rfl⟩
  obtain ⟨m3, hm3⟩ : ∃ m3, m3 = (m2.new (.cells [.int .i64 0, .slice none 0 0] 33 true)).set m2.next (.cells [.int .i64 0, .slice wa M.length wz] 33 true) := ⟨_, rfl⟩
  have g7 : m3.get b7 = some (.cells [.int .i64 0, .slice wa M.length wz] 33 true) := by rw [hm3, hb7]; exact set_get _ _ _
  have x3 : Ext m2 m3 := by rw [hm3]; exact (Ext.new _ _).set (Nat.le_refl _)
  have l7 : b7 < m3.next := by rw [hm3, hb7]; exact Nat.lt_succ_self _
  rw [← hm3, ← hb7]
  have l57 : b5 < b7 := by have := x2.1; omega
  clear hm3
  replace g5 := (x3.2 b5 (by have := x2.1; omega)).trans ((x2.2 b5 l5).trans g5)
  have z13 := x2.pz.trans x3.pz
  replace hv := hv.pz z13
  replace hR := hR.mono (actR_pz z13)
  replace fa := fa.pz z13
  replace fw := fw.pz x3.pz
  clear hb7 x2 x3 z13
  refine new_ret fw (by omega) fun m4 i H4 hi x4 => ?_
  simp only [wk6, Nat.reduceBEq, wk1, forall_eq, Nat.reduceAdd, reduceIte, Nat.reduceEqDiff, reduceCtorEq, opLen, Int.reduceLT, Int.reduceEq, opConvert, opIndexAddr, opLoad, Nat.reduceLT, undef, Nat.reduceLeDiff, Array.toList, bin_cneq, bin_cne, bin_bne, bin_beq, bld76n, bld37z, bld33m, bld45z, bld37c, wk4, wk5, wk0, fxC16ChairLate]
  obtain ⟨b9, hb9⟩ : ∃ b9, b9 = m4.next := ⟨_, rfl⟩
  obtain ⟨m5, hm5⟩ : ∃ m5, m5 = (m4.new (.cells [.int .i64 0, .int .i64 0] 37 true)).set m4.next (.cells [.int .i64 7, .int .i64 2] 37 true) := ⟨_, rfl⟩
  have g9 : m5.get b9 = some (.cells [.int .i64 7, .int .i64 2] 37 true) := by rw [hm5, hb9]; exact set_get _ _ _
  have x5 : Ext m4 m5 := by rw [hm5]; exact (Ext.new _ _).set (Nat.le_refl _)
  have l9 : b9 < m5.next := by rw [hm5, hb9]; exact Nat.lt_succ_self _
  rw [← hm5, ← hb9]
  clear hm5
  have l59 : i < b9 := by obtain ⟨_, _, _, _, _, _, _, _, H⟩ := H4; have := H.li; omega
  replace g5 := ((x4.trans x5).2 b5 (by omega)).trans g5
  replace g7 := ((x4.trans x5).2 b7 l7).trans g7
  have H5 := H4.ext x5
  have z35 := (x4.trans x5).pz
  replace hv := hv.pz z35
  replace hR := hR.mono (actR_pz z35)
  replace fa := fa.pz z35
  replace fw := fw.pz z35
  have l7i : b7 < i := by omega
  clear hb9 x4 x5 z35
  refine Loose.by (fun y => y = b9) ?_
  simp only [wk6, Nat.reduceBEq, wk1, forall_eq, Nat.reduceAdd, reduceIte, Nat.reduceEqDiff, reduceCtorEq, opLen, Int.reduceLT, Int.reduceEq, opConvert, opIndexAddr, opLoad, Nat.reduceLT, undef, Nat.reduceLeDiff, Array.toList, bin_cneq, bin_cne, bin_bne, bin_beq, bld76n, bld37z, bld33m, bld45z, bld37c, wk4, wk5, wk0, fxC16ChairLate, g5, g9, vq2]
  refine sentry_ret (S := S) ⟨_, rfl, fa⟩ fun ve m6 E6 x6 => ?_
  simp only [wk6, Nat.reduceBEq, wk1, forall_eq, Nat.reduceAdd, reduceIte, Nat.reduceEqDiff, reduceCtorEq, opLen, Int.reduceLT, Int.reduceEq, opConvert, opIndexAddr, opLoad, Nat.reduceLT, undef, Nat.reduceLeDiff, Array.toList, bin_cneq, bin_cne, bin_bne, bin_beq, bld76n, bld37z, bld33m, bld45z, bld37c, wk4, wk5, wk0, fxC16ChairLate, g5, g9]
  refine ⟨(x6.2 b9 l9).trans g9, ?_⟩
  refine open_ret (H5.ext x6) E6 fun m7 H7 z7 f7 => ?_
  simp only [wk6, Nat.reduceBEq, wk1, forall_eq, Nat.reduceAdd, reduceIte, Nat.reduceEqDiff, reduceCtorEq, opLen, Int.reduceLT, Int.reduceEq, opConvert, opIndexAddr, Nat.reduceLT, undef, Nat.reduceLeDiff, Array.toList, bin_cneq, bin_cne, bin_bne, bin_beq, bld76n, bld37z, bld33m, bld45z, bld37c, wk4, wk5, wk0, fxC16ChairLate]
  have n6 := x6.1
  refine ⟨(f7 b9 (by omega) (by omega)), ?_⟩
  have k7 : ∀ j, j < m5.next → j ≠ i → m7.get j = m5.get j := fun j h1 h2 => (f7 j (by omega) h2).trans (x6.2 j h1)
  have z57 := x6.pz.trans z7
  replace g5 := (k7 b5 (by omega) (by omega)).trans g5
  replace g7 := (k7 b7 (by omega) (by omega)).trans g7
  replace g9 := (k7 b9 (by omega) (by omega)).trans g9
  replace hv := hv.pz z57
  replace hR := hR.mono (actR_pz z57)
  replace fa := fa.pz z57
  replace fw := fw.pz z57
  have n7 := z7.1
  replace l9 : b9 < m7.next := by omega
  clear x6 z7 f7 H4 H5 E6 z57 k7
  have lw7 : opLoad Try.prog 30 (.pointer (some ⟨b7, 1, none⟩)) m7 = some (.slice wa M.length wz) := load_cell g7 (by simp only [aggOf, Try.underlying30]) rfl
  by_cases hM2 : (M.length : Int) < 2
  · simp only [wk6, Nat.reduceBEq, wk1, forall_eq, Nat.reduceAdd, reduceIte, Nat.reduceEqDiff, reduceCtorEq, opLen, Int.reduceLT, Int.reduceEq, opConvert, opIndexAddr, Nat.reduceLT, undef, Nat.reduceLeDiff, Array.toList, bin_cneq, bin_cne, bin_bne, bin_beq, bld76n, bld37z, bld33m, bld45z, bld37c, wk4, wk5, wk0, fxC16ChairLate, lw7, hM2]
  obtain ⟨M0, hM0⟩ : ∃ M0, M0 = M[0] := ⟨_, rfl⟩
  have hM0m : M0 ∈ M := by rw [hM0]; exact List.getElem_mem _
  obtain ⟨p0, i0, r0⟩ : ∃ p, opIndexAddr Try.prog 30 (.slice wa M.length wz) (.int .i64 0) = some (.pointer (some p)) ∧ opLoad Try.prog 3 (.pointer (some p)) m7 = some (.int .i64 M[0]) := RdI.at (fw.rd) (j := 0) (by omega)
  rw [← hM0] at r0
  have lb9 : opLoad Try.prog 37 (.pointer (some ⟨b9, 0, none⟩)) m7 = some (bal 7 2) := load_agg (P := Try.prog) (t := 37) (sz := 2) (off := 0) g9 (by simp only [aggOf, Try.underlying37]) ts37 (by simp)
  simp only [wk6, Nat.reduceBEq, wk1, forall_eq, Nat.reduceAdd, reduceIte, Nat.reduceEqDiff, reduceCtorEq, opLen, Int.reduceLT, Int.reduceEq, opConvert, Nat.reduceLT, undef, Nat.reduceLeDiff, Array.toList, bin_cneq, bin_cne, bin_bne, bin_beq, bld76n, bld37z, bld33m, bld45z, bld37c, wk4, wk5, wk0, fxC16ChairLate, lw7, hM2, i0, r0, lb9, bld37z, bld45z]
  have e7 : (Ch.new M).open 7 2 S.ent = LC M S.ent [] := rfl
  rw [e7] at H7
  refine prom_yes (X := zE) (x := M0) H7 zE_is (show 0 < 1000000 by decide) rfl ⟨rfl, rfl⟩ hM0m (by simp [LC]) fun m8 r8 H8 z8 f8 hr8 => ?_
  rw [lc_hear, List.nil_append] at H8 ⊢
  have hone : (LC M S.ent [M0]).most = false := by
    rw [lc_most M S.ent [M0] hMn (by simp) (by simpa using hM0m)]
    exact decide_eq_false (by simp; omega)
  have hfin : (LC M S.ent [M0]).fin = LC M S.ent [M0] := by rw [Ch.fin, hone, if_neg (by decide)]
  rw [hfin] at H8
  replace g5 := (f8 b5 (by omega) (by omega) (by omega)).trans g5
  replace g7 := (f8 b7 (by omega) (by omega) (by omega)).trans g7
  replace g9 := (f8 b9 (by omega) (by omega) (by omega)).trans g9
  replace hv := hv.pz z8
  replace hR := hR.mono (actR_pz z8)
  replace fa := fa.pz z8
  replace fw := fw.pz z8
  have n8 := z8.1
  have hr9 : b9 < r8 := by omega
  replace l9 : b9 < m8.next := by omega
  replace lv := hv.len (P := Try.prog) Try.underlying23
  clear r0 lw7 lb9 f8 z8 H7 hone hfin e7
  simp only [wk6, Nat.reduceBEq, wk1, forall_eq, Nat.reduceAdd, reduceIte, Nat.reduceEqDiff, reduceCtorEq, Int.reduceLT, Int.reduceEq, opConvert, opIndexAddr, opLoad, Nat.reduceLT, undef, Nat.reduceLeDiff, Array.toList, bin_cneq, bin_cne, bin_bne, bin_beq, bld76n, bld37z, bld33m, bld45z, bld37c, wk4, wk5, wk0, fxC16ChairLate, lv]
  refine loop_wp [(20, [2, 8, 25, 27, 28, 29, 41, 42])] (by kernel_rfl) (fun q env μ => ∃ j : Nat, q + j = l.length ∧ Ext m8 μ ∧ env 1 = some v ∧ env 5 = some (.pointer (some ⟨b5, 0, none⟩)) ∧ env 7 = some (.pointer (some ⟨b7, 0, none⟩)) ∧ env 8 = some (.pointer (some ⟨i, 0, none⟩)) ∧ env 9 = some (.pointer (some ⟨b9, 0, none⟩)) ∧ env 10 = some (.int .i64 1) ∧ env 56 = some v ∧ env 57 = some (.int .i64 l.length) ∧ env 58 = some (.int .i64 j)) ?_ l.length ⟨0, rfl, Ext.refl _, rfl, rfl, rfl, rfl, rfl, rfl, rfl, rfl, rfl⟩
  rintro q env μ ⟨j, hq, xμ, e1, e5, e7, e8, e9, e10, e56, e57, e58⟩
  simp only [wk6, Nat.reduceBEq, wk1, forall_eq, Nat.reduceAdd, reduceIte, Nat.reduceEqDiff, reduceCtorEq, opLen, Int.reduceLT, Int.reduceEq, opConvert, opIndexAddr, opLoad, Nat.reduceLT, undef, Nat.reduceLeDiff, Array.toList, bin_cneq, bin_cne, bin_bne, bin_beq, bld76n, bld37z, bld33m, bld45z, bld37c, wk4, wk5, wk0, fxC16ChairLate, e57, e58]
  refine cond_by (fun hlt => ?_) (fun hge => ?_)
  · have hj : j < l.length := by omega
    have w1 : IntKind.i64.wrap ((j : Int) + 1) = ((j + 1 : Nat) : Int) := by rw [wrap_i64 (by omega) (by omega)]; rfl
    obtain ⟨pp, ix, ld, _⟩ := (hv.pz xμ.pz).at (P := Try.prog) Try.underlying23 ts49 (by simp only [aggOf, Try.underlying49]) hj
    obtain ⟨vb, hc, fb⟩ := (hR.mono (actR_pz xμ.pz)).at actR_size hj
    rw [hc] at ld
    have hact := hok l[j] (List.getElem_mem _)
    generalize l[j] = A at ld fb hact
    obtain ⟨hak, han, har, haw⟩ := hact
    obtain ⟨ba, bz, rfl⟩ := fb.is
    simp only [wk6, Nat.reduceBEq, wk1, forall_eq, Nat.reduceAdd, reduceIte, Nat.reduceEqDiff, reduceCtorEq, opLen, Int.reduceLT, Int.reduceEq, opConvert, Nat.reduceLT, undef, Nat.reduceLeDiff, Array.toList, bin_cneq, bin_cne, bin_bne, bin_beq, bld76n, bld37z, bld33m, bld45z, bld37c, wk4, wk5, wk0, fxC16ChairLate, e56, e58, ix, ld]
    obtain ⟨b12, hb12⟩ : ∃ b, b = μ.next := ⟨_, rfl⟩
    obtain ⟨μ1, hμ1⟩ : ∃ M, M = (μ.new (.cells [.int .u8 0, .int .u8 0, .int .u8 0, .int .u8 0, .bool false, .int .u8 0, .int .u16 0, .int .u16 0, .int .u16 0, .slice none 0 0, .int .u16 0] 49 true)).set μ.next (.cells [.int .u8 A.k, .int .u8 A.n, .int .u8 A.r, .int .u8 A.w, .bool A.s, .int .u8 A.e.k, .int .u16 A.e.t, .int .u16 A.e.n, .int .u16 A.e.p, .slice ba A.e.args.length bz, .int .u16 A.e.mm] 49 true) := ⟨_, rfl⟩
    have x1 : Ext μ μ1 := by rw [hμ1]; exact (Ext.new _ _).set (Nat.le_refl _)
    have g12 : μ1.get b12 = some (.cells [.int .u8 A.k, .int .u8 A.n, .int .u8 A.r, .int .u8 A.w, .bool A.s, .int .u8 A.e.k, .int .u16 A.e.t, .int .u16 A.e.n, .int .u16 A.e.p, .slice ba A.e.args.length bz, .int .u16 A.e.mm] 49 true) := by rw [hμ1, hb12, set_get]
    have n1 : μ1.next = μ.next + 1 := by rw [hμ1]; rfl
    rw [← hμ1, ← hb12]
    have ll12 : opLen Try.prog (some 24) (.slice ba A.e.args.length bz) = some (.int .i64 A.e.args.length) := by simp only [opLen, Try.underlying24]
    have w2 : IntKind.i64.wrap (A.r.tmod 7) = A.r % 7 := by rw [Int.tmod_eq_emod_of_nonneg har.1, wrap_i64 (by omega) (by omega)]
    have w3 : IntKind.i64.wrap (A.n.tmod 4) = A.n % 4 := by rw [Int.tmod_eq_emod_of_nonneg han.1, wrap_i64 (by omega) (by omega)]
    have w4 : IntKind.i64.wrap (A.n.tmod 16) = A.n % 16 := by rw [Int.tmod_eq_emod_of_nonneg han.1, wrap_i64 (by omega) (by omega)]
    by_cases hA50 : (50 : Int) < A.e.args.length
    · simp only [wk6, Nat.reduceBEq, wk1, forall_eq, Nat.reduceAdd, reduceIte, Nat.reduceEqDiff, reduceCtorEq, Int.reduceLT, Int.reduceEq, opConvert, opIndexAddr, opLoad, Nat.reduceLT, undef, Nat.reduceLeDiff, Array.toList, bin_cneq, bin_cne, bin_bne, bin_beq, bld76n, bld37z, bld33m, bld45z, bld37c, wk4, wk5, wk0, fxC16ChairLate, g12, ll12, hA50]
    have n12 : ¬ b12 = μ1.next := by omega
    simp only [wk6, Nat.reduceBEq, wk1, forall_eq, Nat.reduceAdd, reduceIte, Nat.reduceEqDiff, reduceCtorEq, Int.reduceLT, Int.reduceEq, opConvert, opIndexAddr, opLoad, Nat.reduceLT, undef, Nat.reduceLeDiff, Array.toList, bin_cneq, bin_cne, bin_bne, bin_beq, bld76n, bld37z, bld33m, bld45z, bld37c, wk4, wk5, wk0, fxC16ChairLate, g12, ll12, hA50, w2, w3, w4, bld37c, n12]
    obtain ⟨b13, hb13⟩ : ∃ b, b = μ1.next := ⟨_, rfl⟩
    obtain ⟨μ2, hμ2⟩ : ∃ M, M = (μ1.new (.cells [.int .i64 0, .int .i64 0] 37 true)).set μ1.next (.cells [.int .i64 (A.r % 7), .int .i64 (A.n % 4)] 37 true) := ⟨_, rfl⟩
    have x2 : Ext μ1 μ2 := by rw [hμ2]; exact (Ext.new _ _).set (Nat.le_refl _)
    have g13 : μ2.get b13 = some (.cells [.int .i64 (A.r % 7), .int .i64 (A.n % 4)] 37 true) := by rw [hμ2, hb13, set_get]
    have n2 : μ2.next = μ1.next + 1 := by rw [hμ2]; rfl
    rw [← hμ2, ← hb13]
    clear hμ2 hμ1
    have xs := (xμ.trans x1).trans x2
    have g12 := (x2.2 b12 (by omega)).trans g12
    have fbs := fb.pz (x1.trans x2).pz
    have lt12 : b12 < μ2.next := by omega
    have lt13 : b13 < μ2.next := by omega
    have lt9 : b9 < μ2.next := Nat.lt_of_lt_of_le l9 xs.1
    have lt7 : b7 < μ2.next := by omega
    have lt5 : b5 < μ2.next := by omega
    have lw : ∀ M', Ext μ2 M' → opLoad Try.prog 30 (.pointer (some ⟨b7, 1, none⟩)) M' = some (.slice wa M.length wz) := fun M' y => load_cell ((y.2 b7 lt7).trans ((xs.2 b7 (by omega)).trans g7)) (by simp only [aggOf, Try.underlying30]) rfl
    have l37 : ∀ M', Ext μ2 M' → opLoad Try.prog 37 (.pointer (some ⟨b9, 0, none⟩)) M' = some (bal 7 2) := fun M' y => load_agg (P := Try.prog) (t := 37) (sz := 2) (off := 0) ((y.2 b9 lt9).trans ((xs.2 b9 l9).trans g9)) (by simp only [aggOf, Try.underlying37]) ts37 (by simp)
    have l13 : ∀ M', Ext μ2 M' → opLoad Try.prog 37 (.pointer (some ⟨b13, 0, none⟩)) M' = some (bal (A.r % 7) (A.n % 4)) := fun M' y => load_agg (P := Try.prog) (t := 37) (sz := 2) (off := 0) ((y.2 b13 lt13).trans g13) (by simp only [aggOf, Try.underlying37]) ts37 (by simp)
    have l28 : ∀ M', Ext μ2 M' → opLoad Try.prog 28 (.pointer (some ⟨b12, 5, none⟩)) M' = some (.agg #[.int .u8 A.e.k, .int .u16 A.e.t, .int .u16 A.e.n, .int .u16 A.e.p, .slice ba A.e.args.length bz, .int .u16 A.e.mm]) := fun M' y => load_agg (P := Try.prog) (t := 28) (sz := 6) (off := 5) ((y.2 b12 lt12).trans g12) (by simp only [aggOf, Try.underlying28]) ts28 (by simp)
    have l4 : ∀ M', Ext μ2 M' → opLoad Try.prog 4 (.pointer (some ⟨b12, 4, none⟩)) M' = some (.bool A.s) := fun M' y => load_cell ((y.2 b12 lt12).trans g12) (by simp only [aggOf, Try.underlying4]) rfl
    have r2 := Ext.refl μ2
    have a1 := lw _ r2
    have a2 := l37 _ r2
    have a3 := l13 _ r2
    have a4 := l28 _ r2
    have a5 := l4 _ r2
    refine Loose.old ?_
    simp only [wk6, Nat.reduceBEq, wk1, forall_eq, Nat.reduceAdd, reduceIte, Nat.reduceEqDiff, reduceCtorEq, opLen, Int.reduceLT, Int.reduceEq, opConvert, opIndexAddr, Nat.reduceLT, undef, Nat.reduceLeDiff, Array.toList, bin_cneq, bin_cne, bin_bne, bin_beq, bld76n, bld37z, bld33m, bld45z, bld37c, wk4, wk5, wk0, fxC16ChairLate, a3, a4, a5, bld37z, vq2, lt13, lt12, lt9, lt7, e7, e8, e9]
    have Hs := H8.ext xs
    have ne7 : ¬ A.r % 7 = 7 := by omega
    refine sentry_ret (S := A.e) ⟨_, rfl, fbs⟩ fun v1 m9 E9 y9 => ?_
    have a5' := l4 _ y9
    simp only [wk6, Nat.reduceBEq, wk1, forall_eq, Nat.reduceAdd, reduceIte, Nat.reduceEqDiff, reduceCtorEq, opLen, Int.reduceLT, Int.reduceEq, opConvert, opIndexAddr, Nat.reduceLT, undef, Nat.reduceLeDiff, Array.toList, bin_cneq, bin_cne, bin_bne, bin_beq, bld76n, bld37z, bld33m, bld45z, bld37c, wk4, wk5, wk0, fxC16ChairLate, a5', lt12, lt13]
    refine ⟨y9.2, ?_⟩
    refine prom_no (Hs.ext y9) E9 (fun _ h _ _ => (ne7 h).elim) fun m10 y10 => ?_
    have z10 := y9.trans y10
    have b3 := l13 _ z10
    have b2 := l37 _ z10
    simp only [wk6, Nat.reduceBEq, wk1, forall_eq, Nat.reduceAdd, reduceIte, Nat.reduceEqDiff, reduceCtorEq, opLen, Int.reduceLT, Int.reduceEq, opConvert, opIndexAddr, Nat.reduceLT, undef, Nat.reduceLeDiff, Array.toList, bin_cneq, bin_cne, bin_bne, bin_beq, bld76n, bld37z, bld33m, bld45z, bld37c, wk4, wk5, wk0, fxC16ChairLate, b3, b2, vq2, lt13, lt9, e7, e8, e9]
    refine ⟨fun b hb => y10.2 b (Nat.lt_of_lt_of_le hb y9.1), ?_⟩
    refine acc_no (Hs.ext z10) (fun h => absurd h (by show ¬ (1 : Int) = 2; decide)) fun m11 y11 => ?_
    have z11 := z10.trans y11
    have b2 := l37 _ z11
    have b3 := l13 _ z11
    simp only [wk6, Nat.reduceBEq, wk1, forall_eq, Nat.reduceAdd, reduceIte, Nat.reduceEqDiff, reduceCtorEq, opLen, Int.reduceLT, Int.reduceEq, opConvert, opIndexAddr, Nat.reduceLT, undef, Nat.reduceLeDiff, Array.toList, bin_cneq, bin_cne, bin_bne, bin_beq, bld76n, bld37z, bld33m, bld45z, bld37c, wk4, wk5, wk0, fxC16ChairLate, b2, vq2, lt9, e7, e8, e9]
    refine ⟨fun b hb => y11.2 b (Nat.lt_of_lt_of_le hb z10.1), ?_⟩
    refine acc_no (Hs.ext z11) (fun h => absurd h (by show ¬ (1 : Int) = 2; decide)) fun m12 y12 => ?_
    have z12 := z11.trans y12
    have b1 := lw _ z12
    have b2 := l37 _ z12
    have b3 := l13 _ z12
    have b4 := l28 _ z12
    obtain ⟨p0, q0, i0, r0⟩ := fat (fw.pz xs.pz) (j := 0) (by omega)
    have i0 : opIndexAddr Try.prog 30 (.slice wa M.length wz) (.int .i64 0) = some (.pointer (some p0)) := i0
    have r0 := r0 _ z12.pz
    rw [← hM0] at r0
    simp only [wk6, Nat.reduceBEq, wk1, forall_eq, Nat.reduceAdd, reduceIte, Nat.reduceEqDiff, reduceCtorEq, opLen, Int.reduceLT, Int.reduceEq, opConvert, Nat.reduceLT, undef, Nat.reduceLeDiff, Array.toList, bin_cneq, bin_cne, bin_bne, bin_beq, bld76n, bld37z, bld33m, bld45z, bld37c, wk4, wk5, wk0, fxC16ChairLate, b1, b2, b3, b4, i0, r0, vq2, lt7, lt9, lt13, lt12, q0, e7, e8, e9]
    refine ⟨fun b hb => y12.2 b (Nat.lt_of_lt_of_le hb z11.1), ?_⟩
    refine sentry_ret (S := A.e) ⟨_, rfl, fbs.pz z12.pz⟩ fun v2 m13 E13 y13 => ?_
    simp only [wk6, Nat.reduceBEq, wk1, forall_eq, Nat.reduceAdd, reduceIte, Nat.reduceEqDiff, reduceCtorEq, opLen, Int.reduceLT, Int.reduceEq, opConvert, opIndexAddr, Nat.reduceLT, undef, Nat.reduceLeDiff, Array.toList, bin_cneq, bin_cne, bin_bne, bin_beq, bld76n, bld37z, bld33m, bld45z, bld37c, wk4, wk5, wk0, fxC16ChairLate]
    refine ⟨fun b hb => y13.2 b (Nat.lt_of_lt_of_le hb z12.1), ?_⟩
    have z13 := z12.trans y13
    have b1 := lw _ z13
    have b2 := l37 _ z13
    have b3 := l13 _ z13
    have b4 := l28 _ z13
    refine prom_no (Hs.ext z13) E13 (fun _ _ _ _ => by simp [LC]) fun m14 y14 => ?_
    have z14 := z13.trans y14
    have b2 := l37 _ z14
    have b3 := l13 _ z14
    have b4 := l28 _ z14
    by_cases h5 : (5 : Int) < A.n % 16
    · simp only [wk6, Nat.reduceBEq, wk1, forall_eq, Nat.reduceAdd, reduceIte, Nat.reduceEqDiff, reduceCtorEq, opLen, Int.reduceLT, Int.reduceEq, opConvert, opIndexAddr, Nat.reduceLT, undef, Nat.reduceLeDiff, Array.toList, bin_cneq, bin_cne, bin_bne, bin_beq, bld76n, bld37z, bld33m, bld45z, bld37c, wk4, wk5, wk0, fxC16ChairLate, b2, b3, b4, vq2, lt7, lt9, lt13, lt12, h5, e7, e8, e9]
      refine ⟨fun b hb => y14.2 b (Nat.lt_of_lt_of_le hb z13.1), ?_⟩
      refine sentry_ret (S := A.e) ⟨_, rfl, fbs.pz z14.pz⟩ fun v3 m15 E15 y15 => ?_
      simp only [wk6, Nat.reduceBEq, wk1, forall_eq, Nat.reduceAdd, reduceIte, Nat.reduceEqDiff, reduceCtorEq, opLen, Int.reduceLT, Int.reduceEq, opConvert, opIndexAddr, Nat.reduceLT, undef, Nat.reduceLeDiff, Array.toList, bin_cneq, bin_cne, bin_bne, bin_beq, bld76n, bld37z, bld33m, bld45z, bld37c, wk4, wk5, wk0, fxC16ChairLate]
      refine ⟨fun b hb => y15.2 b (Nat.lt_of_lt_of_le hb z14.1), ?_⟩
      have z15 := z14.trans y15
      refine prom_no (Hs.ext z15) E15 (fun _ _ _ h => by have := hMs _ h; omega) fun m16 y16 => ?_
      have z16 := z15.trans y16
      simp only [wk6, Nat.reduceBEq, wk1, forall_eq, Nat.reduceAdd, reduceIte, Nat.reduceEqDiff, reduceCtorEq, opLen, Int.reduceLT, Int.reduceEq, opConvert, opIndexAddr, Nat.reduceLT, undef, Nat.reduceLeDiff, Array.toList, bin_cneq, bin_cne, bin_bne, bin_beq, bld76n, bld37z, bld33m, bld45z, bld37c, wk4, wk5, wk0, fxC16ChairLate, e1, e5, e7, e8, e9, e10, e56, e57, e58]
      exact ⟨fun b hb => y16.2 b (Nat.lt_of_lt_of_le hb z15.1), q - 1, by omega, j + 1, by omega, xs.trans z16, by rw [w1]⟩
    · simp only [wk6, Nat.reduceBEq, wk1, forall_eq, Nat.reduceAdd, reduceIte, Nat.reduceEqDiff, reduceCtorEq, opLen, Int.reduceLT, Int.reduceEq, opConvert, opIndexAddr, Nat.reduceLT, undef, Nat.reduceLeDiff, Array.toList, bin_cneq, bin_cne, bin_bne, bin_beq, bld76n, bld37z, bld33m, bld45z, bld37c, wk4, wk5, wk0, fxC16ChairLate, vq2, h5, e1, e5, e7, e8, e9, e10, e56, e57, e58]
      exact ⟨fun b hb => y14.2 b (Nat.lt_of_lt_of_le hb z13.1), q - 1, by omega, j + 1, by omega, xs.trans z14, by rw [w1]⟩
  · clear hq e56 e57 e58
    have H9 := H8.ext xμ
    replace g5 := (xμ.2 b5 (by omega)).trans g5
    replace g7 := (xμ.2 b7 (by omega)).trans g7
    replace g9 := (xμ.2 b9 l9).trans g9
    replace fa := fa.pz xμ.pz
    replace fw := fw.pz xμ.pz
    replace l9 : b9 < μ.next := Nat.lt_of_lt_of_le l9 xμ.1
    have lw9 : opLoad Try.prog 30 (.pointer (some ⟨b7, 1, none⟩)) μ = some (.slice wa M.length wz) := load_cell g7 (by simp only [aggOf, Try.underlying30]) rfl
    obtain ⟨w', ct, fc⟩ := fw.cut (P := Try.prog) Try.underlying30 ts3 (lo := some (.int .i64 1)) (hi := none) (l := 1) (k := M.length) rfl rfl (by omega) (by omega)
    obtain ⟨N, hN⟩ : ∃ N, N = M.drop 1 := ⟨_, rfl⟩
    have hNl : N.length = M.length - 1 := by rw [hN, List.length_drop]
    have fN : FRow μ w' 1 N.length (ints N) := by
      have e : ((ints M).drop (1 * 1)).take ((M.length - 1) * 1) = ints N := by
        rw [hN, Nat.mul_one, Nat.mul_one, ← List.map_drop, List.take_of_length_le (by simp)]
      rw [e, ← hNl] at fc
      exact fc
    have lN := fN.len (P := Try.prog) Try.underlying30
    have hMN : M = M0 :: N := by rw [hM0, hN]; exact (List.getElem_cons_drop (i := 0) (h := by omega)).symm
    have hT1 : M.take (0 + 1) = [M0] := by rw [hMN]; rfl
    simp only [wk6, Nat.reduceBEq, wk1, forall_eq, Nat.reduceAdd, reduceIte, Nat.reduceEqDiff, reduceCtorEq, Int.reduceLT, Int.reduceEq, opConvert, opIndexAddr, Nat.reduceLT, undef, Nat.reduceLeDiff, Array.toList, bin_cneq, bin_cne, bin_bne, bin_beq, bld76n, bld37z, bld33m, bld45z, bld37c, wk4, wk5, wk0, fxC16ChairLate, e7, lw9, ct, lN]
    refine loop_wp [(27, [9])] (by kernel_rfl) (fun q env m' => ∃ (j r : Nat), q + j = N.length ∧ 2 * (j + 1) ≤ M.length ∧ ChAt m' i r (LC M S.ent (M.take (j + 1))) ∧ b9 < r ∧ Pz μ m' ∧ (∀ y, y = b5 ∨ y = b7 ∨ y = b9 → m'.get y = μ.get y) ∧ env 5 = some (.pointer (some ⟨b5, 0, none⟩)) ∧ env 7 = some (.pointer (some ⟨b7, 0, none⟩)) ∧ env 8 = some (.pointer (some ⟨i, 0, none⟩)) ∧ env 9 = some (.pointer (some ⟨b9, 0, none⟩)) ∧ env 10 = some (.int .i64 ((j + 1 : Nat) : Int)) ∧ env 133 = some w' ∧ env 134 = some (.int .i64 N.length) ∧ env 135 = some (.int .i64 j)) ?_ N.length ⟨0, r8, rfl, by omega, by rw [hT1]; exact H9, hr9, Pz.refl _, fun _ _ => rfl, e5, e7, e8, e9, e10, rfl, rfl, rfl⟩
    clear env e1 e5 e7 e8 e9 e10 lw9 H9
    rintro q env m' ⟨j, r, hq, h2, H, hr, zz, fr, e5, e7, e8, e9, e10, e133, e134, e135⟩
    simp only [wk6, Nat.reduceBEq, wk1, forall_eq, Nat.reduceAdd, reduceIte, Nat.reduceEqDiff, reduceCtorEq, opLen, Int.reduceLT, Int.reduceEq, opConvert, opIndexAddr, opLoad, Nat.reduceLT, undef, Nat.reduceLeDiff, Array.toList, bin_cneq, bin_cne, bin_bne, bin_beq, bld76n, bld37z, bld33m, bld45z, bld37c, wk4, wk5, wk0, fxC16ChairLate, e134, e135]
    refine cond_by (fun hlt => ?_) (fun hge => ?_)
    rotate_left
    · omega
    have hj : j < N.length := by omega
    have w1 : IntKind.i64.wrap ((j : Int) + 1) = ((j + 1 : Nat) : Int) := by rw [wrap_i64 (by omega) (by omega)]; rfl
    have w2 : IntKind.i64.wrap (((j + 1 : Nat) : Int) + 1) = ((j + 2 : Nat) : Int) := by rw [wrap_i64 (by omega) (by omega)]; omega
    have w3 : IntKind.i64.wrap (2 * ((j + 2 : Nat) : Int)) = ((2 * (j + 2) : Nat) : Int) := by rw [wrap_i64 (by omega) (by omega)]; omega
    obtain ⟨p1, _, i1, r1⟩ := fat fN hj
    have r1 := r1 _ zz
    have k5 := (fr b5 (.inl rfl)).trans g5
    have k7 := (fr b7 (.inr (.inl rfl))).trans g7
    have k9 := (fr b9 (.inr (.inr rfl))).trans g9
    have lb9 : opLoad Try.prog 37 (.pointer (some ⟨b9, 0, none⟩)) m' = some (bal 7 2) := load_agg (P := Try.prog) (t := 37) (sz := 2) (off := 0) k9 (by simp only [aggOf, Try.underlying37]) ts37 (by simp)
    simp only [wk6, Nat.reduceBEq, wk1, forall_eq, Nat.reduceAdd, reduceIte, Nat.reduceEqDiff, reduceCtorEq, opLen, Int.reduceLT, Int.reduceEq, opConvert, Nat.reduceLT, undef, Nat.reduceLeDiff, Array.toList, bin_cneq, bin_cne, bin_bne, bin_beq, bld76n, bld37z, bld33m, bld45z, bld37c, wk4, wk5, wk0, fxC16ChairLate, e5, e7, e8, e9, e10, e133, e135, i1, r1, w2]
    refine Loose.by (fun y => y = b7) ?_
    simp only [wk6, Nat.reduceBEq, wk1, forall_eq, Nat.reduceAdd, reduceIte, Nat.reduceEqDiff, reduceCtorEq, opLen, Int.reduceLT, Int.reduceEq, opConvert, opIndexAddr, Nat.reduceLT, undef, Nat.reduceLeDiff, Array.toList, bin_cneq, bin_cne, bin_bne, bin_beq, bld76n, bld37z, bld33m, bld45z, bld37c, wk4, wk5, wk0, fxC16ChairLate, e5, e7, e8, e9, e10, lb9, bld37z, bld45z]
    have hj1 : j + 1 < M.length := by omega
    have eN : N[j] = M[j + 1] := by simp only [hN, List.getElem_drop]; congr 1; omega
    have hT : M.take (j + 1) ++ [N[j]] = M.take (j + 2) := by rw [eN]; exact (List.take_succ_eq_append_getElem hj1).symm
    have hnm : N[j] ∉ M.take (j + 1) := by
      rw [eN]
      intro h
      obtain ⟨k, hk, he⟩ := List.getElem_of_mem h
      rw [List.getElem_take] at he
      have hk' : k < j + 1 := by simp only [List.length_take] at hk; omega
      have := (List.getElem_inj hMn).1 he
      omega
    have hmm : N[j] ∈ M := by rw [eN]; exact List.getElem_mem _
    have hlT : (M.take (j + 1)).length = j + 1 := by rw [List.length_take]; omega
    have hlT2 : (M.take (j + 2)).length = j + 2 := by rw [List.length_take]; omega
    refine prom_yes (X := zE) (x := N[j]) H zE_is (by show (M.take (j + 1)).length < _; omega) rfl ⟨rfl, rfl⟩ hmm hnm fun m2 r2 H2 z2 f2 hr2 => ?_
    rw [lc_hear, hT] at H2 ⊢
    have hmo : (LC M S.ent (M.take (j + 2))).most = decide (M.length < 2 * (j + 2)) := by
      rw [lc_most M S.ent _ hMn (hMn.sublist (List.take_sublist _ _)) (fun x h => List.mem_of_mem_take h), hlT2]
    have li : i < m'.next := by obtain ⟨_, _, _, _, _, _, _, _, H⟩ := H; exact H.li
    have lr : r < m'.next := by obtain ⟨_, _, _, _, _, _, _, _, H⟩ := H; exact H.lr
    have q5 := (f2 b5 (by omega) (by omega) (by omega)).trans k5
    have q7 := (f2 b7 (by omega) (by omega) (by omega)).trans k7
    have q9 := (f2 b9 (by omega) (by omega) (by omega)).trans k9
    have lw2 : opLoad Try.prog 30 (.pointer (some ⟨b7, 1, none⟩)) m2 = some (.slice wa M.length wz) := load_cell q7 (by simp only [aggOf, Try.underlying30]) rfl
    rw [hmo]
    have fr2 : ∀ y, y = b5 ∨ y = b7 ∨ y = b9 → m2.get y = μ.get y := fun y hy => by
      rcases hy with rfl | rfl | rfl
      · exact q5.trans g5.symm
      · exact q7.trans g7.symm
      · exact q9.trans g9.symm
    by_cases hb : M.length < 2 * (j + 2)
    · have d1 : decide ((M.length : Int) < ((2 * (j + 2) : Nat) : Int)) = true := decide_eq_true (by omega)
      have hmo1 : (LC M S.ent (M.take (j + 2))).most = true := by rw [hmo]; exact decide_eq_true hb
      have hfin : (LC M S.ent (M.take (j + 2))).fin = (LC M S.ent (M.take (j + 2))).put := by rw [Ch.fin, hmo1, if_pos rfl]
      rw [hfin] at H2
      rw [decide_eq_true hb]
      simp only [wk6, Nat.reduceBEq, wk1, forall_eq, Nat.reduceAdd, reduceIte, Nat.reduceEqDiff, reduceCtorEq, opLen, Int.reduceLT, Int.reduceEq, opConvert, opIndexAddr, Nat.reduceLT, undef, Nat.reduceLeDiff, Array.toList, bin_cneq, bin_cne, bin_bne, bin_beq, bld76n, bld37z, bld33m, bld45z, bld37c, wk4, wk5, wk0, fxC16ChairLate, e5, e7, e8, e9, e10, lw2, w2, w3, d1, nb1]
      refine ⟨q7.trans k7.symm, ?_⟩
      refine centry_ret H2 (show (2 : Int) ≤ 2 by decide) fun m3 v3 x3 E3 => ?_
      have E3 : EnF m3 v3 S.ent := E3
      obtain ⟨va3, vm3, rfl, f31, f32⟩ := id E3
      obtain ⟨a3, z3, rfl⟩ := f31.is
      obtain ⟨a4, z4, rfl⟩ := f32.is
      simp only [wk6, Nat.reduceBEq, wk1, forall_eq, Nat.reduceAdd, reduceIte, Nat.reduceEqDiff, reduceCtorEq, opLen, Int.reduceLT, Int.reduceEq, opConvert, opIndexAddr, Nat.reduceLT, undef, Nat.reduceLeDiff, Array.toList, bin_cneq, bin_cne, bin_bne, bin_beq, bld76n, bld37z, bld33m, bld45z, bld37c, wk4, wk5, wk0, fxC16ChairLate, e5, e7, e8, e9, e10]
      obtain ⟨b17, hb17⟩ : ∃ b, b = m3.next := ⟨_, rfl⟩
      obtain ⟨m4, hm4⟩ : ∃ M, M = (m3.new (.cells [.int .u8 0, .int .u16 0, .int .u16 0, .int .i64 0, .slice none 0 0, .slice none 0 0] 45 true)).set m3.next (.cells [.int .u8 S.ent.kind, .int .u16 S.ent.tr, .int .u16 S.ent.nu, .int .i64 S.ent.pc, .slice a3 S.ent.args.length z3, .slice a4 S.ent.mem.length z4] 45 true) := ⟨_, rfl⟩
      have x4 : Ext m3 m4 := by rw [hm4]; exact (Ext.new _ _).set (Nat.le_refl _)
      have g17 : m4.get b17 = some (.cells [.int .u8 S.ent.kind, .int .u16 S.ent.tr, .int .u16 S.ent.nu, .int .i64 S.ent.pc, .slice a3 S.ent.args.length z3, .slice a4 S.ent.mem.length z4] 45 true) := by rw [hm4, hb17, set_get]
      have l17 : b17 < m4.next := by rw [hm4, hb17]; exact Nat.lt_succ_self _
      rw [← hm4, ← hb17]
      have n2 := z2.1
      have x34 := x3.trans x4
      have h5 := (x34.2 b5 (by omega)).trans q5
      have e17 : opLoad Try.prog 45 (.pointer (some ⟨b17, 0, none⟩)) m4 = some (entW S.ent.kind S.ent.tr S.ent.nu S.ent.pc (.slice a3 S.ent.args.length z3) (.slice a4 S.ent.mem.length z4)) := load_agg (P := Try.prog) (t := 45) (sz := 6) (off := 0) g17 (by simp only [aggOf, Try.underlying45]) ts45 (by simp)
      have l28 : opLoad Try.prog 28 (.pointer (some ⟨b5, 0, none⟩)) m4 = some (.agg #[.int .u8 S.k, .int .u16 S.t, .int .u16 S.n, .int .u16 S.p, .slice a S.args.length z, .int .u16 S.mm]) := load_agg (P := Try.prog) (t := 28) (sz := 6) (off := 0) h5 (by simp only [aggOf, Try.underlying28]) ts28 (by simp)
      refine Loose.old ?_
      simp only [wk6, Nat.reduceBEq, wk1, forall_eq, Nat.reduceAdd, reduceIte, Nat.reduceEqDiff, reduceCtorEq, opLen, Int.reduceLT, Int.reduceEq, opConvert, opIndexAddr, Nat.reduceLT, undef, Nat.reduceLeDiff, Array.toList, bin_cneq, bin_cne, bin_bne, bin_beq, bld76n, bld37z, bld33m, bld45z, bld37c, wk4, wk5, wk0, fxC16ChairLate, e5, e17, l28, vqE, l17]
      refine sentry_ret (S := S) ⟨_, rfl, fa.pz (zz.trans (z2.trans x34.pz))⟩ fun v5 m5 E5 x5 => ?_
      simp only [wk6, Nat.reduceBEq, wk1, forall_eq, Nat.reduceAdd, reduceIte, Nat.reduceEqDiff, reduceCtorEq, opLen, Int.reduceLT, Int.reduceEq, opConvert, opIndexAddr, Nat.reduceLT, undef, Nat.reduceLeDiff, Array.toList, bin_cneq, bin_cne, bin_bne, bin_beq, bld76n, bld37z, bld33m, bld45z, bld37c, wk4, wk5, wk0, fxC16ChairLate]
      refine ⟨x5.2, ?_⟩
      have hme : S.ent.mem.length < 2 ^ 40 := by
        unfold Sm.ent
        split
        · exact (by decide : 0 < 2 ^ 40)
        · split
          · have := (memL_len S.mm).2
            show (memL S.mm).length < _
            omega
          · exact (by decide : 0 < 2 ^ 40)
      refine esame_ret (E3.pz (x4.trans x5).pz) E5 hme fun m6 x6 => ?_
      rw [sameE_self]
      simp only [wk6, Nat.reduceBEq, wk1, forall_eq, Nat.reduceAdd, reduceIte, Nat.reduceEqDiff, reduceCtorEq, opLen, Int.reduceLT, Int.reduceEq, opConvert, opIndexAddr, opLoad, Nat.reduceLT, undef, Nat.reduceLeDiff, Array.toList, bin_cneq, bin_cne, bin_bne, bin_beq, bld76n, bld37z, bld33m, bld45z, bld37c, wk4, wk5, wk0, fxC16ChairLate]
      exact fun b hb => x6.2 b (Nat.lt_of_lt_of_le hb x5.1)
    · have d1 : decide ((M.length : Int) < ((2 * (j + 2) : Nat) : Int)) = false := decide_eq_false (by omega)
      have hmo1 : (LC M S.ent (M.take (j + 2))).most = false := by rw [hmo]; exact decide_eq_false hb
      have hfin : (LC M S.ent (M.take (j + 2))).fin = LC M S.ent (M.take (j + 2)) := by rw [Ch.fin, hmo1, if_neg (by decide)]
      rw [hfin] at H2
      rw [decide_eq_false hb]
      simp only [wk6, Nat.reduceBEq, wk1, forall_eq, Nat.reduceAdd, reduceIte, Nat.reduceEqDiff, reduceCtorEq, opLen, Int.reduceLT, Int.reduceEq, opConvert, opIndexAddr, Nat.reduceLT, undef, Nat.reduceLeDiff, Array.toList, bin_cneq, bin_cne, bin_bne, bin_beq, bld76n, bld37z, bld33m, bld45z, bld37c, wk4, wk5, wk0, fxC16ChairLate, e5, e7, e8, e9, e10, lw2, w2, w3, d1, nb2, e133, e134, e135, w1]
      exact ⟨q7.trans k7.symm, q - 1, by omega, j + 1, r2, by omega, by omega, H2, by omega, zz.trans z2, fr2, rfl, rfl⟩
theorem small_part {H : Type} {m : Mem} {k : Nat} {d : DataW H} {c : List Value} (hi : IsD Try.prog (k + 5) 28 d) (hl : LiesC Try.prog m 28 d c) : ∃ (S : Sm) (va : Value), c = [.int .u8 S.k, .int .u16 S.t, .int .u16 S.n, .int .u16 S.p, va, .int .u16 S.mm] ∧ FRow m va 1 S.args.length (byteCells S.args) := by
  obtain ⟨ps, rfl, hp⟩ := liesC_struct (k := k + 4) Try.underlying28 hi hl
  obtain ⟨p0, pr, c1, c2, rfl, rfl, i1, l1, hp⟩ := partsC_cons hp
  obtain ⟨p1, pr, c3, c4, rfl, rfl, i2, l2, hp⟩ := partsC_cons hp
  obtain ⟨p2, pr, c5, c6, rfl, rfl, i3, l3, hp⟩ := partsC_cons hp
  obtain ⟨rfl, rfl⟩ := partsC_nil hp
  obtain ⟨a, rfl, _⟩ := liesC_int (k := k + 3) Try.underlying5 i1 l1
  obtain ⟨b, rfl, _⟩ := liesC_int (k := k + 3) Try.underlying22 i3 l3
  obtain ⟨qs, rfl, hq⟩ := liesC_struct (k := k + 3) Try.underlying26 i2 l2
  obtain ⟨q0, qr, e1, e2, rfl, rfl, j1, k1, hq⟩ := partsC_cons hq
  obtain ⟨q1, qr, e3, e4, rfl, rfl, j2, k2, hq⟩ := partsC_cons hq
  obtain ⟨q2, qr, e5, e6, rfl, rfl, j3, k3, hq⟩ := partsC_cons hq
  obtain ⟨q3, qr, e7, e8, rfl, rfl, j4, k4, hq⟩ := partsC_cons hq
  obtain ⟨rfl, rfl⟩ := partsC_nil hq
  obtain ⟨t, rfl, _⟩ := liesC_int (k := k + 2) Try.underlying22 j1 k1
  obtain ⟨n, rfl, _⟩ := liesC_int (k := k + 2) Try.underlying22 j2 k2
  obtain ⟨p, rfl, _⟩ := liesC_int (k := k + 2) Try.underlying22 j3 k3
  obtain ⟨va, zs, rfl, _, _, hs⟩ := liesC_nums (k := k + 1) Try.underlying24 Try.underlying5 (by kernel_rfl) j4 k4
  exact ⟨⟨a, t, n, p, zs, b⟩, va, rfl, hs⟩
theorem small_of {H : Type} {m : Mem} {k : Nat} {d : DataW H} {v : Value} (hi : IsD Try.prog (k + 5) 28 d) (hl : Lies Try.prog m 28 d v) : ∃ (S : Sm) (va : Value), v = .agg #[.int .u8 S.k, .int .u16 S.t, .int .u16 S.n, .int .u16 S.p, va, .int .u16 S.mm] ∧ FRow m va 1 S.args.length (byteCells S.args) := by
  obtain ⟨ps, cs, rfl, rfl, hp⟩ := lies_struct (k := k + 4) Try.underlying28 hi hl
  obtain ⟨p0, pr, c1, c2, rfl, rfl, i1, l1, hp⟩ := partsC_cons hp
  obtain ⟨p1, pr, c3, c4, rfl, rfl, i2, l2, hp⟩ := partsC_cons hp
  obtain ⟨p2, pr, c5, c6, rfl, rfl, i3, l3, hp⟩ := partsC_cons hp
  obtain ⟨rfl, rfl⟩ := partsC_nil hp
  obtain ⟨a, rfl, _⟩ := liesC_int (k := k + 3) Try.underlying5 i1 l1
  obtain ⟨b, rfl, _⟩ := liesC_int (k := k + 3) Try.underlying22 i3 l3
  obtain ⟨qs, rfl, hq⟩ := liesC_struct (k := k + 3) Try.underlying26 i2 l2
  obtain ⟨q0, qr, e1, e2, rfl, rfl, j1, k1, hq⟩ := partsC_cons hq
  obtain ⟨q1, qr, e3, e4, rfl, rfl, j2, k2, hq⟩ := partsC_cons hq
  obtain ⟨q2, qr, e5, e6, rfl, rfl, j3, k3, hq⟩ := partsC_cons hq
  obtain ⟨q3, qr, e7, e8, rfl, rfl, j4, k4, hq⟩ := partsC_cons hq
  obtain ⟨rfl, rfl⟩ := partsC_nil hq
  obtain ⟨t, rfl, _⟩ := liesC_int (k := k + 2) Try.underlying22 j1 k1
  obtain ⟨n, rfl, _⟩ := liesC_int (k := k + 2) Try.underlying22 j2 k2
  obtain ⟨p, rfl, _⟩ := liesC_int (k := k + 2) Try.underlying22 j3 k3
  obtain ⟨va, zs, rfl, _, _, hs⟩ := liesC_nums (k := k + 1) Try.underlying24 Try.underlying5 (by kernel_rfl) j4 k4
  exact ⟨⟨a, t, n, p, zs, b⟩, va, rfl, hs⟩
theorem chairLate_true {H : Type} {m : Mem} {xs : List Value} {ds : List (DataW H)} (hd : IsDs Try.prog 8 [22, 23, 28] ds) (hl : LieAll Try.prog m [22, 23, 28] ds xs) : Ret Try.prog 3 xs m fun v _ => v = .bool true := by
  match ds, hd with
  | [d0, d1, d2], hd =>
    obtain ⟨i0, i1, i2, _⟩ := hd
    obtain ⟨v0, _, rfl, l0, v1, _, rfl, l1, v2, _, rfl, l2, rfl⟩ := hl
    obtain ⟨x, rfl, _⟩ := lies_int (k := 7) Try.underlying22 i0 l0
    have one : ∀ d : DataW H, IsD Try.prog 7 49 d → ∀ c, LiesC Try.prog m 49 d c → ∃ x : Act, actR m x c ∧ x.ok := by
      intro d hi c hc
      obtain ⟨ps, rfl, hp⟩ := liesC_struct (k := 6) Try.underlying49 hi hc
      obtain ⟨p0, pr, c1, c2, rfl, rfl, i1, l1, hp⟩ := partsC_cons hp
      obtain ⟨p1, pr, c3, c4, rfl, rfl, i2, l2, hp⟩ := partsC_cons hp
      obtain ⟨p2, pr, c5, c6, rfl, rfl, i3, l3, hp⟩ := partsC_cons hp
      obtain ⟨p3, pr, c7, c8, rfl, rfl, i4, l4, hp⟩ := partsC_cons hp
      obtain ⟨p4, pr, c9, c10, rfl, rfl, i5, l5, hp⟩ := partsC_cons hp
      obtain ⟨p5, pr, c11, c12, rfl, rfl, i6, l6, hp⟩ := partsC_cons hp
      obtain ⟨rfl, rfl⟩ := partsC_nil hp
      obtain ⟨x0, rfl, w0⟩ := liesC_int (k := 5) Try.underlying5 i1 l1
      obtain ⟨x1, rfl, w1⟩ := liesC_int (k := 5) Try.underlying5 i2 l2
      obtain ⟨x2, rfl, w2⟩ := liesC_int (k := 5) Try.underlying5 i3 l3
      obtain ⟨x3, rfl, w3⟩ := liesC_int (k := 5) Try.underlying5 i4 l4
      obtain ⟨x4, rfl⟩ := liesC_bool (k := 5) Try.underlying4 i5 l5
      obtain ⟨S, va, rfl, hs⟩ := small_part (k := 1) i6 l6
      exact ⟨⟨x0, x1, x2, x3, x4, S⟩, ⟨va, rfl, hs⟩, wf_u8 w0, wf_u8 w1, wf_u8 w2, wf_u8 w3⟩
    obtain ⟨es, cells, hw, hR, hF⟩ := lies_row (k := 7) (sz := 11) Try.underlying23 (by kernel_rfl) (fun d hi cs hc => by
      obtain ⟨x, hx, _⟩ := one d hi cs hc
      exact actR_size x cs hx) i1 l1
    have : ∀ {es : List (DataW H)} {cells : List Value}, RowsOf (ElD Try.prog m 7 49) es cells → ∃ l : List Act, l.length = es.length ∧ RowsOf (actR m) l cells ∧ ∀ x ∈ l, x.ok := by
      intro es
      induction es with
      | nil => intro cells h; exact ⟨[], rfl, h, by simp⟩
      | cons d r ih =>
        rintro cells ⟨c1, c2, rfl, hx, hr⟩
        obtain ⟨l, h1, h2, h3⟩ := ih hr
        obtain ⟨x, h4, h5⟩ := one d hx.1 _ hx.2
        refine ⟨x :: l, by simp [h1], ⟨c1, c2, rfl, h4, h2⟩, fun y hy => ?_⟩
        rcases List.mem_cons.1 hy with rfl | hy
        · exact h5
        · exact h3 y hy
    obtain ⟨l, h1, h2, h3⟩ := this hR
    obtain ⟨S, va, rfl, hs⟩ := small_of (k := 3) i2 l2
    exact late_ret (by rw [h1]; exact hF) h2 h3 ⟨va, rfl, hs⟩
end Go.Proofs.Ytgecmpgpinihhaa
