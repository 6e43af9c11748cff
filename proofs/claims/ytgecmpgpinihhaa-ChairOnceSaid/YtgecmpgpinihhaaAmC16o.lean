/- A text of the abstract machine. -/



/- ChairOnce comes to true on all arguments. -/
import Derived.Test.YtgecmpgpinihhaaAmC16u
import Derived.Test.YtgecmpgpinihhaaAmC16ChairLate
import Derived.Test.YtgecmpgpinihhaaAmBun
set_option linter.unusedSimpArgs false
set_option linter.unusedVariables false
set_option maxRecDepth 100000
set_option maxHeartbeats 4000000
namespace Go.Proofs.Ytgecmpgpinihhaa
open Go Go.AM Go.AM.Crc Go.AM.Wire
theorem fxC16o : type_of% (And.intro (And.intro (And.intro (And.intro (And.intro (And.intro (And.intro @Try.underlying3 (And.intro @Try.underlying4 @Try.underlying5)) (And.intro @Try.underlying9 (And.intro @Try.underlying30 @Try.underlying33))) (And.intro (And.intro @Try.underlying103 (And.intro @Try.underlying78 @Try.underlying22)) (And.intro @Try.underlying26 (And.intro @Try.underlying28 @Try.underlying41)))) (And.intro (And.intro (And.intro @Try.underlying43 (And.intro @Try.underlying45 @Try.underlying24)) (And.intro @Try.underlying39 (And.intro @Try.underlying23 @Try.underlying34))) (And.intro (And.intro @Try.underlying37 (And.intro @Try.underlying49 @Try.underlying51)) (And.intro (And.intro @Try.underlying57 @Try.underlying73) (And.intro @Try.underlying76 @Try.underlying55))))) (And.intro (And.intro (And.intro (And.intro @Try.underlying56 (And.intro @Try.underlying58 @Try.underlying59)) (And.intro @Try.underlying61 (And.intro @Try.underlying62 @Try.underlying64))) (And.intro (And.intro @Try.underlying68 (And.intro @Try.underlying69 @ts3)) (And.intro @ts4 (And.intro @ts5 @ts9)))) (And.intro (And.intro (And.intro @ts30 (And.intro @ts33 @ts103)) (And.intro @ts78 (And.intro @ts22 @ts26))) (And.intro (And.intro @ts28 (And.intro @ts41 @ts43)) (And.intro (And.intro @ts45 @ts24) (And.intro @ts39 @ts23)))))) (And.intro (And.intro (And.intro (And.intro (And.intro @ts34 (And.intro @ts37 @ts49)) (And.intro @ts51 (And.intro @ts57 @ts73))) (And.intro (And.intro @ts76 (And.intro @ts55 @ts56)) (And.intro @ts58 (And.intro @ts59 @ts61)))) (And.intro (And.intro (And.intro @ts62 (And.intro @ts64 @ts68)) (And.intro @ts69 (And.intro @tz3 @tz4))) (And.intro (And.intro @tz5 (And.intro @tz9 @tz30)) (And.intro (And.intro @tz33 @tz103) (And.intro @tz78 @tz22))))) (And.intro (And.intro (And.intro (And.intro @tz26 (And.intro @tz28 @tz41)) (And.intro @tz43 (And.intro @tz45 @tz24))) (And.intro (And.intro @tz39 (And.intro @tz23 @tz34)) (And.intro (And.intro @tz37 @tz49) (And.intro @tz51 @tz57)))) (And.intro (And.intro (And.intro @tz73 (And.intro @tz76 @tz55)) (And.intro @tz56 (And.intro @tz58 @tz59))) (And.intro (And.intro @tz61 (And.intro @tz62 @tz64)) (And.intro (And.intro @tz68 @tz69) (And.intro @tb3 @tb4))))))) (And.intro (And.intro (And.intro (And.intro (And.intro (And.intro @tb5 (And.intro @tb9 @tb30)) (And.intro @tb33 (And.intro @tb103 @tb78))) (And.intro (And.intro @tb22 (And.intro @tb26 @tb28)) (And.intro @tb41 (And.intro @tb43 @tb45)))) (And.intro (And.intro (And.intro @tb24 (And.intro @tb39 @tb23)) (And.intro @tb34 (And.intro @tb37 @tb49))) (And.intro (And.intro @tb51 (And.intro @tb57 @tb73)) (And.intro (And.intro @tb76 @tb55) (And.intro @tb56 @tb58))))) (And.intro (And.intro (And.intro (And.intro @tb59 (And.intro @tb61 @tb62)) (And.intro @tb64 (And.intro @tb68 @tb69))) (And.intro (And.intro @fr4 (And.intro @fr5 @fr6)) (And.intro @fr7 (And.intro @fr8 @fr9)))) (And.intro (And.intro (And.intro @fr10 (And.intro @fr11 @fr12)) (And.intro @fr13 (And.intro @fr14 @fr15))) (And.intro (And.intro @fr16 (And.intro @fr17 @fr18)) (And.intro (And.intro @bz33 @al33) (And.intro @fa33_0 @fa33_1)))))) (And.intro (And.intro (And.intro (And.intro (And.intro @bz28 (And.intro @bz26 @bz43)) (And.intro @bz45 (And.intro @al43 @al45))) (And.intro (And.intro @fa45_0 (And.intro @fa45_1 @fa45_2)) (And.intro @fa43_0 (And.intro @fa43_1 @fa43_2)))) (And.intro (And.intro (And.intro @fa28_0 (And.intro @fa28_1 @fa28_2)) (And.intro @fa26_0 (And.intro @fa26_1 @fa26_2))) (And.intro (And.intro @fa26_3 (And.intro @bz37 @bz76)) (And.intro (And.intro @al37 @fa37_0) (And.intro @fa37_1 @fa76_0))))) (And.intro (And.intro (And.intro (And.intro @fa76_1 (And.intro @fa76_2 @fa76_3)) (And.intro @fa76_4 (And.intro @fa76_5 @fa76_6))) (And.intro (And.intro @fa76_7 (And.intro @fa76_8 @oneOf_two)) (And.intro (And.intro @al28 @bz61) (And.intro @al58 @al59)))) (And.intro (And.intro (And.intro @al64 (And.intro @al68 @fa64_0)) (And.intro @fa64_1 (And.intro @fa64_2 @fa64_3))) (And.intro (And.intro @fa68_0 (And.intro @fa68_1 @fa68_2)) (And.intro (And.intro @fa68_3 @fa68_4) (And.intro @fa68_5 @fa68_6)))))))) := (And.intro (And.intro (And.intro (And.intro (And.intro (And.intro (And.intro @Try.underlying3 (And.intro @Try.underlying4 @Try.underlying5)) (And.intro @Try.underlying9 (And.intro @Try.underlying30 @Try.underlying33))) (And.intro (And.intro @Try.underlying103 (And.intro @Try.underlying78 @Try.underlying22)) (And.intro @Try.underlying26 (And.intro @Try.underlying28 @Try.underlying41)))) (And.intro (And.intro (And.intro @Try.underlying43 (And.intro @Try.underlying45 @Try.underlying24)) (And.intro @Try.underlying39 (And.intro @Try.underlying23 @Try.underlying34))) (And.intro (And.intro @Try.underlying37 (And.intro @Try.underlying49 @Try.underlying51)) (And.intro (And.intro @Try.underlying57 @Try.underlying73) (And.intro @Try.underlying76 @Try.underlying55))))) (And.intro (And.intro (And.intro (And.intro @Try.underlying56 (And.intro @Try.underlying58 @Try.underlying59)) (And.intro @Try.underlying61 (And.intro @Try.underlying62 @Try.underlying64))) (And.intro (And.intro @Try.underlying68 (And.intro @Try.underlying69 @ts3)) (And.intro @ts4 (And.intro @ts5 @ts9)))) (And.intro (And.intro (And.intro @ts30 (And.intro @ts33 @ts103)) (And.intro @ts78 (And.intro @ts22 @ts26))) (And.intro (And.intro @ts28 (And.intro @ts41 @ts43)) (And.intro (And.intro @ts45 @ts24) (And.intro @ts39 @ts23)))))) (And.intro (And.intro (And.intro (And.intro (And.intro @ts34 (And.intro @ts37 @ts49)) (And.intro @ts51 (And.intro @ts57 @ts73))) (And.intro (And.intro @ts76 (And.intro @ts55 @ts56)) (And.intro @ts58 (And.intro @ts59 @ts61)))) (And.intro (And.intro (And.intro @ts62 (And.intro @ts64 @ts68)) (And.intro @ts69 (And.intro @tz3 @tz4))) (And.intro (And.intro @tz5 (And.intro @tz9 @tz30)) (And.intro (And.intro @tz33 @tz103) (And.intro @tz78 @tz22))))) (And.intro (And.intro (And.intro (And.intro @tz26 (And.intro @tz28 @tz41)) (And.intro @tz43 (And.intro @tz45 @tz24))) (And.intro (And.intro @tz39 (And.intro @tz23 @tz34)) (And.intro (And.intro @tz37 @tz49) (And.intro @tz51 @tz57)))) (And.intro (And.intro (And.intro @tz73 (And.intro @tz76 @tz55)) (And.intro @tz56 (And.intro @tz58 @tz59))) (And.intro (And.intro @tz61 (And.intro @tz62 @tz64)) (And.intro (And.intro @tz68 @tz69) (And.intro @tb3 @tb4))))))) (And.intro (And.intro (And.intro (And.intro (And.intro (And.intro @tb5 (And.intro @tb9 @tb30)) (And.intro @tb33 (And.intro @tb103 @tb78))) (And.intro (And.intro @tb22 (And.intro @tb26 @tb28)) (And.intro @tb41 (And.intro @tb43 @tb45)))) (And.intro (And.intro (And.intro @tb24 (And.intro @tb39 @tb23)) (And.intro @tb34 (And.intro @tb37 @tb49))) (And.intro (And.intro @tb51 (And.intro @tb57 @tb73)) (And.intro (And.intro @tb76 @tb55) (And.intro @tb56 @tb58))))) (And.intro (And.intro (And.intro (And.intro @tb59 (And.intro @tb61 @tb62)) (And.intro @tb64 (And.intro @tb68 @tb69))) (And.intro (And.intro @fr4 (And.intro @fr5 @fr6)) (And.intro @fr7 (And.intro @fr8 @fr9)))) (And.intro (And.intro (And.intro @fr10 (And.intro @fr11 @fr12)) (And.intro @fr13 (And.intro @fr14 @fr15))) (And.intro (And.intro @fr16 (And.intro @fr17 @fr18)) (And.intro (And.intro @bz33 @al33) (And.intro @fa33_0 @fa33_1)))))) (And.intro (And.intro (And.intro (And.intro (And.intro @bz28 (And.intro @bz26 @bz43)) (And.intro @bz45 (And.intro @al43 @al45))) (And.intro (And.intro @fa45_0 (And.intro @fa45_1 @fa45_2)) (And.intro @fa43_0 (And.intro @fa43_1 @fa43_2)))) (And.intro (And.intro (And.intro @fa28_0 (And.intro @fa28_1 @fa28_2)) (And.intro @fa26_0 (And.intro @fa26_1 @fa26_2))) (And.intro (And.intro @fa26_3 (And.intro @bz37 @bz76)) (And.intro (And.intro @al37 @fa37_0) (And.intro @fa37_1 @fa76_0))))) (And.intro (And.intro (And.intro (And.intro @fa76_1 (And.intro @fa76_2 @fa76_3)) (And.intro @fa76_4 (And.intro @fa76_5 @fa76_6))) (And.intro (And.intro @fa76_7 (And.intro @fa76_8 @oneOf_two)) (And.intro (And.intro @al28 @bz61) (And.intro @al58 @al59)))) (And.intro (And.intro (And.intro @al64 (And.intro @al68 @fa64_0)) (And.intro @fa64_1 (And.intro @fa64_2 @fa64_3))) (And.intro (And.intro @fa68_0 (And.intro @fa68_1 @fa68_2)) (And.intro (And.intro @fa68_3 @fa68_4) (And.intro @fa68_5 @fa68_6))))))))
theorem bld61 : opBuild Try.prog 61 [] = some (.agg #[.int .i64 0, .int .i64 0, .bool false, .int .i64 0, .int .i64 0, .int .u8 0, .int .u16 0, .int .u16 0, .int .i64 0, .slice none 0 0, .slice none 0 0]) := by kernel_rfl
/-- A move, as it is meant. -/
structure Mv where
  n : Int
  l : Int
  o : Bool
  a : Bool
def mvR (a : Mv) (c : List Value) : Prop := c = [.int .u8 a.n, .int .u8 a.l, .bool a.o, .bool a.a]
def smR (m : Mem) (S : Sm) (c : List Value) : Prop := ∃ va, c = [.int .u8 S.k, .int .u16 S.t, .int .u16 S.n, .int .u16 S.p, va, .int .u16 S.mm] ∧ FRow m va 1 S.args.length (byteCells S.args)
theorem mvR_size (a : Mv) (c : List Value) (h : mvR a c) : c.length = 4 := by rw [h]; rfl
theorem smR_size {m : Mem} (S : Sm) (c : List Value) (h : smR m S c) : c.length = 6 := by
  obtain ⟨va, rfl, _⟩ := h
  rfl
theorem smR_pz {m m' : Mem} (z : Pz m m') (S : Sm) (c : List Value) (h : smR m S c) : smR m' S c := by
  obtain ⟨va, rfl, h⟩ := h
  exact ⟨va, rfl, h.pz z⟩
theorem ent_at {m : Mem} {E : List Sm} {ec : List Value} (hE : RowsOf (smR m) E ec) (h6 : E.length = 6) {j : Nat} (hj : j < 6) : ∃ va, opIndex Try.prog 55 (.agg ec.toArray) (.int .i64 (j : Int)) = some (.agg #[.int .u8 (E[j]'(by omega)).k, .int .u16 (E[j]'(by omega)).t, .int .u16 (E[j]'(by omega)).n, .int .u16 (E[j]'(by omega)).p, va, .int .u16 (E[j]'(by omega)).mm]) ∧ FRow m va 1 (E[j]'(by omega)).args.length (byteCells (E[j]'(by omega)).args) := by
  obtain ⟨va, h1, h2⟩ := hE.at smR_size (j := j) (by omega)
  refine ⟨va, ?_, h2⟩
  have hl := hE.length smR_size
  have ag : aggOf Try.prog 28 = some true := by simp only [aggOf, Try.underlying28]
  have c1 : (0 : Int) ≤ j ∧ (j : Int) < (6 : Nat) := by omega
  simp only [opIndex, Try.underlying55, ts28, c1, and_self, if_true, Int.toNat_natCast, partOf, ag]
  rw [List.extract_toArray, List.extract_eq_take_drop, Nat.add_sub_cancel_left, h1]
theorem ix55 (b : Nat) {k : Int} (hk : 0 ≤ k ∧ k < 6) : opIndexAddr Try.prog 55 (ptr b) (.int .i64 k) = some (.pointer (some ⟨b, k.toNat * 6, none⟩)) := by
  have h : 0 ≤ k ∧ k < ((6 : Nat) : Int) := hk
  have s : tsize Try.prog 28 = some 6 := ts28
  simp only [opIndexAddr, Try.underlying55, s, h, and_self, if_true, Nat.zero_add]
theorem ent_small (S : Sm) : S.ent.mem.length ≤ 16 := by
  rw [Sm.ent]
  by_cases h1 : S.k.tmod 3 = 1
  · rw [if_pos h1]; exact Nat.zero_le _
  · rw [if_neg h1]
    by_cases h2 : S.k.tmod 3 = 2
    · rw [if_pos h2]; exact (memL_len _).2
    · rw [if_neg h2]; exact Nat.zero_le _
theorem once_ret {m : Mem} {x : Int} {v : Value} {l : List Mv} {cs : List Value} {E : List Sm} {ec : List Value} (hv : FRow m v 4 l.length cs) (hR : RowsOf mvR l cs) (hok : ∀ a ∈ l, (0 ≤ a.n ∧ a.n < 256) ∧ 0 ≤ a.l ∧ a.l < 256) (hE : RowsOf (smR m) E ec) (h6 : E.length = 6) : Ret Try.prog 4 [.int .u16 x, .agg ec.toArray, v] m fun v _ => v = .bool true := by
  refine ret_wp [(29, [4, 12]), (30, [2, 3])] Try.func4 rfl (by decide) (by kernel_rfl) ?_
  simp only [wk6, Nat.reduceBEq, wk1, forall_eq, Nat.reduceAdd, reduceIte, Nat.reduceEqDiff, reduceCtorEq, opLen, Int.reduceLT, Int.reduceEq, opConvert, opIndexAddr, opLoad, Nat.reduceLT, undef, Nat.reduceLeDiff, Array.toList, bin_cneq, bin_cne, bin_bne, bin_beq, bld76n, bld37z, bld33m, bld45z, bld37c, bld61, ix58, ix59, wk4, wk5, wk0, fxC16o]
  obtain ⟨b4, hb4⟩ : ∃ b, b = m.next := ⟨_, rfl⟩
  obtain ⟨m0, hm0⟩ : ∃ m0, m0 = m.new (.cells ec 55 true) := ⟨_, rfl⟩
  have g4 : m0.get b4 = some (.cells ec 55 true) := by rw [hm0, hb4, new_get]
  have x0 : Ext m m0 := by rw [hm0]; exact Ext.new _ _
  have l4 : b4 < m0.next := by rw [hm0, hb4]; exact Nat.lt_succ_self _
  rw [← hm0, ← hb4]
  clear hm0
  refine awake_ret fun m1 x1 => ?_
  replace g4 := (x1.2 b4 l4).trans g4
  replace l4 := Nat.lt_of_lt_of_le l4 x1.1
  have z01 := (x0.trans x1).pz
  replace hv := hv.pz z01
  replace hE := hE.mono (smR_pz z01)
  clear x0 x1 z01
  have lv := hv.len (P := Try.prog) Try.underlying56
  by_cases h300 : (300 : Int) < l.length
  · simp only [wk6, Nat.reduceBEq, wk1, forall_eq, Nat.reduceAdd, reduceIte, Nat.reduceEqDiff, reduceCtorEq, Int.reduceLT, Int.reduceEq, opConvert, opIndexAddr, opLoad, Nat.reduceLT, undef, Nat.reduceLeDiff, Array.toList, bin_cneq, bin_cne, bin_bne, bin_beq, bld76n, bld37z, bld33m, bld45z, bld37c, bld61, ix58, ix59, wk4, wk5, wk0, fxC16o, lv, h300]
  have hel := hE.length smR_size
  have le : opLoad Try.prog 55 (.pointer (some ⟨b4, 0, none⟩)) m1 = some (.agg ec.toArray) := by
    have := load_agg (P := Try.prog) (t := 55) (sz := 36) (off := 0) g4 (by simp only [aggOf, Try.underlying55]) (by kernel_rfl) (by omega)
    rw [this, List.drop_zero, List.take_of_length_le (by omega)]
  simp only [wk6, Nat.reduceBEq, wk1, forall_eq, Nat.reduceAdd, reduceIte, Nat.reduceEqDiff, reduceCtorEq, Int.reduceLT, Int.reduceEq, opConvert, opIndexAddr, Nat.reduceLT, undef, Nat.reduceLeDiff, Array.toList, bin_cneq, bin_cne, bin_bne, bin_beq, bld76n, bld37z, bld33m, bld45z, bld37c, bld61, ix58, ix59, wk4, wk5, wk0, fxC16o, lv, h300, le]
  refine loop_wp [] (by kernel_rfl) (fun q env m' => ∃ (k : Nat), q + k = 6 ∧ env 41 = some (.int .i64 (k : Int)) ∧ env 40 = some (.agg ec.toArray) ∧ env 0 = some (.int .u16 x) ∧ env 2 = some v ∧ env 4 = some (.pointer (some ⟨b4, 0, none⟩)) ∧ Ext m1 m') ?_ 6
    ⟨0, rfl, rfl, rfl, rfl, rfl, rfl, Ext.refl _⟩
  rintro q env m' ⟨k, hq, e41, e40, e0, e2, e4, xm⟩
  simp only [wk6, Nat.reduceBEq, wk1, forall_eq, Nat.reduceAdd, reduceIte, Nat.reduceEqDiff, reduceCtorEq, opLen, Int.reduceLT, Int.reduceEq, opConvert, opIndexAddr, opLoad, Nat.reduceLT, undef, Nat.reduceLeDiff, Array.toList, bin_cneq, bin_cne, bin_bne, bin_beq, bld76n, bld37z, bld33m, bld45z, bld37c, bld61, ix58, ix59, wk4, wk5, wk0, fxC16o, e41]
  refine cond_by (fun hlt => ?_) (fun hge => ?_)
  · obtain ⟨va, ha, fa⟩ := ent_at hE h6 (j := k) (by omega)
    obtain ⟨a, z, rfl⟩ := fa.is
    obtain ⟨n, hn⟩ : ∃ n : Nat, n = (E[k]'(by omega)).args.length := ⟨_, rfl⟩
    rw [← hn] at ha
    have ll : opLen Try.prog (some 24) (.slice a n z) = some (.int .i64 n) := by simp only [opLen, Try.underlying24]
    by_cases h50 : (50 : Int) < n
    · simp only [wk6, Nat.reduceBEq, wk1, forall_eq, Nat.reduceAdd, reduceIte, Nat.reduceEqDiff, reduceCtorEq, Int.reduceLT, Int.reduceEq, opConvert, opIndexAddr, opLoad, Nat.reduceLT, undef, Nat.reduceLeDiff, Array.toList, bin_cneq, bin_cne, bin_bne, bin_beq, bld76n, bld37z, bld33m, bld45z, bld37c, bld61, ix58, ix59, wk4, wk5, wk0, fxC16o, ll, e41, e40, e0, e2, e4, ha, h50]
    · simp only [wk6, Nat.reduceBEq, wk1, forall_eq, Nat.reduceAdd, reduceIte, Nat.reduceEqDiff, reduceCtorEq, Int.reduceLT, Int.reduceEq, opConvert, opIndexAddr, opLoad, Nat.reduceLT, undef, Nat.reduceLeDiff, Array.toList, bin_cneq, bin_cne, bin_bne, bin_beq, bld76n, bld37z, bld33m, bld45z, bld37c, bld61, ix58, ix59, wk4, wk5, wk0, fxC16o, ll, e41, e40, e0, e2, e4, ha, h50]
      refine ⟨q - 1, by omega, k + 1, by omega, ?_, (xm.trans (Ext.new _ _)).set xm.1⟩
      rw [wrap_i64 (by omega) (by omega)]; rfl
  · have hk : k = 6 := by omega
    subst hk
    simp only [wk6, Nat.reduceBEq, wk1, forall_eq, Nat.reduceAdd, reduceIte, Nat.reduceEqDiff, reduceCtorEq, opLen, Int.reduceLT, Int.reduceEq, opConvert, opIndexAddr, opLoad, Nat.reduceLT, undef, Nat.reduceLeDiff, Array.toList, bin_cneq, bin_cne, bin_bne, bin_beq, bld76n, bld37z, bld33m, bld45z, bld37c, bld61, ix58, ix59, wk4, wk5, wk0, fxC16o, e0, e2, e4]
    obtain ⟨y, hy⟩ : ∃ y, y = bits .and .u16 x 63 := ⟨_, rfl⟩
    have hyb := and63 x
    rw [← hy] at hyb ⊢
    refine memf_ret fun m2 w x2 fw => ?_
    obtain ⟨M, hM⟩ : ∃ M, M = memL y := ⟨_, rfl⟩
    have hMs := memL_small hyb
    have hMl := memL_len y
    have hMn := memL_nodup y
    rw [← hM] at fw hMs hMl hMn
    obtain ⟨wa, wz, rfl⟩ := fw.is
    simp only [wk6, Nat.reduceBEq, wk1, forall_eq, Nat.reduceAdd, reduceIte, Nat.reduceEqDiff, reduceCtorEq, opLen, Int.reduceLT, Int.reduceEq, opConvert, opIndexAddr, opLoad, Nat.reduceLT, undef, Nat.reduceLeDiff, Array.toList, bin_cneq, bin_cne, bin_bne, bin_beq, bld76n, bld37z, bld33m, bld45z, bld37c, bld61, ix58, ix59, wk4, wk5, wk0, fxC16o]
    obtain ⟨b9, hb9⟩ : ∃ b, b = m2.next := ⟨_, rfl⟩
    obtain ⟨bV, hbV⟩ : ∃ b, b = m2.next + 1 := ⟨_, rfl⟩
    obtain ⟨bC, hbC⟩ : ∃ b, b = m2.next + 2 := ⟨_, rfl⟩
    obtain ⟨m3, hm3⟩ : ∃ m3, m3 = ((((m2.new (.cells [.int .i64 0, .slice none 0 0] 33 true)).set m2.next (.cells [.int .i64 0, .slice wa M.length wz] 33 true)).new (.cells [.pointer none, .pointer none, .pointer none, .pointer none, .pointer none, .pointer none] 58 true)).new (.cells [.pointer none, .pointer none, .pointer none, .pointer none, .pointer none, .pointer none] 59 true)) := ⟨_, rfl⟩
    have x3 : Ext m2 m3 := by rw [hm3]; exact (((Ext.new _ _).set (Nat.le_refl _)).trans (Ext.new _ _)).trans (Ext.new _ _)
    have n3 : m3.next = m2.next + 3 := by rw [hm3]; rfl
    have g9 : m3.get b9 = some (.cells [.int .i64 0, .slice wa M.length wz] 33 true) := by rw [hm3, hb9, new_get_ne _ (by simp only [new_next, set_next]; omega), new_get_ne _ (by simp only [new_next, set_next]; omega), set_get]
    have gV : m3.get bV = some (.cells [.pointer none, .pointer none, .pointer none, .pointer none, .pointer none, .pointer none] 58 true) := by rw [hm3, hbV, new_get_ne _ (by simp only [new_next, set_next]; omega)]; exact new_get (Mem.set (Mem.new m2 _) _ _) _
    have gC : m3.get bC = some (.cells [.pointer none, .pointer none, .pointer none, .pointer none, .pointer none, .pointer none] 59 true) := by rw [hm3, hbC]; exact new_get (Mem.new (Mem.set (Mem.new m2 _) _ _) _) _
    rw [← hm3, ← hbC, ← hbV, ← hb9]
    clear hm3
    have xx := (xm.trans x2).trans x3
    replace g4 := (xx.2 b4 l4).trans g4
    have l49 : b4 < b9 := by have := xm.1; have := x2.1; omega
    replace hv := hv.pz xx.pz
    replace hE := hE.mono (smR_pz xx.pz)
    replace fw := fw.pz x3.pz
    clear xx xm x2 x3 le lv
    obtain ⟨ow0, how⟩ : ∃ f, f = tag (tag (tag (tag (fun _ => 0) b4 23) b9 24) bV 20) bC 21 := ⟨_, rfl⟩
    have o1 : ow0 b4 = 23 := by rw [how, tag_ne _ _ (by omega), tag_ne _ _ (by omega), tag_ne _ _ (by omega), tag_at]
    have o2 : ow0 b9 = 24 := by rw [how, tag_ne _ _ (by omega), tag_ne _ _ (by omega), tag_at]
    have o3 : ow0 bV = 20 := by rw [how, tag_ne _ _ (by omega), tag_at]
    have o4 : ow0 bC = 21 := by rw [how, tag_at]
    have I0 : Ini m3 ow0 (fun _ => 0) (fun _ => 0) bV bC M 0 := ⟨fun n a b => absurd b (by simp; omega), fun n a b => absurd b (by simp; omega), gV, gC, by omega, by omega, fun n a b => absurd b (by simp; omega), fun n a b => absurd b (by simp; omega), o3, o4⟩
    clear how
    refine loop_wp [] (by kernel_rfl) (fun q env m' => ∃ (k : Nat) (ow : Nat → Nat) (pv pc : Int → Nat), q + k = 6 ∧ env 54 = some (.int .i64 (k : Int)) ∧ env 2 = some v ∧ env 4 = some (ptr b4) ∧ env 9 = some (ptr b9) ∧ env 10 = some (ptr bV) ∧ env 11 = some (ptr bC) ∧ Ini m' ow pv pc bV bC M k ∧ ow b4 = 23 ∧ ow b9 = 24 ∧ m'.get b4 = some (.cells ec 55 true) ∧ m'.get b9 = some (.cells [.int .i64 0, .slice wa M.length wz] 33 true) ∧ Pz m3 m') ?_ 6
      ⟨0, ow0, fun _ => 0, fun _ => 0, rfl, rfl, by simp only [e2, put_get]; rfl, by simp only [e4, put_get]; rfl, rfl, rfl, rfl, I0, o1, o2, g4, g9, Pz.refl _⟩
    clear hq e41 e40 e0 e2 e4 hge
    rintro q env m' ⟨k, ow, pv, pc, hq, e54, e2, e4, e9, e10, e11, I, o1, o2, g4, g9, z3⟩
    simp only [wk6, Nat.reduceBEq, wk1, forall_eq, Nat.reduceAdd, reduceIte, Nat.reduceEqDiff, reduceCtorEq, opLen, Int.reduceLT, Int.reduceEq, opConvert, opIndexAddr, opLoad, Nat.reduceLT, undef, Nat.reduceLeDiff, Array.toList, bin_cneq, bin_cne, bin_bne, bin_beq, bld76n, bld37z, bld33m, bld45z, bld37c, bld61, ix58, ix59, wk4, wk5, wk0, fxC16o, e54]
    refine cond_by (fun hlt => ?_) (fun hge => ?_)
    · have n3' := z3.1
      have lv9 : ¬ b9 = m'.next := by omega
      simp only [wk6, Nat.reduceBEq, wk1, forall_eq, Nat.reduceAdd, reduceIte, Nat.reduceEqDiff, reduceCtorEq, opLen, Int.reduceLT, Int.reduceEq, opConvert, opIndexAddr, opLoad, Nat.reduceLT, undef, Nat.reduceLeDiff, Array.toList, bin_cneq, bin_cne, bin_bne, bin_beq, bld76n, bld37z, bld33m, bld45z, bld37c, bld61, ix58, ix59, wk4, wk5, wk0, fxC16o, e54, e2, e4, e9, e10, e11, g9, lv9]
      obtain ⟨i, hi⟩ : ∃ i, i = m'.next := ⟨_, rfl⟩
      obtain ⟨m4, hm4⟩ : ∃ m4, m4 = m'.new (.cells (voC Vo.zero (.slice none 0 0) (.slice none 0 0)) 61 true) := ⟨_, rfl⟩
      have x4 : Ext m' m4 := by rw [hm4]; exact Ext.new _ _
      have vi : VoAt m4 i Vo.zero := ⟨_, _, by rw [hm4, hi]; exact new_get _ _, by rw [hm4, hi]; exact Nat.lt_succ_self _, FRow.nil, FRow.nil⟩
      have n4 : m4.next = m'.next + 1 := by rw [hm4]; rfl
      dsimp only [voC, Vo.zero, zE] at hm4
      rw [← hm4, ← hi]
      refine new_ret (fw.pz (z3.trans x4.pz)) (by omega) fun m5 j H5 hj x5 => ?_
      have gv5 := (x5.2 bV (by omega)).trans ((x4.2 bV (by omega)).trans I.bv)
      have gc5 := (x5.2 bC (by omega)).trans ((x4.2 bC (by omega)).trans I.bc)
      have hk6 : k < 6 := by omega
      have kb : 0 ≤ (k : Int) ∧ (k : Int) < 6 := by omega
      have iv := ix58 bV kb
      have ic := ix59 bC kb
      rw [Int.toNat_natCast] at iv ic
      have hvc : ¬ bC = bV := by omega
      have s1 : opStore Try.prog 57 (.pointer (some ⟨bV, k, none⟩)) (ptr i) m5 = some (m5.set bV (.cells (part6 (upd pv k i) ((k : Int) + 1)) 58 true)) := by
        rw [← part6_set pv hk6 i]
        exact store_one gv5 ts57 (show okCell (ptr i) = true from rfl) (by simp; omega)
      have s2 : opStore Try.prog 34 (.pointer (some ⟨bC, k, none⟩)) (ptr j) (m5.set bV (.cells (part6 (upd pv k i) ((k : Int) + 1)) 58 true)) = some ((m5.set bV (.cells (part6 (upd pv k i) ((k : Int) + 1)) 58 true)).set bC (.cells (part6 (upd pc k j) ((k : Int) + 1)) 59 true)) := by
        rw [← part6_set pc hk6 j]
        exact store_one ((set_get_ne _ hvc).trans gc5) ts34 (show okCell (ptr j) = true from rfl) (by simp; omega)
      simp only [wk6, Nat.reduceBEq, wk1, forall_eq, evOp, evParts, okVal, ev1, evs, evOpt, envOf, List.lookup_nil, List.size_toArray, List.length_cons, List.length_nil, List.range, List.range.loop, Nat.zero_add, Nat.reduceAdd, Bool.not_false, Bool.not_true, Bool.true_or, if_true, if_false, reduceIte, Nat.reduceEqDiff, reduceCtorEq, List.getElem?_toArray, List.getElem?_cons_zero, List.getElem?_cons_succ, guardOf, constOk, constCell, evBuiltin, opLen, List.head?_cons, foldV, min2V, max2V, Int.reduceLT, Int.reduceEq, Kend, resOf, Bool.false_eq_true, Bool.true_eq_false, IntKind.signed, IntKind.max, opConvert, opLoad, aggOf, Option.some.injEq, Value.bool.injEq, exists_eq_left', true_and, forall_const, decide_eq_true_eq, decide_eq_false_iff_not, Int.natCast_nonneg, and_self, Int.toNat_natCast, Nat.mul_one, List.append_nil, beq_self_eq_true, Nat.lt_irrefl, Nat.zero_lt_succ, Nat.reduceLT, Option.bind_some, undef, opBox, Value.cells, setCells, Nat.reduceLeDiff, Array.toList, bin_cneq, bin_cne, bin_bne, bin_beq, bld76n, bld37z, bld33m, bld45z, bld37c, bld61, ix58, ix59, wk5, wk0, fxC16o, e54, e2, e4, e9, e10, e11, iv, ic, s1, s2]
      have n5 := x5.1
      have h4C : ¬ b4 = bC := by omega
      have h4V : ¬ b4 = bV := by omega
      have h9C : ¬ b9 = bC := by omega
      have h9V : ¬ b9 = bV := by omega
      have x45 := x4.trans x5
      have z5 : Pz m' ((m5.set bV (.cells (part6 (upd pv k i) ((k : Int) + 1)) 58 true)).set bC (.cells (part6 (upd pc k j) ((k : Int) + 1)) 59 true)) :=
        x45.pz.trans ((Pz.set gv5 _).trans (Pz.set ((set_get_ne _ hvc).trans gc5) _))
      have fr : ∀ q, q < m'.next → q ≠ bV → q ≠ bC → ((m5.set bV (.cells (part6 (upd pv k i) ((k : Int) + 1)) 58 true)).set bC (.cells (part6 (upd pc k j) ((k : Int) + 1)) 59 true)).get q = m'.get q := fun q h1 h2 h3 => by rw [set_get_ne _ h3, set_get_ne _ h2, x45.2 q h1]
      have zs : Pz m5 ((m5.set bV (.cells (part6 (upd pv k i) ((k : Int) + 1)) 58 true)).set bC (.cells (part6 (upd pc k j) ((k : Int) + 1)) 59 true)) := (Pz.set gv5 _).trans (Pz.set ((set_get_ne _ hvc).trans gc5) _)
      have hs : ∀ q, q ≠ bV → q ≠ bC → ((m5.set bV (.cells (part6 (upd pv k i) ((k : Int) + 1)) 58 true)).set bC (.cells (part6 (upd pc k j) ((k : Int) + 1)) 59 true)).get q = m5.get q := fun q h2 h3 => by rw [set_get_ne _ h3, set_get_ne _ h2]
      rw [if_neg h4C, if_neg h4V, if_neg h9C, if_neg h9V]
      refine ⟨q - 1, by omega, k + 1, _, _, _, by omega, ?_, I.step hk6 (i := i) (j := j) (by omega) (by omega) (by omega) z5 fr ((vi.ext x5).keep zs fun _ => hs i (by omega) (by omega)) (H5.keep zs (fun _ => hs j (by omega) (by omega)) fun _ => hs j (by omega) (by omega)) ?_ (set_get _ _ _), ?_, ?_, (x45.2 b4 (by omega)).trans g4, (x45.2 b9 (by omega)).trans g9, z3.trans z5⟩
      · rw [wrap_i64 (by omega) (by omega)]; rfl
      · exact (set_get_ne _ (fun h => hvc h.symm)).trans (set_get _ _ _)
      · rw [tag_ne _ _ (by omega), tag_ne _ _ (by omega)]; exact o1
      · rw [tag_ne _ _ (by omega), tag_ne _ _ (by omega)]; exact o2
    · have hk : k = 6 := by omega
      subst hk
      replace hv := hv.pz z3
      have lv := hv.len (P := Try.prog) Try.underlying56
      simp only [wk6, Nat.reduceBEq, wk1, forall_eq, Nat.reduceAdd, reduceIte, Nat.reduceEqDiff, reduceCtorEq, Int.reduceLT, Int.reduceEq, opConvert, opIndexAddr, opLoad, Nat.reduceLT, undef, Nat.reduceLeDiff, Array.toList, bin_cneq, bin_cne, bin_bne, bin_beq, bld76n, bld37z, bld33m, bld45z, bld37c, bld61, ix58, ix59, wk4, wk5, wk0, fxC16o, lv, e2, e4, e9, e10, e11]
      obtain ⟨b14, hb14⟩ : ∃ b, b = m'.next := ⟨_, rfl⟩
      obtain ⟨m6, hm6⟩ : ∃ m6, m6 = m'.new (.cells [.int .u8 0, .int .u16 0, .int .u16 0, .int .i64 0, .slice none 0 0, .slice none 0 0] 45 true) := ⟨_, rfl⟩
      have x6 : Ext m' m6 := by rw [hm6]; exact Ext.new _ _
      have n6 : m6.next = m'.next + 1 := by rw [hm6]; rfl
      have g14 : m6.get b14 = some (.cells [.int .u8 0, .int .u16 0, .int .u16 0, .int .i64 0, .slice none 0 0, .slice none 0 0] 45 true) := by rw [hm6, hb14]; exact new_get _ _
      rw [← hm6, ← hb14]
      clear hm6
      have n3' := z3.1
      have L0 : Lp m6 b4 b9 b14 bV bC pv pc M ec (.slice wa M.length wz) (tag ow b14 25) pc 0 (fun _ => Vo.zero) (fun _ => Ch.new M) (.slice none 0 0) [] [] ⟨fun _ => none, fun _ _ => False⟩ 0 0 false zE (.slice none 0 0) (.slice none 0 0) :=
        ⟨(I.sys.retag (fun j hj => tag_ne _ _ (by omega)) rfl).ext x6, (x6.2 _ (by omega)).trans g4, (x6.2 _ (by omega)).trans g9, g14, FRow.nil, FRow.nil, (tag_ne _ _ (by omega)).trans o1, (tag_ne _ _ (by omega)).trans o2, tag_at _ _ _, by omega, by omega, by omega, Inv.zero _ (by decide), fun h => absurd h (by decide), by decide⟩
      replace hv := hv.pz x6.pz
      replace hE := hE.mono (smR_pz (z3.trans x6.pz))
      replace fw := fw.pz (z3.trans x6.pz)
      refine loop_wp [(29, [4, 12]), (30, [2, 3])] (by kernel_rfl) (fun q env m' => ∃ (k : Nat) (ow : Nat → Nat) (rc : Int → Nat) (rw : Nat) (V : Int → Vo) (C : Int → Ch) (vw : Value) (W : List Fl) (cs : List Value) (g : Gh) (rd : Int) (sm : Bool) (X : Ent) (va vm : Value), q + k = l.length ∧ env 68 = some (.int .i64 (k : Int)) ∧ env 67 = some (.int .i64 (l.length : Int)) ∧ env 66 = some v ∧ env 4 = some (ptr b4) ∧ env 9 = some (ptr b9) ∧ env 10 = some (ptr bV) ∧ env 11 = some (ptr bC) ∧ env 14 = some (ptr b14) ∧ env 13 = some vw ∧ env 15 = some (.bool sm) ∧ env 16 = some (.int .i64 rd) ∧ W.length ≤ 16 * k ∧ Lp m' b4 b9 b14 bV bC pv pc M ec (.slice wa M.length wz) ow rc rw V C vw W cs g k rd sm X va vm ∧ Pz m6 m') ?_ l.length
        ⟨0, _, _, _, _, _, _, _, _, _, _, _, _, _, _, rfl, rfl, rfl, rfl, by simp only [e4, put_get]; rfl, by simp only [e9, put_get]; rfl, by simp only [e10, put_get]; rfl, by simp only [e11, put_get]; rfl, rfl, rfl, rfl, rfl, by decide, L0, Pz.refl _⟩
      clear L0 I g4 g9 g14 o1 o2 e54 e2 e4 e9 e10 e11
      rintro q env m' ⟨k, ow, rc, rw, V, C, vw, W, cs, g, rd, sm, X, va, vm, hq, e68, e67, e66, e4, e9, e10, e11, e14, e13, e15, e16, hW, L, z6⟩
      simp only [wk6, Nat.reduceBEq, wk1, forall_eq, Nat.reduceAdd, reduceIte, Nat.reduceEqDiff, reduceCtorEq, opLen, Int.reduceLT, Int.reduceEq, opConvert, opIndexAddr, opLoad, Nat.reduceLT, undef, Nat.reduceLeDiff, Array.toList, bin_cneq, bin_cne, bin_bne, bin_beq, bld76n, bld37z, bld33m, bld45z, bld37c, bld61, ix58, ix59, wk4, wk5, wk0, fxC16o, e68, e67]
      refine cond_by (fun hlt => ?_) (fun hge => ?_)
      · have hkl : k < l.length := by omega
        obtain ⟨p, hp1, _, hp3⟩ := hv.at (P := Try.prog) (e := 64) Try.underlying56 ts64 (by simp only [aggOf, Try.underlying64]) hkl
        replace hp3 := hp3 m' z6
        have hmv := hR.at mvR_size hkl
        obtain ⟨a, ha⟩ : ∃ a, a = l[k] := ⟨_, rfl⟩
        rw [← ha] at hmv
        rw [mvR] at hmv
        rw [hmv] at hp3
        have g9 := L.g9
        have l9 := L.l9
        have ln9 : ¬ b9 = m'.next := by omega
        simp only [wk6, Nat.reduceBEq, wk1, forall_eq, Nat.reduceAdd, reduceIte, Nat.reduceEqDiff, reduceCtorEq, opLen, Int.reduceLT, Int.reduceEq, opConvert, Nat.reduceLT, undef, Nat.reduceLeDiff, Array.toList, bin_cneq, bin_cne, bin_bne, bin_beq, bld76n, bld37z, bld33m, bld45z, bld37c, bld61, ix58, ix59, wk4, wk5, wk0, fxC16o, hp1, hp3, e68, e67, e66, e4, e9, e10, e11, e14, e13, e15, e16]
        obtain ⟨b18, hb18⟩ : ∃ b, b = m'.next := ⟨_, rfl⟩
        obtain ⟨m7, hm7⟩ : ∃ m7, m7 = (m'.new (.cells [.int .u8 0, .int .u8 0, .bool false, .bool false] 64 true)).set m'.next (.cells [.int .u8 a.n, .int .u8 a.l, .bool a.o, .bool a.a] 64 true) := ⟨_, rfl⟩
        have x7 : Ext m' m7 := by rw [hm7]; exact (Ext.new _ _).set (Nat.le_refl _)
        have g18 : m7.get b18 = some (.cells [.int .u8 a.n, .int .u8 a.l, .bool a.o, .bool a.a] 64 true) := by rw [hm7, hb18]; exact set_get _ _ _
        have l18 : b18 < m7.next := by rw [hm7, hb18]; exact Nat.lt_succ_self _
        rw [← hm7, ← hb18]
        clear hm7
        have L7 := L.ext x7
        have hok' := hok a (ha ▸ List.getElem_mem hkl)
        have lw : opLoad Try.prog 30 (.pointer (some ⟨b9, 1, none⟩)) m7 = some (.slice wa M.length wz) := load_cell L7.g9 (by simp only [aggOf, Try.underlying30]) rfl
        have ln : opLoad Try.prog 5 (.pointer (some ⟨b18, 0, none⟩)) m7 = some (.int .u8 a.n) := load_cell g18 (by simp only [aggOf, Try.underlying5]) rfl
        have lo : opLoad Try.prog 4 (.pointer (some ⟨b18, 2, none⟩)) m7 = some (.bool a.o) := load_cell g18 (by simp only [aggOf, Try.underlying4]) rfl
        have hM0 : ¬ (M.length : Int) = 0 := by omega
        have wn : IntKind.i64.wrap a.n = a.n := wrap_i64 (by omega) (by omega)
        obtain ⟨i, hi⟩ : ∃ i : Nat, (i : Int) = a.n.tmod M.length := ⟨(a.n.tmod M.length).toNat, Int.toNat_of_nonneg (Int.tmod_nonneg _ hok'.1.1)⟩
        have hiM : i < M.length := by have := Int.tmod_lt_of_pos a.n (b := (M.length : Int)) (by omega); omega
        obtain ⟨p2, c2, hc2, hq1, _, hq3⟩ := fw.at1 (P := Try.prog) (t := 30) (e := 3) Try.underlying30 ts3 (by simp only [aggOf, Try.underlying3]) (j := i) (by simpa using hiM)
        replace hq3 := hq3 m7 (z6.trans x7.pz)
        obtain ⟨n, hn⟩ : ∃ n, n = M[i] := ⟨_, rfl⟩
        have hnM : n ∈ M := hn ▸ List.getElem_mem hiM
        have hc3 : c2 = .int .i64 n := by
          have : (ints M)[i]? = some (.int .i64 M[i]) := by simp [hiM]
          rw [this] at hc2
          rw [hn]
          exact (Option.some.inj hc2).symm
        subst hc3
        simp only [wk6, Nat.reduceBEq, wk1, forall_eq, Nat.reduceAdd, reduceIte, Nat.reduceEqDiff, reduceCtorEq, opLen, Int.reduceLT, Int.reduceEq, opConvert, Nat.reduceLT, undef, Nat.reduceLeDiff, Array.toList, bin_cneq, bin_cne, bin_bne, bin_beq, bld76n, bld37z, bld33m, bld45z, bld37c, bld61, ix58, ix59, wk4, wk5, wk0, fxC16o, lw, ln, lo, hM0, wn, ← hi, hq1, hq3, e68, e67, e66, e4, e9, e10, e11, e14, e13, e15, e16]
        have lvw : opLen Try.prog (some 62) vw = some (.int .i64 W.length) := L7.sy.way.len Try.underlying62
        cases hop : a.o
        · by_cases h0 : (W.length : Int) = 0
          · simp only [wk6, Nat.reduceBEq, wk1, forall_eq, Nat.reduceAdd, reduceIte, Nat.reduceEqDiff, reduceCtorEq, Int.reduceLT, Int.reduceEq, opConvert, Nat.reduceLT, undef, Nat.reduceLeDiff, Array.toList, bin_cneq, bin_cne, bin_bne, bin_beq, bld76n, bld37z, bld33m, bld45z, bld37c, bld61, ix58, ix59, wk4, wk5, wk0, fxC16o, lvw, h0, e68, e67, e66, e4, e9, e10, e11, e14, e13, e15, e16]
            exact ⟨q - 1, by omega, k + 1, _, _, _, _, _, _, _, _, _, _, _, _, _, _, by omega, by rw [wrap_i64 (by omega) (by omega)]; rfl, rfl, rfl, rfl, by omega, L7.tick (by omega), z6.trans x7.pz⟩
          by_cases h400 : (400 : Int) < W.length
          · simp only [wk6, Nat.reduceBEq, wk1, forall_eq, Nat.reduceAdd, reduceIte, Nat.reduceEqDiff, reduceCtorEq, Int.reduceLT, Int.reduceEq, opConvert, Nat.reduceLT, undef, Nat.reduceLeDiff, Array.toList, bin_cneq, bin_cne, bin_bne, bin_beq, bld76n, bld37z, bld33m, bld45z, bld37c, bld61, ix58, ix59, wk4, wk5, wk0, fxC16o, lvw, h0, h400, e68, e67, e66, e4, e9, e10, e11, e14, e13, e15, e16]
            exact ⟨q - 1, by omega, k + 1, _, _, _, _, _, _, _, _, _, _, _, _, _, _, by omega, by rw [wrap_i64 (by omega) (by omega)]; rfl, rfl, rfl, rfl, by omega, L7.tick (by omega), z6.trans x7.pz⟩
          have la : opLoad Try.prog 5 (.pointer (some ⟨b18, 1, none⟩)) m7 = some (.int .u8 a.l) := load_cell g18 (by simp only [aggOf, Try.underlying5]) rfl
          have wl : IntKind.i64.wrap a.l = a.l := wrap_i64 (by omega) (by omega)
          obtain ⟨j, hj⟩ : ∃ j : Nat, (j : Int) = a.l.tmod W.length := ⟨(a.l.tmod W.length).toNat, Int.toNat_of_nonneg (Int.tmod_nonneg _ hok'.2.1)⟩
          have hjW : j < W.length := by have := Int.tmod_lt_of_pos a.l (b := (W.length : Int)) (by omega); omega
          have ix := L7.sy.way.index (P := Try.prog) (t := 62) Try.underlying62 ts68 (j := (j : Int)) rfl hjW
          have lf := L7.sy.way.load (P := Try.prog) ts68 (by simp only [aggOf, Try.underlying68]) hjW
          obtain ⟨fa, fm, hfl, ff1, ff2⟩ := L7.sy.fl.at flR_size hjW
          rw [hfl] at lf
          simp only [wk6, Nat.reduceBEq, wk1, forall_eq, Nat.reduceAdd, reduceIte, Nat.reduceEqDiff, reduceCtorEq, Int.reduceLT, Int.reduceEq, opConvert, Nat.reduceLT, undef, Nat.reduceLeDiff, Array.toList, bin_cneq, bin_cne, bin_bne, bin_beq, bld76n, bld37z, bld33m, bld45z, bld37c, bld61, ix58, ix59, wk4, wk5, wk0, fxC16o, lvw, h0, h400, la, wl, ← hj, ix, lf, e68, e67, e66, e4, e9, e10, e11, e14, e13, e15, e16]
          obtain ⟨f, hf⟩ : ∃ f, f = W[j] := ⟨_, rfl⟩
          rw [← hf] at ff1 ff2 ⊢
          obtain ⟨m8, hm8⟩ : ∃ m8, m8 = (m7.new (.cells (flC ⟨0, 0, 0, 0, 0, 0, 0, false, zE⟩ (.slice none 0 0) (.slice none 0 0)) 68 true)).set m7.next (.cells (flC f fa fm) 68 true) := ⟨_, rfl⟩
          obtain ⟨b24, hb24⟩ : ∃ b, b = m7.next := ⟨_, rfl⟩
          have x8 : Ext m7 m8 := by rw [hm8]; exact (Ext.new _ _).set (Nat.le_refl _)
          have g24 : m8.get b24 = some (.cells (flC f fa fm) 68 true) := by rw [hm8, hb24]; exact set_get _ _ _
          have l24 : b24 < m8.next := by rw [hm8, hb24]; exact Nat.lt_succ_self _
          have lag : opLoad Try.prog 4 (.pointer (some ⟨b18, 3, none⟩)) m8 = some (.bool a.a) := load_cell ((x8.2 _ l18).trans g18) (by simp only [aggOf, Try.underlying4]) rfl
          dsimp only [flC, zE] at hm8
          rw [← hm8, ← hb24]
          clear hm8
          have L8 := L7.ext x8
          have fok : FlOk M V g f := L8.iv.fl f (hf ▸ List.getElem_mem hjW)
          simp only [wk6, Nat.reduceBEq, wk1, forall_eq, Nat.reduceAdd, reduceIte, Nat.reduceEqDiff, reduceCtorEq, Int.reduceLT, Int.reduceEq, opConvert, Nat.reduceLT, undef, Nat.reduceLeDiff, Array.toList, bin_cneq, bin_cne, bin_bne, bin_beq, bld76n, bld37z, bld33m, bld45z, bld37c, bld61, ix58, ix59, wk4, wk5, wk0, fxC16o, lag, e68, e67, e66, e4, e9, e10, e11, e14, e13, e15, e16]
          refine cond_cut (fun e m9 => ∃ (ow : Nat → Nat) (rw : Nat) (vw : Value) (W : List Fl) (cs : List Value), e 68 = some (.int .i64 (k : Int)) ∧ e 67 = some (.int .i64 (l.length : Int)) ∧ e 66 = some v ∧ e 4 = some (ptr b4) ∧ e 9 = some (ptr b9) ∧ e 10 = some (ptr bV) ∧ e 11 = some (ptr bC) ∧ e 14 = some (ptr b14) ∧ e 13 = some vw ∧ e 15 = some (.bool sm) ∧ e 16 = some (.int .i64 rd) ∧ e 24 = some (ptr b24) ∧ W.length ≤ 16 * k ∧ (b24 = rw → vw = .slice none 0 0) ∧ Lp m9 b4 b9 b14 bV bC pv pc M ec (.slice wa M.length wz) ow rc rw V C vw W cs g k rd sm X va vm ∧ Ext m8 m9) ?_ ?_
          · cases hag : a.a
            · obtain ⟨a1, q1, a2, q2, a3, q3, n2, a4, q4, m9, r, p1, p2, p3, p4, sy9, hr9, x2, x9⟩ := L8.sy.cut (by omega) hjW
              have b0 : opBuildSlice Try.prog 62 0 [] m8 = some (.slice (some ⟨m8.next, 0, none⟩) 0 14, m8.new (.cells [] 68 true)) := by kernel_rfl
              have wj : IntKind.i64.wrap ((j : Int) + 1) = ((j + 1 : Nat) : Int) := by rw [wrap_i64 (by omega) (by omega)]; rfl
              simp only [wk6, Nat.reduceBEq, wk1, forall_eq, Nat.reduceAdd, reduceIte, Nat.reduceEqDiff, reduceCtorEq, Int.reduceLT, Int.reduceEq, opConvert, Nat.reduceLT, undef, Nat.reduceLeDiff, Array.toList, bin_cneq, bin_cne, bin_bne, bin_beq, bld76n, bld37z, bld33m, bld45z, bld37c, bld61, ix58, ix59, wk4, wk5, wk0, fxC16o, b0, wj, p1, p2, p3, p4, e68, e67, e66, e4, e9, e10, e11, e14, e13, e15, e16]
              refine ⟨_, _, _, _, _, rfl, ?_, fun e => absurd hr9 (by omega), L8.cut sy9 hr9 x9 (fun f hf => (List.mem_append.1 hf).elim List.mem_of_mem_take List.mem_of_mem_drop), x9⟩
              rw [List.length_append, List.length_take, List.length_drop]; omega
            · simp only [wk6, Nat.reduceBEq, wk1, forall_eq, Nat.reduceAdd, reduceIte, Nat.reduceEqDiff, reduceCtorEq, Int.reduceLT, Int.reduceEq, opConvert, Nat.reduceLT, undef, Nat.reduceLeDiff, Array.toList, bin_cneq, bin_cne, bin_bne, bin_beq, bld76n, bld37z, bld33m, bld45z, bld37c, bld61, ix58, ix59, wk4, wk5, wk0, fxC16o, e68, e67, e66, e4, e9, e10, e11, e14, e13, e15, e16]
              exact ⟨_, _, _, _, _, rfl, by omega, fun e => Classical.byContradiction fun h => absurd (L7.sy.lrw h) (by omega), L8, Ext.refl _⟩
          · clear e68 e67 e66 e4 e9 e10 e11 e14 e13 e15 e16 lw ln lo la lvw ix lf hfl lag
            rintro env m9 ⟨ow, rw, vw, W', cs', e68, e67, e66, e4, e9, e10, e11, e14, e13, e15, e16, e24, hW4, hb9, L9, x9⟩
            replace g24 := (x9.2 _ l24).trans g24
            have lk : opLoad Try.prog 3 (.pointer (some ⟨b24, 0, none⟩)) m9 = some (.int .i64 f.kd) := load_cell g24 (by simp only [aggOf, Try.underlying3]) rfl
            simp only [wk6, Nat.reduceBEq, wk1, forall_eq, Nat.reduceAdd, reduceIte, Nat.reduceEqDiff, reduceCtorEq, Int.reduceLT, Int.reduceEq, opConvert, Nat.reduceLT, undef, Nat.reduceLeDiff, Array.toList, bin_cneq, bin_cne, bin_bne, bin_beq, bld76n, bld37z, bld33m, bld45z, bld37c, bld61, ix58, ix59, wk4, wk5, wk0, fxC16o, lk, e68, e67, e66, e4, e9, e10, e11, e14, e13, e15, e16, e24]
            have lto : ∀ m', Ext m9 m' → opLoad Try.prog 3 (.pointer (some ⟨b24, 2, none⟩)) m' = some (.int .i64 f.to) := fun m' x => load_cell ((x.2 _ (Nat.lt_of_lt_of_le l24 x9.1)).trans g24) (by simp only [aggOf, Try.underlying3]) rfl
            have lba : ∀ m', Ext m9 m' → opLoad Try.prog 37 (.pointer (some ⟨b24, 3, none⟩)) m' = some (bal f.br f.bn) := fun m' x => load_agg (P := Try.prog) (t := 37) (sz := 2) (off := 3) ((x.2 _ (Nat.lt_of_lt_of_le l24 x9.1)).trans g24) (by simp only [aggOf, Try.underlying37]) ts37 (by simp)
            have to6 := hMs _ fok.to
            have lV : opLoad Try.prog 57 (.pointer (some ⟨bV, f.to.toNat, none⟩)) m9 = some (ptr (pv f.to)) := load_cell L9.sy.bv (by simp only [aggOf, Try.underlying57]) (ptrs_at pv to6)
            have lC : opLoad Try.prog 34 (.pointer (some ⟨bC, f.to.toNat, none⟩)) m9 = some (ptr (pc f.to)) := load_cell L9.sy.bc (by simp only [aggOf, Try.underlying34]) (ptrs_at pc to6)
            have iV := ix58 bV to6
            have iC := ix59 bC to6
            have lt0 := lto m9 (Ext.refl _)
            have lb0 := lba m9 (Ext.refl _)
            have hM16 : ∀ a ∈ M, bOk a := fun a ha => by have := hMs a ha; exact ⟨by omega, by omega⟩
            refine cond_by (fun k0 => ?_) (fun k0 => ?_)
            · simp only [wk6, Nat.reduceBEq, wk1, forall_eq, Nat.reduceAdd, reduceIte, Nat.reduceEqDiff, reduceCtorEq, Int.reduceLT, Int.reduceEq, opConvert, Nat.reduceLT, undef, Nat.reduceLeDiff, Array.toList, bin_cneq, bin_cne, bin_bne, bin_beq, bld76n, bld37z, bld33m, bld45z, bld37c, bld61, ix58, ix59, wk4, wk5, wk0, fxC16o, lt0, lb0, lV, iV, e68, e67, e66, e4, e9, e10, e11, e14, e13, e15, e16, e24]
              have vt := L9.iv.vo _ fok.to
              have lk2 := less_key (ar := (V f.to).pr) (br := f.br) vt.pn fok.bn
              have va9 := L9.sy.vo f.to to6.1 to6.2
              by_cases hp : (V f.to).P < f.b
              · rw [decide_eq_true hp] at lk2
                refine promise_yes va9 lk2 fun m10 ve V10 z10 k10 E10 => ?_
                obtain ⟨ea, em, rfl, ef1, ef2⟩ := E10
                obtain ⟨ea1, ez1, rfl⟩ := ef1.is
                obtain ⟨ea2, ez2, rfl⟩ := ef2.is
                have ip := L9.iv.prom fok hp
                have ip1 := ip.drop (W' := W') (fun f hf => List.mem_append.2 (.inl hf)) (Int.le_refl _) (Int.le_refl _)
                have ip2 := ip.fl _ (List.mem_append.2 (.inr (List.mem_singleton.2 rfl)))
                have L10 := L9.voter to6 V10 z10 k10 ip1 fun _ _ h => h
                replace g24 := (k10 b24 (Nat.lt_of_lt_of_le l24 x9.1) (by
                  intro e
                  obtain ⟨_, _, va9⟩ := va9
                  have h1 := va9.gi
                  rw [← e, g24] at h1
                  simp at h1)).trans g24
                have l24 := Nat.lt_of_lt_of_le (Nat.lt_of_lt_of_le l24 x9.1) z10.1
                simp only [wk6, Nat.reduceBEq, wk1, forall_eq, Nat.reduceAdd, reduceIte, Nat.reduceEqDiff, reduceCtorEq, Int.reduceLT, Int.reduceEq, opConvert, Nat.reduceLT, undef, Nat.reduceLeDiff, Array.toList, bin_cneq, bin_cne, bin_bne, bin_beq, bld76n, bld37z, bld33m, bld45z, bld37c, bld61, ix58, ix59, wk4, wk5, wk0, fxC16o, e68, e67, e66, e4, e9, e10, e11, e14, e13, e15, e16, e24]
                obtain ⟨v0, hv0⟩ : ∃ v0, v0 = V f.to := ⟨_, rfl⟩
                rw [← hv0] at ef1 ef2 ip2 ⊢
                obtain ⟨m11, hm11⟩ : ∃ m11, m11 = (((m10.new (.cells [.int .i64 0, .int .i64 0] 37 true)).new (.cells [.int .u8 0, .int .u16 0, .int .u16 0, .int .i64 0, .slice none 0 0, .slice none 0 0] 45 true)).set m10.next (.cells [.int .i64 v0.br, .int .i64 v0.bn] 37 true)).set (m10.next + 1) (.cells [.int .u8 v0.x.kind, .int .u16 v0.x.tr, .int .u16 v0.x.nu, .int .i64 v0.x.pc, .slice ea1 v0.x.args.length ez1, .slice ea2 v0.x.mem.length ez2] 45 true) := ⟨_, rfl⟩
                have x11 : Ext m10 m11 := by rw [hm11]; exact (((Ext.new _ _).trans (Ext.new _ _)).set (Nat.le_refl _)).set (Nat.le_succ _)
                have g26 : m11.get (m10.next + 1) = some (.cells [.int .u8 v0.x.kind, .int .u16 v0.x.tr, .int .u16 v0.x.nu, .int .i64 v0.x.pc, .slice ea1 v0.x.args.length ez1, .slice ea2 v0.x.mem.length ez2] 45 true) := by rw [hm11, set_get]
                have g25 : m11.get m10.next = some (.cells [.int .i64 v0.br, .int .i64 v0.bn] 37 true) := by rw [hm11, set_get_ne _ (by omega), set_get]
                have y1 : opLoad Try.prog 37 (.pointer (some ⟨m10.next, 0, none⟩)) m11 = some (bal v0.br v0.bn) := load_agg (P := Try.prog) (t := 37) (sz := 2) (off := 0) g25 (by simp only [aggOf, Try.underlying37]) ts37 (by simp)
                have y2 : opLoad Try.prog 45 (.pointer (some ⟨m10.next + 1, 0, none⟩)) m11 = some (entW v0.x.kind v0.x.tr v0.x.nu v0.x.pc (.slice ea1 v0.x.args.length ez1) (.slice ea2 v0.x.mem.length ez2)) := load_agg (P := Try.prog) (t := 45) (sz := 6) (off := 0) g26 (by simp only [aggOf, Try.underlying45]) ts45 (by simp)
                have g24b := (x11.2 b24 l24).trans g24
                have y3 : opLoad Try.prog 3 (.pointer (some ⟨b24, 2, none⟩)) m11 = some (.int .i64 f.to) := load_cell g24b (by simp only [aggOf, Try.underlying3]) rfl
                have y4 : opLoad Try.prog 3 (.pointer (some ⟨b24, 1, none⟩)) m11 = some (.int .i64 f.fr) := load_cell g24b (by simp only [aggOf, Try.underlying3]) rfl
                have y5 : opLoad Try.prog 37 (.pointer (some ⟨b24, 3, none⟩)) m11 = some (bal f.br f.bn) := load_agg (P := Try.prog) (t := 37) (sz := 2) (off := 3) g24b (by simp only [aggOf, Try.underlying37]) ts37 (by simp)
                rw [← hm11]
                clear hm11
                have L11 := L10.ext x11
                obtain ⟨pa, pq, m12, pr, p1, sy12, hr12, _, z12, k12⟩ := L11.sy.push (by omega) (f := ⟨1, f.to, f.fr, f.br, f.bn, v0.br, v0.bn, v0.s, v0.x⟩) (ef1.pz x11.pz) (ef2.pz x11.pz)
                have L12 := L11.send sy12 (Nat.le_of_lt hr12) z12 k12 (by rw [← hv0]; exact ip2)
                simp only [wk6, Nat.reduceBEq, wk1, forall_eq, Nat.reduceAdd, reduceIte, Nat.reduceEqDiff, reduceCtorEq, Int.reduceLT, Int.reduceEq, opConvert, Nat.reduceLT, undef, Nat.reduceLeDiff, Array.toList, bin_cneq, bin_cne, bin_bne, bin_beq, bld76n, bld37z, bld33m, bld45z, bld37c, bld61, ix58, ix59, wk4, wk5, wk0, fxC16o, y1, y2, y3, y4, y5, bld68b, one_fl, p1, e68, e67, e66, e4, e9, e10, e11, e14, e13, e15, e16, e24]
                refine ⟨q - 1, by omega, k + 1, _, _, _, _, _, _, _, _, _, _, _, _, _, _, by omega, by rw [wrap_i64 (by omega) (by omega)]; rfl, rfl, rfl, rfl, ?_, L12.tick (by omega), ((z6.trans x7.pz).trans (x8.trans x9).pz).trans (z10.trans (x11.pz.trans z12))⟩
                rw [List.length_append]; simp; omega
              · rw [decide_eq_false hp] at lk2
                refine promise_no va9 lk2 fun m10 ve x10 E10 => ?_
                obtain ⟨ea, em, rfl, ef1, ef2⟩ := E10
                obtain ⟨ea1, ez1, rfl⟩ := ef1.is
                obtain ⟨ea2, ez2, rfl⟩ := ef2.is
                simp only [wk6, Nat.reduceBEq, wk1, forall_eq, Nat.reduceAdd, reduceIte, Nat.reduceEqDiff, reduceCtorEq, Int.reduceLT, Int.reduceEq, opConvert, Nat.reduceLT, undef, Nat.reduceLeDiff, Array.toList, bin_cneq, bin_cne, bin_bne, bin_beq, bld76n, bld37z, bld33m, bld45z, bld37c, bld61, ix58, ix59, wk4, wk5, wk0, fxC16o, e68, e67, e66, e4, e9, e10, e11, e14, e13, e15, e16, e24]
                have n10 := x10.1
                have xe := (((x10.trans (Ext.new m10 (.cells [.int .i64 0, .int .i64 0] 37 true))).trans (Ext.new _ (.cells [.int .u8 0, .int .u16 0, .int .u16 0, .int .i64 0, .slice none 0 0, .slice none 0 0] 45 true))).set (i := m10.next) (b := .cells [.int .i64 0, .int .i64 0] 37 true) (by omega)).set (i := m10.next + 1) (b := .cells [.int .u8 0, .int .u16 0, .int .u16 0, .int .i64 0, .slice ea1 0 ez1, .slice ea2 0 ez2] 45 true) (by omega)
                exact ⟨q - 1, by omega, k + 1, _, _, _, _, _, _, _, _, _, _, _, _, _, _, by omega, by rw [wrap_i64 (by omega) (by omega)]; rfl, rfl, rfl, rfl, by omega, (L9.ext xe).tick (by omega), ((z6.trans x7.pz).trans (x8.trans x9).pz).trans xe.pz⟩
            · simp only [wk6, Nat.reduceBEq, wk1, forall_eq, Nat.reduceAdd, reduceIte, Nat.reduceEqDiff, reduceCtorEq, Int.reduceLT, Int.reduceEq, opConvert, Nat.reduceLT, undef, Nat.reduceLeDiff, Array.toList, bin_cneq, bin_cne, bin_bne, bin_beq, bld76n, bld37z, bld33m, bld45z, bld37c, bld61, ix58, ix59, wk4, wk5, wk0, fxC16o, e68, e67, e66, e4, e9, e10, e11, e14, e13, e15, e16, e24]
              have nC : pc f.to < b24 ∧ rc f.to < b24 := by rw [hb24]; exact (L7.sy.ch _ to6.1 to6.2).li
              have ca9 := L9.sy.ch f.to to6.1 to6.2
              have co9 := L9.iv.ch _ fok.to
              have hC1 : (C f.to).heard.length < 1000000 := by have := co9.hl; omega
              have fE : EnF m9 (entW f.x.kind f.x.tr f.x.nu f.x.pc fa fm) f.x := ⟨fa, fm, rfl, ff1.pz (x8.trans x9).pz, ff2.pz (x8.trans x9).pz⟩
              have lfr : opLoad Try.prog 3 (.pointer (some ⟨b24, 1, none⟩)) m9 = some (.int .i64 f.fr) := load_cell g24 (by simp only [aggOf, Try.underlying3]) rfl
              have lw9 : opLoad Try.prog 37 (.pointer (some ⟨b24, 5, none⟩)) m9 = some (bal f.wr f.wn) := load_agg (P := Try.prog) (t := 37) (sz := 2) (off := 5) g24 (by simp only [aggOf, Try.underlying37]) ts37 (by simp)
              have ls9 : opLoad Try.prog 4 (.pointer (some ⟨b24, 7, none⟩)) m9 = some (.bool f.s) := load_cell g24 (by simp only [aggOf, Try.underlying4]) rfl
              have lx9 : opLoad Try.prog 45 (.pointer (some ⟨b24, 8, none⟩)) m9 = some (entW f.x.kind f.x.tr f.x.nu f.x.pc fa fm) := load_agg (P := Try.prog) (t := 45) (sz := 6) (off := 8) g24 (by simp only [aggOf, Try.underlying45]) ts45 (by simp)
              refine cond_by (fun k1 => ?_) (fun k1 => ?_)
              · simp only [wk6, Nat.reduceBEq, wk1, forall_eq, Nat.reduceAdd, reduceIte, Nat.reduceEqDiff, reduceCtorEq, Int.reduceLT, Int.reduceEq, opConvert, Nat.reduceLT, undef, Nat.reduceLeDiff, Array.toList, bin_cneq, bin_cne, bin_bne, bin_beq, bld76n, bld37z, bld33m, bld45z, bld37c, bld61, ix58, ix59, wk4, wk5, wk0, fxC16o, lt0, lb0, lC, iC, lfr, lw9, ls9, lx9, e68, e67, e66, e4, e9, e10, e11, e14, e13, e15, e16, e24]
                by_cases hno : (C f.to).ph = 1 → f.br = (C f.to).br → f.bn = (C f.to).bn → f.fr ∈ (C f.to).mem → f.fr ∈ (C f.to).heard
                · refine prom_no ca9 fE hno fun m10 x10 => ?_
                  simp only [wk6, Nat.reduceBEq, wk1, forall_eq, Nat.reduceAdd, reduceIte, Nat.reduceEqDiff, reduceCtorEq, Int.reduceLT, Int.reduceEq, opConvert, Nat.reduceLT, undef, Nat.reduceLeDiff, Array.toList, bin_cneq, bin_cne, bin_bne, bin_beq, bld76n, bld37z, bld33m, bld45z, bld37c, bld61, ix58, ix59, wk4, wk5, wk0, fxC16o, e68, e67, e66, e4, e9, e10, e11, e14, e13, e15, e16, e24]
                  exact ⟨q - 1, by omega, k + 1, _, _, _, _, _, _, _, _, _, _, _, _, _, _, by omega, by rw [wrap_i64 (by omega) (by omega)]; rfl, rfl, rfl, rfl, by omega, (L9.ext x10).tick (by omega), ((z6.trans x7.pz).trans (x8.trans x9).pz).trans x10.pz⟩
                · have hy : (C f.to).ph = 1 ∧ (f.br = (C f.to).br ∧ f.bn = (C f.to).bn) ∧ f.fr ∈ (C f.to).mem ∧ f.fr ∉ (C f.to).heard := by
                    refine Classical.byContradiction fun h => hno fun a b c d => Classical.byContradiction fun e => h ⟨a, ⟨b, c⟩, d, e⟩
                  obtain ⟨y1, y2, y3, y4⟩ := hy
                  obtain ⟨o1, o2, o3, o4⟩ := co9.hears fok k1 y1 y2
                  refine prom_yes ca9 fE hC1 y1 y2 y3 y4 fun m10 r' H10 z10 k10 n10 => ?_
                  obtain ⟨c1, hc1⟩ : ∃ c1, c1 = ((C f.to).hear f.fr).take f.s f.wr f.wn f.x := ⟨_, rfl⟩
                  rw [← hc1] at o1 o2 o3 o4 H10 ⊢
                  have g24x := (k10 b24 (Nat.lt_of_lt_of_le l24 x9.1) (by omega) (by omega)).trans g24
                  cases hmo : c1.most
                  · rw [Ch.fin, hmo, if_neg (by decide)] at H10
                    simp only [wk6, Nat.reduceBEq, wk1, forall_eq, Nat.reduceAdd, reduceIte, Nat.reduceEqDiff, reduceCtorEq, Int.reduceLT, Int.reduceEq, opConvert, Nat.reduceLT, undef, Nat.reduceLeDiff, Array.toList, bin_cneq, bin_cne, bin_bne, bin_beq, bld76n, bld37z, bld33m, bld45z, bld37c, bld61, ix58, ix59, wk4, wk5, wk0, fxC16o, e68, e67, e66, e4, e9, e10, e11, e14, e13, e15, e16, e24]
                    have L10 := L9.chair (t' := k + 1) (rd' := rd) to6 H10 z10 k10 (.inr (Nat.le_of_lt n10)) ⟨L9.rl.1, by have := L9.rl.2; omega⟩ (L9.iv.chair (by omega) o1) fun _ _ h => h
                    exact ⟨q - 1, by omega, k + 1, _, _, _, _, _, _, _, _, _, _, _, _, _, _, by omega, by rw [wrap_i64 (by omega) (by omega)]; rfl, rfl, rfl, rfl, by omega, L10, ((z6.trans x7.pz).trans (x8.trans x9).pz).trans z10⟩
                  · rw [Ch.fin, hmo, if_pos rfl] at H10
                    have l24x := Nat.lt_of_lt_of_le (Nat.lt_of_lt_of_le l24 x9.1) z10.1
                    have ltx : opLoad Try.prog 3 (.pointer (some ⟨b24, 2, none⟩)) m10 = some (.int .i64 f.to) := load_cell g24x (by simp only [aggOf, Try.underlying3]) rfl
                    have L10 := L9.chair (t' := k + 1) (rd' := rd) to6 H10 z10 k10 (.inr (Nat.le_of_lt n10)) ⟨L9.rl.1, by have := L9.rl.2; omega⟩ ((L9.iv.put hM16 fok.to (by omega) (by omega) o1 o2 hmo).1.drop (fun f hf => List.mem_append.2 (.inl hf)) (Int.le_refl _) (Int.le_refl _)) (L9.iv.put hM16 fok.to (by omega) (by omega) o1 o2 hmo).2
                    have F10 : ∀ a ∈ M, FlOk M V (g.set (key c1.br c1.bn) c1.put.ent) ⟨2, f.to, a, f.br, f.bn, 0, 0, false, c1.put.ent⟩ := fun a ha => by
                      have := (L9.iv.put (t' := k + 1) hM16 fok.to (by omega) (by omega) o1 o2 hmo).1.fl ⟨2, f.to, a, c1.br, c1.bn, 0, 0, false, c1.put.ent⟩ (List.mem_append.2 (.inr (List.mem_map.2 ⟨a, ha, rfl⟩)))
                      rw [y2.1, y2.2, ← o3, ← o4]; exact this
                    have lC10 : opLoad Try.prog 34 (.pointer (some ⟨bC, f.to.toNat, none⟩)) m10 = some (ptr (pc f.to)) := load_cell L10.sy.bc (by simp only [aggOf, Try.underlying34]) (ptrs_at pc to6)
                    simp only [wk6, Nat.reduceBEq, wk1, forall_eq, Nat.reduceAdd, reduceIte, Nat.reduceEqDiff, reduceCtorEq, Int.reduceLT, Int.reduceEq, opConvert, Nat.reduceLT, undef, Nat.reduceLeDiff, Array.toList, bin_cneq, bin_cne, bin_bne, bin_beq, bld76n, bld37z, bld33m, bld45z, bld37c, bld61, ix58, ix59, wk4, wk5, wk0, fxC16o, ltx, lC10, iC, e68, e67, e66, e4, e9, e10, e11, e14, e13, e15, e16, e24]
                    refine centry_ret H10 (by simp [Ch.put]) fun m11 ve x11 E11 => ?_
                    obtain ⟨pe, hpe⟩ : ∃ pe, pe = c1.put.ent := ⟨_, rfl⟩
                    rw [← hpe] at E11 L10 F10
                    obtain ⟨ea, em, rfl, ef1, ef2⟩ := E11
                    obtain ⟨ea1, ez1, rfl⟩ := ef1.is
                    obtain ⟨ea2, ez2, rfl⟩ := ef2.is
                    simp only [wk6, Nat.reduceBEq, wk1, forall_eq, Nat.reduceAdd, reduceIte, Nat.reduceEqDiff, reduceCtorEq, Int.reduceLT, Int.reduceEq, opConvert, Nat.reduceLT, undef, Nat.reduceLeDiff, Array.toList, bin_cneq, bin_cne, bin_bne, bin_beq, bld76n, bld37z, bld33m, bld45z, bld37c, bld61, ix58, ix59, wk4, wk5, wk0, fxC16o, e68, e67, e66, e4, e9, e10, e11, e14, e13, e15, e16, e24]
                    obtain ⟨b29, hb29⟩ : ∃ b, b = m11.next := ⟨_, rfl⟩
                    obtain ⟨m12, hm12⟩ : ∃ m12, m12 = (m11.new (.cells [.int .u8 0, .int .u16 0, .int .u16 0, .int .i64 0, .slice none 0 0, .slice none 0 0] 45 true)).set m11.next (.cells [.int .u8 pe.kind, .int .u16 pe.tr, .int .u16 pe.nu, .int .i64 pe.pc, .slice ea1 pe.args.length ez1, .slice ea2 pe.mem.length ez2] 45 true) := ⟨_, rfl⟩
                    have x12 : Ext m11 m12 := by rw [hm12]; exact (Ext.new _ _).set (Nat.le_refl _)
                    have g29 : m12.get b29 = some (.cells [.int .u8 pe.kind, .int .u16 pe.tr, .int .u16 pe.nu, .int .i64 pe.pc, .slice ea1 pe.args.length ez1, .slice ea2 pe.mem.length ez2] 45 true) := by rw [hm12, hb29, set_get]
                    have l29 : b29 < m12.next := by rw [hm12, hb29]; exact Nat.lt_succ_self _
                    rw [← hm12, ← hb29]
                    clear hm12
                    have L12 := (L10.ext x11).ext x12
                    have g24y := ((x11.trans x12).2 b24 l24x).trans g24x
                    have l24y := Nat.lt_of_lt_of_le l24x (x11.trans x12).1
                    have lw12 : opLoad Try.prog 30 (.pointer (some ⟨b9, 1, none⟩)) m12 = some (.slice wa M.length wz) := load_cell L12.g9 (by simp only [aggOf, Try.underlying30]) rfl
                    simp only [wk6, Nat.reduceBEq, wk1, forall_eq, Nat.reduceAdd, reduceIte, Nat.reduceEqDiff, reduceCtorEq, opLen, Int.reduceLT, Int.reduceEq, opConvert, Nat.reduceLT, undef, Nat.reduceLeDiff, Array.toList, bin_cneq, bin_cne, bin_bne, bin_beq, bld76n, bld37z, bld33m, bld45z, bld37c, bld61, ix58, ix59, wk4, wk5, wk0, fxC16o, lw12, e68, e67, e66, e4, e9, e10, e11, e14, e13, e15, e16, e24]
                    have z12 := ((z6.trans x7.pz).trans (x8.trans x9).pz).trans (z10.trans (x11.trans x12).pz)
                    have nb9 : b29 = rw → vw = .slice none 0 0 := fun e => Classical.byContradiction fun h => absurd (L10.sy.lrw h) (by have := x11.1; omega)
                    refine loop_wp [] (by kernel_rfl) (fun q2 env m' => ∃ (j : Nat) (ow : Nat → Nat) (rw : Nat) (vw : Value) (W : List Fl) (cs : List Value), q2 + j = M.length ∧ env 249 = some (.int .i64 (j : Int)) ∧ env 248 = some (.int .i64 (M.length : Int)) ∧ env 247 = some (.slice wa M.length wz) ∧ env 24 = some (ptr b24) ∧ env 29 = some (ptr b29) ∧ env 68 = some (.int .i64 (k : Int)) ∧ env 67 = some (.int .i64 (l.length : Int)) ∧ env 66 = some v ∧ env 4 = some (ptr b4) ∧ env 9 = some (ptr b9) ∧ env 10 = some (ptr bV) ∧ env 11 = some (ptr bC) ∧ env 14 = some (ptr b14) ∧ env 13 = some vw ∧ env 15 = some (.bool sm) ∧ env 16 = some (.int .i64 rd) ∧ W.length ≤ 16 * k + j ∧ (b24 = rw → vw = .slice none 0 0) ∧ (b29 = rw → vw = .slice none 0 0) ∧ m'.get b24 = some (.cells (flC f fa fm) 68 true) ∧ m'.get b29 = some (.cells [.int .u8 pe.kind, .int .u16 pe.tr, .int .u16 pe.nu, .int .i64 pe.pc, .slice ea1 pe.args.length ez1, .slice ea2 pe.mem.length ez2] 45 true) ∧ Lp m' b4 b9 b14 bV bC pv pc M ec (.slice wa M.length wz) ow (upd rc f.to r') rw V (upd C f.to c1.put) vw W cs (g.set (key c1.br c1.bn) pe) (k + 1) rd sm X va vm ∧ Pz m12 m') ?_ M.length
                      ⟨0, _, _, _, _, _, rfl, rfl, rfl, rfl, by simp only [e24, put_get]; rfl, rfl, by simp only [e68, put_get]; rfl, by simp only [e67, put_get]; rfl, by simp only [e66, put_get]; rfl, by simp only [e4, put_get]; rfl, by simp only [e9, put_get]; rfl, by simp only [e10, put_get]; rfl, by simp only [e11, put_get]; rfl, by simp only [e14, put_get]; rfl, by simp only [e13, put_get]; rfl, by simp only [e15, put_get]; rfl, by simp only [e16, put_get]; rfl, hW4, hb9, nb9, g24y, g29, L12, Pz.refl _⟩
                    clear e68 e67 e66 e4 e9 e10 e11 e14 e13 e15 e16 e24
                    rintro q2 env m13 ⟨j2, ow2, rw2, vw2, W2, cs2, hq2, e249, e248, e247, e24, e29, e68, e67, e66, e4, e9, e10, e11, e14, e13, e15, e16, hW2, nb24, nb29, g24z, g29z, L13, z13⟩
                    simp only [wk6, Nat.reduceBEq, wk1, forall_eq, Nat.reduceAdd, reduceIte, Nat.reduceEqDiff, reduceCtorEq, opLen, Int.reduceLT, Int.reduceEq, opConvert, opIndexAddr, opLoad, Nat.reduceLT, undef, Nat.reduceLeDiff, Array.toList, bin_cneq, bin_cne, bin_bne, bin_beq, bld76n, bld37z, bld33m, bld45z, bld37c, bld61, ix58, ix59, wk4, wk5, wk0, fxC16o, e249, e248]
                    refine cond_by (fun hj2 => ?_) (fun hj2 => ?_)
                    · have hjM : j2 < M.length := by omega
                      obtain ⟨p3, c3, hc3, hr1, _, hr3⟩ := fw.at1 (P := Try.prog) (t := 30) (e := 3) Try.underlying30 ts3 (by simp only [aggOf, Try.underlying3]) (j := j2) (by simpa using hjM)
                      replace hr3 := hr3 m13 (z12.trans z13)
                      obtain ⟨a3, ha3⟩ : ∃ a3, a3 = M[j2] := ⟨_, rfl⟩
                      have ha3M : a3 ∈ M := ha3 ▸ List.getElem_mem hjM
                      have hc4 : c3 = .int .i64 a3 := by
                        have : (ints M)[j2]? = some (.int .i64 M[j2]) := by simp [hjM]
                        rw [this] at hc3
                        rw [ha3]
                        exact (Option.some.inj hc3).symm
                      subst hc4
                      have lt3 : opLoad Try.prog 3 (.pointer (some ⟨b24, 2, none⟩)) m13 = some (.int .i64 f.to) := load_cell g24z (by simp only [aggOf, Try.underlying3]) rfl
                      have lb3 : opLoad Try.prog 37 (.pointer (some ⟨b24, 3, none⟩)) m13 = some (bal f.br f.bn) := load_agg (P := Try.prog) (t := 37) (sz := 2) (off := 3) g24z (by simp only [aggOf, Try.underlying37]) ts37 (by simp)
                      have lx3 : opLoad Try.prog 45 (.pointer (some ⟨b29, 0, none⟩)) m13 = some (entW pe.kind pe.tr pe.nu pe.pc (.slice ea1 pe.args.length ez1) (.slice ea2 pe.mem.length ez2)) := load_agg (P := Try.prog) (t := 45) (sz := 6) (off := 0) g29z (by simp only [aggOf, Try.underlying45]) ts45 (by simp)
                      obtain ⟨pa, pq, m14, pr, p1, sy14, hr14, _, z14, k14⟩ := L13.sy.push (by omega) (f := ⟨2, f.to, a3, f.br, f.bn, 0, 0, false, pe⟩) (ef1.pz (x12.pz.trans z13)) (ef2.pz (x12.pz.trans z13))
                      have L14 := L13.send sy14 (Nat.le_of_lt hr14) z14 k14 (F10 a3 ha3M)
                      simp only [wk6, Nat.reduceBEq, wk1, forall_eq, Nat.reduceAdd, reduceIte, Nat.reduceEqDiff, reduceCtorEq, Int.reduceLT, Int.reduceEq, opConvert, Nat.reduceLT, undef, Nat.reduceLeDiff, Array.toList, bin_cneq, bin_cne, bin_bne, bin_beq, bld76n, bld37z, bld33m, bld45z, bld37c, bld61, ix58, ix59, wk4, wk5, wk0, fxC16o, hr1, hr3, lt3, lb3, lx3, bld68c, one_fl, p1, e249, e248, e247, e29, e68, e67, e66, e4, e9, e10, e11, e14, e13, e15, e16, e24]
                      have n13 := z13.1
                      refine ⟨q2 - 1, by omega, j2 + 1, _, _, _, _, _, by omega, by rw [wrap_i64 (by omega) (by omega)]; rfl, rfl, ?_, fun e => absurd hr14 (by omega), fun e => absurd hr14 (by omega), (k14 b24 (by omega) nb24).trans g24z, (k14 b29 (by omega) nb29).trans g29z, L14, z13.trans z14⟩
                      rw [List.length_append]; simp; omega
                    · simp only [wk6, Nat.reduceBEq, wk1, forall_eq, Nat.reduceAdd, reduceIte, Nat.reduceEqDiff, reduceCtorEq, opLen, Int.reduceLT, Int.reduceEq, opConvert, opIndexAddr, opLoad, Nat.reduceLT, undef, Nat.reduceLeDiff, Array.toList, bin_cneq, bin_cne, bin_bne, bin_beq, bld76n, bld37z, bld33m, bld45z, bld37c, bld61, ix58, ix59, wk4, wk5, wk0, fxC16o, e249, e248, e247, e29, e68, e67, e66, e4, e9, e10, e11, e14, e13, e15, e16, e24]
                      exact ⟨q - 1, by omega, k + 1, _, _, _, _, _, _, _, _, _, _, _, _, _, _, by omega, by rw [wrap_i64 (by omega) (by omega)]; rfl, rfl, rfl, rfl, by have := hMl.2; omega, L13, z12.trans z13⟩
              · simp only [wk6, Nat.reduceBEq, wk1, forall_eq, Nat.reduceAdd, reduceIte, Nat.reduceEqDiff, reduceCtorEq, Int.reduceLT, Int.reduceEq, opConvert, Nat.reduceLT, undef, Nat.reduceLeDiff, Array.toList, bin_cneq, bin_cne, bin_bne, bin_beq, bld76n, bld37z, bld33m, bld45z, bld37c, bld61, ix58, ix59, wk4, wk5, wk0, fxC16o, e68, e67, e66, e4, e9, e10, e11, e14, e13, e15, e16, e24]
                refine cond_by (fun k2 => ?_) (fun k2 => ?_)
                · simp only [wk6, Nat.reduceBEq, wk1, forall_eq, Nat.reduceAdd, reduceIte, Nat.reduceEqDiff, reduceCtorEq, Int.reduceLT, Int.reduceEq, opConvert, Nat.reduceLT, undef, Nat.reduceLeDiff, Array.toList, bin_cneq, bin_cne, bin_bne, bin_beq, bld76n, bld37z, bld33m, bld45z, bld37c, bld61, ix58, ix59, wk4, wk5, wk0, fxC16o, lt0, lb0, lV, iV, lx9, e68, e67, e66, e4, e9, e10, e11, e14, e13, e15, e16, e24]
                  have vt := L9.iv.vo _ fok.to
                  have lk2 := less_key (ar := f.br) (br := (V f.to).pr) fok.bn vt.pn
                  have va9 := L9.sy.vo f.to to6.1 to6.2
                  by_cases hp : f.b < (V f.to).P
                  · rw [decide_eq_true hp] at lk2
                    refine accept_no va9 fE lk2 fun m10 x10 => ?_
                    simp only [wk6, Nat.reduceBEq, wk1, forall_eq, Nat.reduceAdd, reduceIte, Nat.reduceEqDiff, reduceCtorEq, Int.reduceLT, Int.reduceEq, opConvert, Nat.reduceLT, undef, Nat.reduceLeDiff, Array.toList, bin_cneq, bin_cne, bin_bne, bin_beq, bld76n, bld37z, bld33m, bld45z, bld37c, bld61, ix58, ix59, wk4, wk5, wk0, fxC16o, e68, e67, e66, e4, e9, e10, e11, e14, e13, e15, e16, e24]
                    exact ⟨q - 1, by omega, k + 1, _, _, _, _, _, _, _, _, _, _, _, _, _, _, by omega, by rw [wrap_i64 (by omega) (by omega)]; rfl, rfl, rfl, rfl, by omega, (L9.ext x10).tick (by omega), ((z6.trans x7.pz).trans (x8.trans x9).pz).trans x10.pz⟩
                  · rw [decide_eq_false hp] at lk2
                    refine accept_yes va9 fE lk2 fun m10 V10 z10 k10 => ?_
                    have ip := L9.iv.acc fok k2 (Int.not_lt.1 hp)
                    have ip1 := ip.drop (W' := W') (fun f hf => List.mem_append.2 (.inl hf)) (Int.le_refl _) (Int.le_refl _)
                    have ip2 := ip.fl _ (List.mem_append.2 (.inr (List.mem_singleton.2 rfl)))
                    have L10 := L9.voter to6 V10 z10 k10 ip1 fun _ _ h => h.lat (lat_acc (x := f.x) (show (V f.to).P ≤ key f.br f.bn from Int.not_lt.1 hp))
                    have nV : pv f.to < b24 := by rw [hb24]; exact (L7.sy.vo _ to6.1 to6.2).li
                    replace g24 := (k10 b24 (Nat.lt_of_lt_of_le l24 x9.1) (by omega)).trans g24
                    have y3 : opLoad Try.prog 3 (.pointer (some ⟨b24, 2, none⟩)) m10 = some (.int .i64 f.to) := load_cell g24 (by simp only [aggOf, Try.underlying3]) rfl
                    have y4 : opLoad Try.prog 3 (.pointer (some ⟨b24, 1, none⟩)) m10 = some (.int .i64 f.fr) := load_cell g24 (by simp only [aggOf, Try.underlying3]) rfl
                    have y5 : opLoad Try.prog 37 (.pointer (some ⟨b24, 3, none⟩)) m10 = some (bal f.br f.bn) := load_agg (P := Try.prog) (t := 37) (sz := 2) (off := 3) g24 (by simp only [aggOf, Try.underlying37]) ts37 (by simp)
                    obtain ⟨pa, pq, m12, pr, p1, sy12, hr12, _, z12, k12⟩ := L10.sy.push (by omega) (f := ⟨3, f.to, f.fr, f.br, f.bn, 0, 0, false, zE⟩) (va := .slice none 0 0) (vm := .slice none 0 0) FRow.nil FRow.nil
                    have L12 := L10.send sy12 (Nat.le_of_lt hr12) z12 k12 ip2
                    dsimp only [flC, zE] at p1
                    simp only [wk6, Nat.reduceBEq, wk1, forall_eq, Nat.reduceAdd, reduceIte, Nat.reduceEqDiff, reduceCtorEq, Int.reduceLT, Int.reduceEq, opConvert, Nat.reduceLT, undef, Nat.reduceLeDiff, Array.toList, bin_cneq, bin_cne, bin_bne, bin_beq, bld76n, bld37z, bld33m, bld45z, bld37c, bld61, ix58, ix59, wk4, wk5, wk0, fxC16o, y3, y4, y5, bld68a, one_fl, p1, e68, e67, e66, e4, e9, e10, e11, e14, e13, e15, e16, e24]
                    refine ⟨q - 1, by omega, k + 1, _, _, _, _, _, _, _, _, _, _, _, _, _, _, by omega, by rw [wrap_i64 (by omega) (by omega)]; rfl, rfl, rfl, rfl, ?_, L12.tick (by omega), ((z6.trans x7.pz).trans (x8.trans x9).pz).trans (z10.trans z12)⟩
                    rw [List.length_append]; simp; omega
                · simp only [wk6, Nat.reduceBEq, wk1, forall_eq, Nat.reduceAdd, reduceIte, Nat.reduceEqDiff, reduceCtorEq, Int.reduceLT, Int.reduceEq, opConvert, Nat.reduceLT, undef, Nat.reduceLeDiff, Array.toList, bin_cneq, bin_cne, bin_bne, bin_beq, bld76n, bld37z, bld33m, bld45z, bld37c, bld61, ix58, ix59, wk4, wk5, wk0, fxC16o, lt0, lb0, lC, iC, lfr, e68, e67, e66, e4, e9, e10, e11, e14, e13, e15, e16, e24]
                  by_cases hno : (C f.to).ph = 2 → f.br = (C f.to).br → f.bn = (C f.to).bn → f.fr ∈ (C f.to).mem → f.fr ∈ (C f.to).heard
                  · refine acc_no ca9 hno fun m10 x10 => ?_
                    simp only [wk6, Nat.reduceBEq, wk1, forall_eq, Nat.reduceAdd, reduceIte, Nat.reduceEqDiff, reduceCtorEq, Int.reduceLT, Int.reduceEq, opConvert, Nat.reduceLT, undef, Nat.reduceLeDiff, Array.toList, bin_cneq, bin_cne, bin_bne, bin_beq, bld76n, bld37z, bld33m, bld45z, bld37c, bld61, ix58, ix59, wk4, wk5, wk0, fxC16o, e68, e67, e66, e4, e9, e10, e11, e14, e13, e15, e16, e24]
                    exact ⟨q - 1, by omega, k + 1, _, _, _, _, _, _, _, _, _, _, _, _, _, _, by omega, by rw [wrap_i64 (by omega) (by omega)]; rfl, rfl, rfl, rfl, by omega, (L9.ext x10).tick (by omega), ((z6.trans x7.pz).trans (x8.trans x9).pz).trans x10.pz⟩
                  · have hy : (C f.to).ph = 2 ∧ (f.br = (C f.to).br ∧ f.bn = (C f.to).bn) ∧ f.fr ∈ (C f.to).mem ∧ f.fr ∉ (C f.to).heard := by
                      refine Classical.byContradiction fun h => hno fun a b c d => Classical.byContradiction fun e => h ⟨a, ⟨b, c⟩, d, e⟩
                    obtain ⟨y1, y2, y3, y4⟩ := hy
                    obtain ⟨o1, o2⟩ := co9.voted fok k0 k1 k2 y1 y2
                    refine acc_yes ca9 hC1 y1 y2 y3 y4 fun m10 r' H10 z10 k10 n10 => ?_
                    obtain ⟨c1, hc1⟩ : ∃ c1, c1 = (C f.to).hear f.fr := ⟨_, rfl⟩
                    rw [← hc1] at o1 o2 H10 ⊢
                    have g24x := (k10 b24 (Nat.lt_of_lt_of_le l24 x9.1) (by omega) (by omega)).trans g24
                    have L10 := L9.chair (t' := k + 1) (rd' := rd) to6 H10 z10 k10 (.inr (Nat.le_of_lt n10)) ⟨L9.rl.1, by have := L9.rl.2; omega⟩ (L9.iv.chair (by omega) o1) fun _ _ h => h
                    cases hmo : c1.most
                    · simp only [wk6, Nat.reduceBEq, wk1, forall_eq, Nat.reduceAdd, reduceIte, Nat.reduceEqDiff, reduceCtorEq, Int.reduceLT, Int.reduceEq, opConvert, Nat.reduceLT, undef, Nat.reduceLeDiff, Array.toList, bin_cneq, bin_cne, bin_bne, bin_beq, bld76n, bld37z, bld33m, bld45z, bld37c, bld61, ix58, ix59, wk4, wk5, wk0, fxC16o, e68, e67, e66, e4, e9, e10, e11, e14, e13, e15, e16, e24]
                      exact ⟨q - 1, by omega, k + 1, _, _, _, _, _, _, _, _, _, _, _, _, _, _, by omega, by rw [wrap_i64 (by omega) (by omega)]; rfl, rfl, rfl, rfl, by omega, L10, ((z6.trans x7.pz).trans (x8.trans x9).pz).trans z10⟩
                    · have hph : 2 ≤ c1.acc.ph := by rw [Ch.acc, hmo, if_pos rfl]; show (2 : Int) ≤ 3; decide
                      have ltx : opLoad Try.prog 3 (.pointer (some ⟨b24, 2, none⟩)) m10 = some (.int .i64 f.to) := load_cell g24x (by simp only [aggOf, Try.underlying3]) rfl
                      have lC10 : opLoad Try.prog 34 (.pointer (some ⟨bC, f.to.toNat, none⟩)) m10 = some (ptr (pc f.to)) := load_cell L10.sy.bc (by simp only [aggOf, Try.underlying34]) (ptrs_at pc to6)
                      simp only [wk6, Nat.reduceBEq, wk1, forall_eq, Nat.reduceAdd, reduceIte, Nat.reduceEqDiff, reduceCtorEq, Int.reduceLT, Int.reduceEq, opConvert, Nat.reduceLT, undef, Nat.reduceLeDiff, Array.toList, bin_cneq, bin_cne, bin_bne, bin_beq, bld76n, bld37z, bld33m, bld45z, bld37c, bld61, ix58, ix59, wk4, wk5, wk0, fxC16o, ltx, lC10, iC, e68, e67, e66, e4, e9, e10, e11, e14, e13, e15, e16, e24]
                      refine centry_ret H10 hph fun m11 ve x11 E11 => ?_
                      have hwon := o2 hmo
                      obtain ⟨pe, hpe⟩ : ∃ pe, pe = c1.acc.ent := ⟨_, rfl⟩
                      rw [← hpe] at E11 hwon
                      have hpl := L9.iv.pl _ _ hwon.1
                      obtain ⟨ea, em, rfl, ef1, ef2⟩ := E11
                      obtain ⟨ea1, ez1, rfl⟩ := ef1.is
                      obtain ⟨ea2, ez2, rfl⟩ := ef2.is
                      simp only [wk6, Nat.reduceBEq, wk1, forall_eq, Nat.reduceAdd, reduceIte, Nat.reduceEqDiff, reduceCtorEq, Int.reduceLT, Int.reduceEq, opConvert, Nat.reduceLT, undef, Nat.reduceLeDiff, Array.toList, bin_cneq, bin_cne, bin_bne, bin_beq, bld76n, bld37z, bld33m, bld45z, bld37c, bld61, ix58, ix59, wk4, wk5, wk0, fxC16o, e68, e67, e66, e4, e9, e10, e11, e14, e13, e15, e16, e24]
                      obtain ⟨b33, hb33⟩ : ∃ b, b = m11.next := ⟨_, rfl⟩
                      obtain ⟨m12, hm12⟩ : ∃ m12, m12 = (m11.new (.cells [.int .u8 0, .int .u16 0, .int .u16 0, .int .i64 0, .slice none 0 0, .slice none 0 0] 45 true)).set m11.next (.cells [.int .u8 pe.kind, .int .u16 pe.tr, .int .u16 pe.nu, .int .i64 pe.pc, .slice ea1 pe.args.length ez1, .slice ea2 pe.mem.length ez2] 45 true) := ⟨_, rfl⟩
                      have x12 : Ext m11 m12 := by rw [hm12]; exact (Ext.new _ _).set (Nat.le_refl _)
                      have g33 : m12.get b33 = some (.cells [.int .u8 pe.kind, .int .u16 pe.tr, .int .u16 pe.nu, .int .i64 pe.pc, .slice ea1 pe.args.length ez1, .slice ea2 pe.mem.length ez2] 45 true) := by rw [hm12, hb33, set_get]
                      have l33 : b33 < m12.next := by rw [hm12, hb33]; exact Nat.lt_succ_self _
                      rw [← hm12, ← hb33]
                      clear hm12
                      have L12 := (L10.ext x11).ext x12
                      have ly : ∀ m', Ext m12 m' → opLoad Try.prog 45 (.pointer (some ⟨b33, 0, none⟩)) m' = some (entW pe.kind pe.tr pe.nu pe.pc (.slice ea1 pe.args.length ez1) (.slice ea2 pe.mem.length ez2)) := fun m' x => load_agg (P := Try.prog) (t := 45) (sz := 6) (off := 0) ((x.2 _ l33).trans g33) (by simp only [aggOf, Try.underlying45]) ts45 (by simp)
                      have z12 := ((z6.trans x7.pz).trans (x8.trans x9).pz).trans (z10.trans (x11.trans x12).pz)
                      have st14 : ∀ m', Lp m' b4 b9 b14 bV bC pv pc M ec (.slice wa M.length wz) (tag ow r' (1 + f.to.toNat)) (upd rc f.to r') rw V (upd C f.to c1.acc) vw W' cs' g (k + 1) rd sm X va vm → opStore Try.prog 45 (.pointer (some ⟨b14, 0, none⟩)) (entW pe.kind pe.tr pe.nu pe.pc (.slice ea1 pe.args.length ez1) (.slice ea2 pe.mem.length ez2)) m' = some (m'.set b14 (.cells [.int .u8 pe.kind, .int .u16 pe.tr, .int .u16 pe.nu, .int .i64 pe.pc, .slice ea1 pe.args.length ez1, .slice ea2 pe.mem.length ez2] 45 true)) := fun m' L => store_agg (P := Try.prog) L.g14 ts45 (by simp)
                      cases hsm : sm
                      · have s1 := st14 m12 L12
                        have ly1 := ly m12 (Ext.refl _)
                        rw [hsm] at e15
                        simp only [wk6, Nat.reduceBEq, wk1, forall_eq, evOp, evParts, okVal, ev1, evs, evOpt, envOf, List.lookup_nil, List.size_toArray, List.length_cons, List.length_nil, List.range, List.range.loop, Nat.zero_add, Nat.reduceAdd, Bool.not_false, Bool.not_true, Bool.true_or, if_true, if_false, reduceIte, Nat.reduceEqDiff, reduceCtorEq, List.getElem?_toArray, List.getElem?_cons_zero, List.getElem?_cons_succ, guardOf, constOk, constCell, evBuiltin, List.head?_cons, foldV, min2V, max2V, Int.reduceLT, Int.reduceEq, Kend, resOf, Bool.false_eq_true, Bool.true_eq_false, IntKind.signed, IntKind.max, opConvert, aggOf, Option.some.injEq, Value.bool.injEq, exists_eq_left', true_and, forall_const, decide_eq_true_eq, decide_eq_false_iff_not, Int.natCast_nonneg, and_self, Int.toNat_natCast, Nat.mul_one, List.append_nil, beq_self_eq_true, Nat.lt_irrefl, Nat.zero_lt_succ, Nat.reduceLT, Option.bind_some, undef, opBox, Value.cells, setCells, Nat.reduceLeDiff, Array.toList, bin_cneq, bin_cne, bin_bne, bin_beq, bld76n, bld37z, bld33m, bld45z, bld37c, bld61, ix58, ix59, wk5, wk0, fxC16o, ly1, s1, e68, e67, e66, e4, e9, e10, e11, e14, e13, e15, e16, e24]
                        have L13 := L12.chosen (ef1.pz x12.pz) (ef2.pz x12.pz) ⟨_, hwon⟩
                        exact ⟨q - 1, by omega, k + 1, _, _, _, _, _, _, _, _, _, _, _, _, _, _, by omega, by rw [wrap_i64 (by omega) (by omega)]; rfl, rfl, rfl, rfl, by omega, L13, z12.trans (Pz.set L12.g14 _)⟩
                      · obtain ⟨bX, hX⟩ := L9.won hsm
                        have e := won_same L9.iv.sf hwon hX
                        have ly1 := ly m12 (Ext.refl _)
                        have lX : opLoad Try.prog 45 (.pointer (some ⟨b14, 0, none⟩)) m12 = some (entW X.kind X.tr X.nu X.pc va vm) := load_agg (P := Try.prog) (t := 45) (sz := 6) (off := 0) L12.g14 (by simp only [aggOf, Try.underlying45]) ts45 (by simp)
                        rw [hsm] at e15
                        simp only [wk6, Nat.reduceBEq, wk1, forall_eq, evOp, evParts, okVal, ev1, evs, evOpt, envOf, List.lookup_nil, List.size_toArray, List.length_cons, List.length_nil, List.range, List.range.loop, Nat.zero_add, Nat.reduceAdd, Bool.not_false, Bool.not_true, Bool.true_or, if_true, if_false, reduceIte, Nat.reduceEqDiff, reduceCtorEq, List.getElem?_toArray, List.getElem?_cons_zero, List.getElem?_cons_succ, guardOf, constOk, constCell, evBuiltin, List.head?_cons, foldV, min2V, max2V, Int.reduceLT, Int.reduceEq, Kend, resOf, Bool.false_eq_true, Bool.true_eq_false, IntKind.signed, IntKind.max, opConvert, aggOf, Option.some.injEq, Value.bool.injEq, exists_eq_left', true_and, forall_const, decide_eq_true_eq, decide_eq_false_iff_not, Int.natCast_nonneg, and_self, Int.toNat_natCast, Nat.mul_one, List.append_nil, beq_self_eq_true, Nat.lt_irrefl, Nat.zero_lt_succ, Nat.reduceLT, Option.bind_some, undef, opBox, Value.cells, setCells, Nat.reduceLeDiff, Array.toList, bin_cneq, bin_cne, bin_bne, bin_beq, bld76n, bld37z, bld33m, bld45z, bld37c, bld61, ix58, ix59, wk5, wk0, fxC16o, ly1, lX, e68, e67, e66, e4, e9, e10, e11, e14, e13, e15, e16, e24]
                        refine esame_ret (E := pe) (F := X) ⟨_, _, rfl, ef1.pz x12.pz, ef2.pz x12.pz⟩ ⟨_, _, rfl, L12.f1, L12.f2⟩ (by omega) fun m13 x13 => ?_
                        rw [show sameE pe X = true by rw [e]; exact sameE_self X]
                        have L13 := L12.ext x13
                        have s1 := st14 m13 L13
                        have ly2 := ly m13 x13
                        simp only [wk6, Nat.reduceBEq, wk1, forall_eq, evOp, evParts, okVal, ev1, evs, evOpt, envOf, List.lookup_nil, List.size_toArray, List.length_cons, List.length_nil, List.range, List.range.loop, Nat.zero_add, Nat.reduceAdd, Bool.not_false, Bool.not_true, Bool.true_or, if_true, if_false, reduceIte, Nat.reduceEqDiff, reduceCtorEq, List.getElem?_toArray, List.getElem?_cons_zero, List.getElem?_cons_succ, guardOf, constOk, constCell, evBuiltin, List.head?_cons, foldV, min2V, max2V, Int.reduceLT, Int.reduceEq, Kend, resOf, Bool.false_eq_true, Bool.true_eq_false, IntKind.signed, IntKind.max, opConvert, aggOf, Option.some.injEq, Value.bool.injEq, exists_eq_left', true_and, forall_const, decide_eq_true_eq, decide_eq_false_iff_not, Int.natCast_nonneg, and_self, Int.toNat_natCast, Nat.mul_one, List.append_nil, beq_self_eq_true, Nat.lt_irrefl, Nat.zero_lt_succ, Nat.reduceLT, Option.bind_some, undef, opBox, Value.cells, setCells, Nat.reduceLeDiff, Array.toList, bin_cneq, bin_cne, bin_bne, bin_beq, bld76n, bld37z, bld33m, bld45z, bld37c, bld61, ix58, ix59, wk5, wk0, fxC16o, ly2, s1, e68, e67, e66, e4, e9, e10, e11, e14, e13, e15, e16, e24]
                        have L14 := L13.chosen (ef1.pz (x12.trans x13).pz) (ef2.pz (x12.trans x13).pz) ⟨_, hwon⟩
                        exact ⟨q - 1, by omega, k + 1, _, _, _, _, _, _, _, _, _, _, _, _, _, _, by omega, by rw [wrap_i64 (by omega) (by omega)]; rfl, rfl, rfl, rfl, by omega, L14, (z12.trans x13.pz).trans (Pz.set L13.g14 _)⟩
        · skip -- OPEN
          have n6 := hMs n hnM
          have rl := L7.rl
          have w1 : IntKind.i64.wrap (rd + 1) = rd + 1 := wrap_i64 (by omega) (by omega)
          have w2 : IntKind.i64.wrap ((rd + 1).tdiv 2) = (rd + 1) / 2 := by rw [Int.tdiv_eq_ediv_of_nonneg (by omega)]; exact wrap_i64 (by omega) (by omega)
          obtain ⟨r, hr⟩ : ∃ r, r = (rd + 1) / 2 + 1 := ⟨_, rfl⟩
          have w3 : IntKind.i64.wrap ((rd + 1) / 2 + 1) = r := by rw [hr]; exact wrap_i64 (by omega) (by omega)
          simp only [wk6, Nat.reduceBEq, wk1, forall_eq, Nat.reduceAdd, reduceIte, Nat.reduceEqDiff, reduceCtorEq, Int.reduceLT, Int.reduceEq, opConvert, Nat.reduceLT, undef, Nat.reduceLeDiff, Array.toList, bin_cneq, bin_cne, bin_bne, bin_beq, bld76n, bld37z, bld33m, bld45z, bld37c, bld61, ix58, ix59, wk4, wk5, wk0, fxC16o, w1, w2, w3, e68, e67, e66, e4, e9, e10, e11, e14, e13, e15, e16]
          obtain ⟨b20, hb20⟩ : ∃ b, b = m7.next := ⟨_, rfl⟩
          obtain ⟨m8, hm8⟩ : ∃ m8, m8 = (m7.new (.cells [.int .i64 0, .int .i64 0] 37 true)).set m7.next (.cells [.int .i64 r, .int .i64 n] 37 true) := ⟨_, rfl⟩
          have x8 : Ext m7 m8 := by rw [hm8]; exact (Ext.new _ _).set (Nat.le_refl _)
          have g20 : m8.get b20 = some (.cells [.int .i64 r, .int .i64 n] 37 true) := by rw [hm8, hb20]; exact set_get _ _ _
          have l20 : b20 < m8.next := by rw [hm8, hb20]; exact Nat.lt_succ_self _
          rw [← hm8, ← hb20]
          clear hm8
          have L8 := L7.ext x8
          have l20b : ∀ m', Ext m8 m' → opLoad Try.prog 37 (.pointer (some ⟨b20, 0, none⟩)) m' = some (bal r n) := fun m' x => load_agg (P := Try.prog) (t := 37) (sz := 2) (off := 0) ((x.2 _ l20).trans g20) (by simp only [aggOf, Try.underlying37]) ts37 (by simp)
          have lV : opLoad Try.prog 57 (.pointer (some ⟨bV, n.toNat, none⟩)) m8 = some (ptr (pv n)) := load_cell L8.sy.bv (by simp only [aggOf, Try.underlying57]) (ptrs_at pv n6)
          have iV := ix58 bV n6
          have iC := ix59 bC n6
          refine Loose.by (fun y => y = b20) ?_
          simp only [wk6, Nat.reduceBEq, wk1, forall_eq, Nat.reduceAdd, reduceIte, Nat.reduceEqDiff, reduceCtorEq, Int.reduceLT, Int.reduceEq, opConvert, Nat.reduceLT, undef, Nat.reduceLeDiff, Array.toList, bin_cneq, bin_cne, bin_bne, bin_beq, bld76n, bld37z, bld33m, bld45z, bld37c, bld61, ix58, ix59, wk4, wk5, wk0, fxC16o, lV, iV, e68, e67, e66, e4, e9, e10, e11, e14, e13, e15, e16]
          refine vprom_ret (L8.sy.vo n n6.1 n6.2) fun m9 x9 => ?_
          have lb9 := l20b m9 x9
          simp only [wk6, Nat.reduceBEq, wk1, forall_eq, Nat.reduceAdd, reduceIte, Nat.reduceEqDiff, reduceCtorEq, Int.reduceLT, Int.reduceEq, opConvert, Nat.reduceLT, undef, Nat.reduceLeDiff, Array.toList, bin_cneq, bin_cne, bin_bne, bin_beq, bld76n, bld37z, bld33m, bld45z, bld37c, bld61, ix58, ix59, wk4, wk5, wk0, fxC16o, lb9, vq2, e68, e67, e66, e4, e9, e10, e11, e14, e13, e15, e16]
          refine ⟨x9.2 _ l20, ?_⟩
          have vt := L8.iv.vo _ hnM
          have hM16 : ∀ a ∈ M, bOk a := fun a ha => by have := hMs a ha; exact ⟨by omega, by omega⟩
          have lk := less_key (ar := (V n).pr) (br := r) vt.pn (hM16 n hnM)
          refine less_ret fun m10 x10 => ?_
          have xb := x9.trans x10
          by_cases hp : (V n).P < key r n
          · rw [lk, decide_eq_true hp]
            have lb10 := l20b m10 xb
            have lC10 : opLoad Try.prog 34 (.pointer (some ⟨bC, n.toNat, none⟩)) m10 = some (ptr (pc n)) := load_cell (L8.ext xb).sy.bc (by simp only [aggOf, Try.underlying34]) (ptrs_at pc n6)
            simp only [wk6, Nat.reduceBEq, wk1, forall_eq, Nat.reduceAdd, reduceIte, Nat.reduceEqDiff, reduceCtorEq, Int.reduceLT, Int.reduceEq, opConvert, Nat.reduceLT, undef, Nat.reduceLeDiff, Array.toList, bin_cneq, bin_cne, bin_bne, bin_beq, bld76n, bld37z, bld33m, bld45z, bld37c, bld61, ix58, ix59, wk4, wk5, wk0, fxC16o, lb10, lC10, iC, vq2, e68, e67, e66, e4, e9, e10, e11, e14, e13, e15, e16]
            refine ⟨x10.2 _ (Nat.lt_of_lt_of_le l20 x9.1), ?_⟩
            refine ballot_ret ((L8.ext xb).sy.ch n n6.1 n6.2) fun m11 x11 => ?_
            have xc := xb.trans x11
            have lb11 := l20b m11 xc
            by_cases hb : (C n).br = r ∧ (C n).bn = n
            · simp only [wk6, Nat.reduceBEq, wk1, forall_eq, Nat.reduceAdd, reduceIte, Nat.reduceEqDiff, reduceCtorEq, Int.reduceLT, Int.reduceEq, opConvert, Nat.reduceLT, undef, Nat.reduceLeDiff, Array.toList, bin_cneq, bin_cne, bin_bne, bin_beq, bld76n, bld37z, bld33m, bld45z, bld37c, bld61, ix58, ix59, wk4, wk5, wk0, fxC16o, lb11, lC10, iC, vq2, bin_beq, decide_eq_true hb, e68, e67, e66, e4, e9, e10, e11, e14, e13, e15, e16]
              exact ⟨x11.2 _ (Nat.lt_of_lt_of_le l20 xb.1), q - 1, by omega, k + 1, _, _, _, _, _, _, _, _, _, _, _, _, _, _, by omega, by rw [wrap_i64 (by omega) (by omega)]; rfl, rfl, rfl, rfl, by omega, ((L8.ext xc).round (t' := k + 1) (rd' := rd + 1) (by omega) (by omega) (by omega)), z6.trans (x7.trans (x8.trans xc)).pz⟩
            · simp only [wk6, Nat.reduceBEq, wk1, forall_eq, Nat.reduceAdd, reduceIte, Nat.reduceEqDiff, reduceCtorEq, Int.reduceLT, Int.reduceEq, opConvert, Nat.reduceLT, undef, Nat.reduceLeDiff, Array.toList, bin_cneq, bin_cne, bin_bne, bin_beq, bld76n, bld37z, bld33m, bld45z, bld37c, bld61, ix58, ix59, wk4, wk5, wk0, fxC16o, lb11, lC10, iC, vq2, bin_beq, decide_eq_false hb, e68, e67, e66, e4, e9, e10, e11, e14, e13, e15, e16]
              refine ⟨x11.2 _ (Nat.lt_of_lt_of_le l20 xb.1), ?_⟩
              have L11 := L8.ext xc
              have z11 := z6.trans (x7.trans (x8.trans xc)).pz
              have iE := ix55 b4 n6
              obtain ⟨va5, hs5, fs5⟩ := (hE.mono (smR_pz z11)).at smR_size (j := n.toNat) (by omega)
              obtain ⟨S, hS⟩ : ∃ S, S = E[n.toNat] := ⟨_, rfl⟩
              rw [← hS] at hs5 fs5
              have lE : opLoad Try.prog 28 (.pointer (some ⟨b4, n.toNat * 6, none⟩)) m11 = some (.agg #[.int .u8 S.k, .int .u16 S.t, .int .u16 S.n, .int .u16 S.p, va5, .int .u16 S.mm]) := by
                rw [load_agg (P := Try.prog) (t := 28) (sz := 6) (off := n.toNat * 6) L11.g4 (by simp only [aggOf, Try.underlying28]) ts28 (by omega), hs5]
              have lC11 : opLoad Try.prog 34 (.pointer (some ⟨bC, n.toNat, none⟩)) m11 = some (ptr (pc n)) := load_cell L11.sy.bc (by simp only [aggOf, Try.underlying34]) (ptrs_at pc n6)
              refine Loose.by (fun y => y = b20 ∨ y = bC) ?_
              simp only [wk6, Nat.reduceBEq, wk1, forall_eq, Nat.reduceAdd, reduceIte, Nat.reduceEqDiff, reduceCtorEq, Int.reduceLT, Int.reduceEq, opConvert, Nat.reduceLT, undef, Nat.reduceLeDiff, Array.toList, bin_cneq, bin_cne, bin_bne, bin_beq, bld76n, bld37z, bld33m, bld45z, bld37c, bld61, ix58, ix59, wk4, wk5, wk0, fxC16o, lb11, lC11, iC, iE, lE, vq2, e68, e67, e66, e4, e9, e10, e11, e14, e13, e15, e16]
              refine ⟨.inr trivial, .inl trivial, ?_⟩
              refine sentry_ret (S := S) ⟨_, rfl, fs5⟩ fun ve m12 E12 x12 => ?_
              have L12 := L11.ext x12
              simp only [wk6, Nat.reduceBEq, wk1, forall_eq, Nat.reduceAdd, reduceIte, Nat.reduceEqDiff, reduceCtorEq, Int.reduceLT, Int.reduceEq, opConvert, Nat.reduceLT, undef, Nat.reduceLeDiff, Array.toList, bin_cneq, bin_cne, bin_bne, bin_beq, bld76n, bld37z, bld33m, bld45z, bld37c, bld61, ix58, ix59, wk4, wk5, wk0, fxC16o, vq2, e68, e67, e66, e4, e9, e10, e11, e14, e13, e15, e16]
              refine ⟨⟨x12.2 _ (Nat.lt_of_lt_of_le l20 xc.1), x12.2 _ L11.sy.lc⟩, ?_⟩
              refine open_ret (L12.sy.ch n n6.1 n6.2) E12 fun m13 H13 z13 k13 => ?_
              have xd := xc.trans x12
              have nC : pc n < b20 := by rw [hb20]; exact (L7.sy.ch _ n6.1 n6.2).li.1
              have nbC : bC ≠ pc n := fun e => by
                have h1 := L12.sy.tbc
                have h2 := L12.sy.tc n n6.1 n6.2
                rw [e, h2] at h1; omega
              have g20x := (k13 b20 (Nat.lt_of_lt_of_le l20 xd.1) (by omega)).trans ((xd.2 _ l20).trans g20)
              have gCx := k13 bC L12.sy.lc nbC
              have hRr : (rd + 1) / 2 + 1 = r := hr.symm
              have io := L12.iv.open (t' := k + 1) (r := r) (O := S.ent) hM16 hnM (by omega) (by omega) (by omega) (by omega) hb (ent_small S)
              have L13 := L12.chair (t' := k + 1) (rd' := rd + 1) n6 H13 z13 (fun j h1 h2 _ => k13 j h1 h2) (.inl rfl) ⟨by omega, by omega⟩ (by rw [hRr]; exact io.drop (fun f hf => List.mem_append.2 (.inl hf)) (Int.le_refl _) (Int.le_refl _)) fun _ _ h => h
              have F13 : ∀ a ∈ M, FlOk M V g ⟨0, n, a, r, n, 0, 0, false, zE⟩ := fun a ha => io.fl _ (List.mem_append.2 (.inr (List.mem_map.2 ⟨a, ha, rfl⟩)))
              have lw13 : opLoad Try.prog 30 (.pointer (some ⟨b9, 1, none⟩)) m13 = some (.slice wa M.length wz) := load_cell L13.g9 (by simp only [aggOf, Try.underlying30]) rfl
              have nb20 : b20 = rw → vw = .slice none 0 0 := fun e => Classical.byContradiction fun h => absurd (L7.sy.lrw h) (by omega)
              have l20x : b20 < m13.next := Nat.lt_of_lt_of_le (Nat.lt_of_lt_of_le l20 xd.1) z13.1
              have zd := z6.trans ((x7.trans (x8.trans xd)).pz.trans z13)
              simp only [wk6, Nat.reduceBEq, wk1, forall_eq, Nat.reduceAdd, reduceIte, Nat.reduceEqDiff, reduceCtorEq, opLen, Int.reduceLT, Int.reduceEq, opConvert, Nat.reduceLT, undef, Nat.reduceLeDiff, Array.toList, bin_cneq, bin_cne, bin_bne, bin_beq, bld76n, bld37z, bld33m, bld45z, bld37c, bld61, ix58, ix59, wk4, wk5, wk0, fxC16o, lw13, vq2, e68, e67, e66, e4, e9, e10, e11, e14, e13, e15, e16]
              refine ⟨⟨k13 b20 (Nat.lt_of_lt_of_le l20 xd.1) (by omega), gCx⟩, ?_⟩
              refine loop_wp [] (by kernel_rfl) (fun q2 env m' => ∃ (j : Nat) (ow : Nat → Nat) (rw : Nat) (vw : Value) (W : List Fl) (cs : List Value), q2 + j = M.length ∧ env 119 = some (.int .i64 (j : Int)) ∧ env 118 = some (.int .i64 (M.length : Int)) ∧ env 117 = some (.slice wa M.length wz) ∧ env 19 = some (.int .i64 n) ∧ env 20 = some (ptr b20) ∧ env 68 = some (.int .i64 (k : Int)) ∧ env 67 = some (.int .i64 (l.length : Int)) ∧ env 66 = some v ∧ env 4 = some (ptr b4) ∧ env 9 = some (ptr b9) ∧ env 10 = some (ptr bV) ∧ env 11 = some (ptr bC) ∧ env 14 = some (ptr b14) ∧ env 13 = some vw ∧ env 15 = some (.bool sm) ∧ env 16 = some (.int .i64 (rd + 1)) ∧ W.length ≤ 16 * k + j ∧ (b20 = rw → vw = .slice none 0 0) ∧ m'.get b20 = some (.cells [.int .i64 r, .int .i64 n] 37 true) ∧ Lp m' b4 b9 b14 bV bC pv pc M ec (.slice wa M.length wz) ow (upd rc n (pc n)) rw V (upd C n ((C n).open r n S.ent)) vw W cs g (k + 1) (rd + 1) sm X va vm ∧ Pz m13 m') ?_ M.length
                ⟨0, _, _, _, _, _, rfl, rfl, rfl, rfl, rfl, rfl, by simp only [e68, put_get]; rfl, by simp only [e67, put_get]; rfl, by simp only [e66, put_get]; rfl, by simp only [e4, put_get]; rfl, by simp only [e9, put_get]; rfl, by simp only [e10, put_get]; rfl, by simp only [e11, put_get]; rfl, by simp only [e14, put_get]; rfl, by simp only [e13, put_get]; rfl, by simp only [e15, put_get]; rfl, rfl, hW, nb20, g20x, L13, Pz.refl _⟩
              clear e68 e67 e66 e4 e9 e10 e11 e14 e13 e15 e16
              rintro q2 env m14 ⟨j2, ow2, rw2, vw2, W2, cs2, hq2, e119, e118, e117, e19, e20, e68, e67, e66, e4, e9, e10, e11, e14, e13, e15, e16, hW2, nb20, g20z, L14, z14⟩
              simp only [wk6, Nat.reduceBEq, wk1, forall_eq, Nat.reduceAdd, reduceIte, Nat.reduceEqDiff, reduceCtorEq, opLen, Int.reduceLT, Int.reduceEq, opConvert, opIndexAddr, opLoad, Nat.reduceLT, undef, Nat.reduceLeDiff, Array.toList, bin_cneq, bin_cne, bin_bne, bin_beq, bld76n, bld37z, bld33m, bld45z, bld37c, bld61, ix58, ix59, wk4, wk5, wk0, fxC16o, e119, e118]
              refine cond_by (fun hj2 => ?_) (fun hj2 => ?_)
              · have hjM : j2 < M.length := by omega
                obtain ⟨p3, c3, hc3, hr1, _, hr3⟩ := fw.at1 (P := Try.prog) (t := 30) (e := 3) Try.underlying30 ts3 (by simp only [aggOf, Try.underlying3]) (j := j2) (by simpa using hjM)
                replace hr3 := hr3 m14 (zd.trans z14)
                obtain ⟨a3, ha3⟩ : ∃ a3, a3 = M[j2] := ⟨_, rfl⟩
                have ha3M : a3 ∈ M := ha3 ▸ List.getElem_mem hjM
                have hc4 : c3 = .int .i64 a3 := by
                  have : (ints M)[j2]? = some (.int .i64 M[j2]) := by simp [hjM]
                  rw [this] at hc3
                  rw [ha3]
                  exact (Option.some.inj hc3).symm
                subst hc4
                have lb3 : opLoad Try.prog 37 (.pointer (some ⟨b20, 0, none⟩)) m14 = some (bal r n) := load_agg (P := Try.prog) (t := 37) (sz := 2) (off := 0) g20z (by simp only [aggOf, Try.underlying37]) ts37 (by simp)
                obtain ⟨pa, pq, m15, pr, p1, sy15, hr15, _, z15, k15⟩ := L14.sy.push (by omega) (f := ⟨0, n, a3, r, n, 0, 0, false, zE⟩) (va := .slice none 0 0) (vm := .slice none 0 0) FRow.nil FRow.nil
                have L15 := L14.send sy15 (Nat.le_of_lt hr15) z15 k15 (F13 a3 ha3M)
                dsimp only [flC, zE] at p1
                simp only [wk6, Nat.reduceBEq, wk1, forall_eq, Nat.reduceAdd, reduceIte, Nat.reduceEqDiff, reduceCtorEq, Int.reduceLT, Int.reduceEq, opConvert, Nat.reduceLT, undef, Nat.reduceLeDiff, Array.toList, bin_cneq, bin_cne, bin_bne, bin_beq, bld76n, bld37z, bld33m, bld45z, bld37c, bld61, ix58, ix59, wk4, wk5, wk0, fxC16o, hr1, hr3, lb3, bld68a, one_fl, p1, e119, e118, e117, e19, e20, e68, e67, e66, e4, e9, e10, e11, e14, e13, e15, e16]
                have n14 := z14.1
                refine ⟨q2 - 1, by omega, j2 + 1, _, _, _, _, _, by omega, by rw [wrap_i64 (by omega) (by omega)]; rfl, rfl, ?_, fun e => absurd hr15 (by omega), (k15 b20 (by omega) nb20).trans g20z, L15, z14.trans z15⟩
                rw [List.length_append]; simp; omega
              · simp only [wk6, Nat.reduceBEq, wk1, forall_eq, Nat.reduceAdd, reduceIte, Nat.reduceEqDiff, reduceCtorEq, opLen, Int.reduceLT, Int.reduceEq, opConvert, opIndexAddr, opLoad, Nat.reduceLT, undef, Nat.reduceLeDiff, Array.toList, bin_cneq, bin_cne, bin_bne, bin_beq, bld76n, bld37z, bld33m, bld45z, bld37c, bld61, ix58, ix59, wk4, wk5, wk0, fxC16o, e119, e118, e117, e19, e20, e68, e67, e66, e4, e9, e10, e11, e14, e13, e15, e16]
                exact ⟨q - 1, by omega, k + 1, _, _, _, _, _, _, _, _, _, _, _, _, _, _, by omega, by rw [wrap_i64 (by omega) (by omega)]; rfl, rfl, rfl, rfl, by have := hMl.2; omega, L14, zd.trans z14⟩
          · rw [lk, decide_eq_false hp]
            have lb10 := l20b m10 xb
            simp only [wk6, Nat.reduceBEq, wk1, forall_eq, Nat.reduceAdd, reduceIte, Nat.reduceEqDiff, reduceCtorEq, Int.reduceLT, Int.reduceEq, opConvert, Nat.reduceLT, undef, Nat.reduceLeDiff, Array.toList, bin_cneq, bin_cne, bin_bne, bin_beq, bld76n, bld37z, bld33m, bld45z, bld37c, bld61, ix58, ix59, wk4, wk5, wk0, fxC16o, lb10, vq2, e68, e67, e66, e4, e9, e10, e11, e14, e13, e15, e16]
            exact ⟨x10.2 _ (Nat.lt_of_lt_of_le l20 x9.1), q - 1, by omega, k + 1, _, _, _, _, _, _, _, _, _, _, _, _, _, _, by omega, by rw [wrap_i64 (by omega) (by omega)]; rfl, rfl, rfl, rfl, by omega, ((L8.ext xb).round (t' := k + 1) (rd' := rd + 1) (by omega) (by omega) (by omega)), z6.trans (x7.trans (x8.trans xb)).pz⟩
      · simp only [wk6, Nat.reduceBEq, wk1, forall_eq, Nat.reduceAdd, reduceIte, Nat.reduceEqDiff, reduceCtorEq, opLen, Int.reduceLT, Int.reduceEq, opConvert, opIndexAddr, opLoad, Nat.reduceLT, undef, Nat.reduceLeDiff, Array.toList, bin_cneq, bin_cne, bin_bne, bin_beq, bld76n, bld37z, bld33m, bld45z, bld37c, bld61, ix58, ix59, wk4, wk5, wk0, fxC16o]
end Go.Proofs.Ytgecmpgpinihhaa
