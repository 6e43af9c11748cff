/- A text of the abstract machine. -/



/- A voter: what its functions come to. -/
import Derived.Test.YtgecmpgpinihhaaAmC16p
import Derived.Test.YtgecmpgpinihhaaAmBun
set_option linter.unusedSimpArgs false
set_option linter.unusedVariables false
set_option maxRecDepth 100000
set_option maxHeartbeats 4000000
namespace Go.Proofs.Ytgecmpgpinihhaa
open Go Go.AM Go.AM.Crc Go.AM.Wire
theorem fxC16w : type_of% (And.intro (And.intro (And.intro (And.intro (And.intro (And.intro (And.intro @Try.underlying3 @Try.underlying4) (And.intro @Try.underlying5 @Try.underlying9)) (And.intro (And.intro @Try.underlying30 @Try.underlying33) (And.intro @Try.underlying103 (And.intro @Try.underlying78 @Try.underlying22)))) (And.intro (And.intro (And.intro @Try.underlying26 @Try.underlying28) (And.intro @Try.underlying41 (And.intro @Try.underlying43 @Try.underlying45))) (And.intro (And.intro @Try.underlying24 @Try.underlying39) (And.intro @Try.underlying23 (And.intro @Try.underlying34 @Try.underlying37))))) (And.intro (And.intro (And.intro (And.intro @Try.underlying49 @Try.underlying51) (And.intro @Try.underlying57 @Try.underlying73)) (And.intro (And.intro @Try.underlying76 @Try.underlying61) (And.intro @Try.underlying69 (And.intro @ts3 @ts4)))) (And.intro (And.intro (And.intro @ts5 @ts9) (And.intro @ts30 (And.intro @ts33 @ts103))) (And.intro (And.intro @ts78 @ts22) (And.intro @ts26 (And.intro @ts28 @ts41)))))) (And.intro (And.intro (And.intro (And.intro (And.intro @ts43 @ts45) (And.intro @ts24 @ts39)) (And.intro (And.intro @ts23 @ts34) (And.intro @ts37 (And.intro @ts49 @ts51)))) (And.intro (And.intro (And.intro @ts57 @ts73) (And.intro @ts76 (And.intro @ts61 @ts69))) (And.intro (And.intro @tz3 @tz4) (And.intro @tz5 (And.intro @tz9 @tz30))))) (And.intro (And.intro (And.intro (And.intro @tz33 @tz103) (And.intro @tz78 @tz22)) (And.intro (And.intro @tz26 @tz28) (And.intro @tz41 (And.intro @tz43 @tz45)))) (And.intro (And.intro (And.intro @tz24 @tz39) (And.intro @tz23 (And.intro @tz34 @tz37))) (And.intro (And.intro @tz49 @tz51) (And.intro @tz57 (And.intro @tz73 @tz76))))))) (And.intro (And.intro (And.intro (And.intro (And.intro (And.intro @tz61 @tz69) (And.intro @tb3 @tb4)) (And.intro (And.intro @tb5 @tb9) (And.intro @tb30 (And.intro @tb33 @tb103)))) (And.intro (And.intro (And.intro @tb78 @tb22) (And.intro @tb26 (And.intro @tb28 @tb41))) (And.intro (And.intro @tb43 @tb45) (And.intro @tb24 (And.intro @tb39 @tb23))))) (And.intro (And.intro (And.intro (And.intro @tb34 @tb37) (And.intro @tb49 @tb51)) (And.intro (And.intro @tb57 @tb73) (And.intro @tb76 (And.intro @tb61 @tb69)))) (And.intro (And.intro (And.intro @fr14 @fr15) (And.intro @fr17 (And.intro @fr18 @bz33))) (And.intro (And.intro @al33 @fa33_0) (And.intro @fa33_1 (And.intro @bz28 @bz26)))))) (And.intro (And.intro (And.intro (And.intro (And.intro @bz43 @bz45) (And.intro @al43 @al45)) (And.intro (And.intro @fa45_0 @fa45_1) (And.intro @fa45_2 (And.intro @fa43_0 @fa43_1)))) (And.intro (And.intro (And.intro @fa43_2 @fa28_0) (And.intro @fa28_1 (And.intro @fa28_2 @fa26_0))) (And.intro (And.intro @fa26_1 @fa26_2) (And.intro @fa26_3 (And.intro @bz37 @bz76))))) (And.intro (And.intro (And.intro (And.intro @al37 @fa37_0) (And.intro @fa37_1 @fa76_0)) (And.intro (And.intro @fa76_1 @fa76_2) (And.intro @fa76_3 (And.intro @fa76_4 @fa76_5)))) (And.intro (And.intro (And.intro @fa76_6 @fa76_7) (And.intro @fa76_8 (And.intro @oneOf_two @bz61))) (And.intro (And.intro @al61 @fa61_0) (And.intro @fa61_1 (And.intro @fa61_2 @fa61_3)))))))) := (And.intro (And.intro (And.intro (And.intro (And.intro (And.intro (And.intro @Try.underlying3 @Try.underlying4) (And.intro @Try.underlying5 @Try.underlying9)) (And.intro (And.intro @Try.underlying30 @Try.underlying33) (And.intro @Try.underlying103 (And.intro @Try.underlying78 @Try.underlying22)))) (And.intro (And.intro (And.intro @Try.underlying26 @Try.underlying28) (And.intro @Try.underlying41 (And.intro @Try.underlying43 @Try.underlying45))) (And.intro (And.intro @Try.underlying24 @Try.underlying39) (And.intro @Try.underlying23 (And.intro @Try.underlying34 @Try.underlying37))))) (And.intro (And.intro (And.intro (And.intro @Try.underlying49 @Try.underlying51) (And.intro @Try.underlying57 @Try.underlying73)) (And.intro (And.intro @Try.underlying76 @Try.underlying61) (And.intro @Try.underlying69 (And.intro @ts3 @ts4)))) (And.intro (And.intro (And.intro @ts5 @ts9) (And.intro @ts30 (And.intro @ts33 @ts103))) (And.intro (And.intro @ts78 @ts22) (And.intro @ts26 (And.intro @ts28 @ts41)))))) (And.intro (And.intro (And.intro (And.intro (And.intro @ts43 @ts45) (And.intro @ts24 @ts39)) (And.intro (And.intro @ts23 @ts34) (And.intro @ts37 (And.intro @ts49 @ts51)))) (And.intro (And.intro (And.intro @ts57 @ts73) (And.intro @ts76 (And.intro @ts61 @ts69))) (And.intro (And.intro @tz3 @tz4) (And.intro @tz5 (And.intro @tz9 @tz30))))) (And.intro (And.intro (And.intro (And.intro @tz33 @tz103) (And.intro @tz78 @tz22)) (And.intro (And.intro @tz26 @tz28) (And.intro @tz41 (And.intro @tz43 @tz45)))) (And.intro (And.intro (And.intro @tz24 @tz39) (And.intro @tz23 (And.intro @tz34 @tz37))) (And.intro (And.intro @tz49 @tz51) (And.intro @tz57 (And.intro @tz73 @tz76))))))) (And.intro (And.intro (And.intro (And.intro (And.intro (And.intro @tz61 @tz69) (And.intro @tb3 @tb4)) (And.intro (And.intro @tb5 @tb9) (And.intro @tb30 (And.intro @tb33 @tb103)))) (And.intro (And.intro (And.intro @tb78 @tb22) (And.intro @tb26 (And.intro @tb28 @tb41))) (And.intro (And.intro @tb43 @tb45) (And.intro @tb24 (And.intro @tb39 @tb23))))) (And.intro (And.intro (And.intro (And.intro @tb34 @tb37) (And.intro @tb49 @tb51)) (And.intro (And.intro @tb57 @tb73) (And.intro @tb76 (And.intro @tb61 @tb69)))) (And.intro (And.intro (And.intro @fr14 @fr15) (And.intro @fr17 (And.intro @fr18 @bz33))) (And.intro (And.intro @al33 @fa33_0) (And.intro @fa33_1 (And.intro @bz28 @bz26)))))) (And.intro (And.intro (And.intro (And.intro (And.intro @bz43 @bz45) (And.intro @al43 @al45)) (And.intro (And.intro @fa45_0 @fa45_1) (And.intro @fa45_2 (And.intro @fa43_0 @fa43_1)))) (And.intro (And.intro (And.intro @fa43_2 @fa28_0) (And.intro @fa28_1 (And.intro @fa28_2 @fa26_0))) (And.intro (And.intro @fa26_1 @fa26_2) (And.intro @fa26_3 (And.intro @bz37 @bz76))))) (And.intro (And.intro (And.intro (And.intro @al37 @fa37_0) (And.intro @fa37_1 @fa76_0)) (And.intro (And.intro @fa76_1 @fa76_2) (And.intro @fa76_3 (And.intro @fa76_4 @fa76_5)))) (And.intro (And.intro (And.intro @fa76_6 @fa76_7) (And.intro @fa76_8 (And.intro @oneOf_two @bz61))) (And.intro (And.intro @al61 @fa61_0) (And.intro @fa61_1 (And.intro @fa61_2 @fa61_3))))))))
theorem bin_vneq {a : Option Addr} : binV Try.prog .eql 57 (.pointer a) (.pointer none) = some (.bool a.isNone) := bin_ptr_eq Try.underlying57
theorem oneOf_four (a b c d : Value) : oneOf [a, b, c, d] = .tuple #[a, b, c, d] := rfl
abbrev voC (V : Vo) (va vm : Value) : List Value := [.int .i64 V.pr, .int .i64 V.pn, .bool V.s, .int .i64 V.br, .int .i64 V.bn, .int .u8 V.x.kind, .int .u16 V.x.tr, .int .u16 V.x.nu, .int .i64 V.x.pc, va, vm]
structure VoIs (m : Mem) (i : Nat) (V : Vo) (va vm : Value) : Prop where
  gi : m.get i = some (.cells (voC V va vm) 61 true)
  li : i < m.next
  fa : FRow m va 1 V.x.args.length (byteCells V.x.args)
  fm : FRow m vm 1 V.x.mem.length (ints V.x.mem)
def VoAt (m : Mem) (i : Nat) (V : Vo) : Prop := ∃ va vm, VoIs m i V va vm
theorem VoAt.keep {m m' : Mem} {i : Nat} {V : Vo} (H : VoAt m i V) (z : Pz m m') (hi : i < m.next → m'.get i = m.get i) : VoAt m' i V := by
  obtain ⟨va, vm, H⟩ := H
  exact ⟨va, vm, (hi H.li).trans H.gi, Nat.lt_of_lt_of_le H.li z.1, H.fa.pz z, H.fm.pz z⟩
theorem VoAt.ext {m m' : Mem} {i : Nat} {V : Vo} (H : VoAt m i V) (x : Ext m m') : VoAt m' i V := H.keep x.pz (x.2 i)
theorem VoIs.ext {m m' : Mem} {i : Nat} {V : Vo} {va vm : Value} (H : VoIs m i V va vm) (x : Ext m m') : VoIs m' i V va vm := ⟨(x.2 i H.li).trans H.gi, Nat.lt_of_lt_of_le H.li x.1, H.fa.pz x.pz, H.fm.pz x.pz⟩
theorem vl0 {m : Mem} {i : Nat} {V : Vo} {va vm : Value} (g : m.get i = some (.cells (voC V va vm) 61 true)) : opLoad Try.prog 37 (.pointer (some ⟨i, 0, none⟩)) m = some (bal V.pr V.pn) := load_agg (P := Try.prog) (t := 37) (sz := 2) (off := 0) g (by simp only [aggOf, Try.underlying37]) ts37 (by simp)
theorem vl2 {m : Mem} {i : Nat} {V : Vo} {va vm : Value} (g : m.get i = some (.cells (voC V va vm) 61 true)) : opLoad Try.prog 4 (.pointer (some ⟨i, 2, none⟩)) m = some (.bool V.s) := load_cell g (by simp only [aggOf, Try.underlying4]) rfl
theorem vl3 {m : Mem} {i : Nat} {V : Vo} {va vm : Value} (g : m.get i = some (.cells (voC V va vm) 61 true)) : opLoad Try.prog 37 (.pointer (some ⟨i, 3, none⟩)) m = some (bal V.br V.bn) := load_agg (P := Try.prog) (t := 37) (sz := 2) (off := 3) g (by simp only [aggOf, Try.underlying37]) ts37 (by simp)
theorem vl5 {m : Mem} {i : Nat} {V : Vo} {va vm : Value} (g : m.get i = some (.cells (voC V va vm) 61 true)) : opLoad Try.prog 45 (.pointer (some ⟨i, 5, none⟩)) m = some (entW V.x.kind V.x.tr V.x.nu V.x.pc va vm) := load_agg (P := Try.prog) (t := 45) (sz := 6) (off := 5) g (by simp only [aggOf, Try.underlying45]) ts45 (by simp)
theorem vprom_ret {m : Mem} {i : Nat} {V : Vo} (H : VoAt m i V) {K : Value → Mem → Prop} (hK : ∀ m', Ext m m' → K (bal V.pr V.pn) m') : Ret Try.prog 14 [.pointer (some ⟨i, 0, none⟩)] m K := by
  obtain ⟨va, vm, H⟩ := H
  refine ret_wp [] Try.func14 rfl (by decide) (by kernel_rfl) ?_
  have l3 := vl0 (H.ext (Ext.new m (.cells [.int .i64 0, .int .i64 0] 37 true))).gi
  simp only [Nat.reduceAdd, reduceIte, Nat.reduceEqDiff, reduceCtorEq, opLen, Int.reduceLT, Int.reduceEq, opConvert, opIndexAddr, Nat.reduceLT, undef, Nat.reduceLeDiff, Array.toList, bin_cneq, bin_cne, bin_bne, bin_beq, bld76n, bld37z, bin_vneq, oneOf_four, wk4, wk5, wk0, fxC16w, l3]
  have lr : opLoad Try.prog 37 (.pointer (some ⟨m.next, 0, none⟩)) ((m.new (.cells [.int .i64 0, .int .i64 0] 37 true)).set m.next (.cells [.int .i64 V.pr, .int .i64 V.pn] 37 true)) = some (bal V.pr V.pn) := load_agg (P := Try.prog) (t := 37) (sz := 2) (off := 0) (set_get _ _ _) (by simp only [aggOf, Try.underlying37]) ts37 (by simp)
  simp only [Nat.reduceAdd, reduceIte, Nat.reduceEqDiff, reduceCtorEq, opLen, Int.reduceLT, Int.reduceEq, opConvert, opIndexAddr, Nat.reduceLT, undef, Nat.reduceLeDiff, Array.toList, bin_cneq, bin_cne, bin_bne, bin_beq, bld76n, bld37z, bin_vneq, oneOf_four, wk4, wk5, wk0, fxC16w, lr]
  exact hK _ ((Ext.new _ _).set (Nat.le_refl _))
theorem promise_no {m : Mem} {i : Nat} {V : Vo} {br bn : Int} (H : VoAt m i V) (hl : lessB V.pr V.pn br bn = false) {K : Value → Mem → Prop} (hK : ∀ m' v, Ext m m' → EnF m' v zE → K (.tuple #[bal 0 0, v, .bool false, .bool false]) m') : Ret Try.prog 17 [.pointer (some ⟨i, 0, none⟩), bal br bn] m K := by
  obtain ⟨va, vm, H⟩ := H
  refine ret_wp [(4, [7, 11])] Try.func17 rfl (by decide) (by kernel_rfl) ?_
  have li := H.li
  simp only [wk6, Nat.reduceBEq, wk1, forall_eq, Nat.reduceAdd, reduceIte, Nat.reduceEqDiff, reduceCtorEq, opLen, Int.reduceLT, Int.reduceEq, opConvert, opIndexAddr, Nat.reduceLT, undef, Nat.reduceLeDiff, Array.toList, bin_cneq, bin_cne, bin_bne, bin_beq, bld76n, bld37z, bin_vneq, oneOf_four, wk4, wk5, wk0, fxC16w]
  obtain ⟨m0, hm0⟩ : ∃ m0, m0 = ((m.new (.cells [.int .i64 br, .int .i64 bn] 37 true)).new (.cells [.int .i64 0, .int .i64 0] 37 true)).new (.cells [.int .u8 0, .int .u16 0, .int .u16 0, .int .i64 0, .slice none 0 0, .slice none 0 0] 45 true) := ⟨_, rfl⟩
  have x0 : Ext m m0 := by rw [hm0]; exact ((Ext.new _ _).trans (Ext.new _ _)).trans (Ext.new _ _)
  have nx0 : m0.next = m.next + 3 := by rw [hm0]; rfl
  have g0 : m0.get m.next = some (.cells [.int .i64 br, .int .i64 bn] 37 true) := by rw [hm0, new_get_ne _ (by simp only [new_next]; omega), new_get_ne _ (by simp only [new_next]; omega), new_get]
  have g1 : m0.get (m.next + 1) = some (.cells [.int .i64 0, .int .i64 0] 37 true) := by rw [hm0, new_get_ne _ (by simp only [new_next]; omega)]; exact new_get (m.new _) _
  have g2 : m0.get (m.next + 1 + 1) = some (.cells [.int .u8 0, .int .u16 0, .int .u16 0, .int .i64 0, .slice none 0 0, .slice none 0 0] 45 true) := by rw [hm0]; exact new_get ((m.new _).new _) _
  have H0 := H.ext x0
  have gi := H0.gi
  rw [← hm0]
  clear hm0
  have lp := vl0 gi
  have lb : ∀ M, Ext m0 M → opLoad Try.prog 37 (.pointer (some ⟨m.next, 0, none⟩)) M = some (bal br bn) := fun M y => load_agg (P := Try.prog) (t := 37) (sz := 2) (off := 0) ((y.2 m.next (by omega)).trans g0) (by simp only [aggOf, Try.underlying37]) ts37 (by simp)
  have lb0 := lb m0 (Ext.refl _)
  simp only [wk6, Nat.reduceBEq, wk1, forall_eq, Nat.reduceAdd, reduceIte, Nat.reduceEqDiff, reduceCtorEq, opLen, Int.reduceLT, Int.reduceEq, opConvert, opIndexAddr, Nat.reduceLT, undef, Nat.reduceLeDiff, Array.toList, bin_cneq, bin_cne, bin_bne, bin_beq, bld76n, bld37z, bin_vneq, oneOf_four, wk4, wk5, wk0, fxC16w, lp, lb0]
  refine less_ret fun m1 x1 => ?_
  have g1 := (x1.2 _ (by omega)).trans g1
  have g2 := (x1.2 _ (by omega)).trans g2
  have gi := (x1.2 _ (by omega)).trans gi
  simp only [wk6, Nat.reduceBEq, wk1, forall_eq, Nat.reduceAdd, reduceIte, Nat.reduceEqDiff, reduceCtorEq, opLen, Int.reduceLT, Int.reduceEq, opConvert, opIndexAddr, Nat.reduceLT, undef, Nat.reduceLeDiff, Array.toList, bin_cneq, bin_cne, bin_bne, bin_beq, bld76n, bld37z, bin_vneq, oneOf_four, wk4, wk5, wk0, fxC16w, hl, g1, g2]
  have gz : ((m1.set (m.next + 1) (.cells [.int .i64 0, .int .i64 0] 37 true)).set (m.next + 2) (.cells [.int .u8 0, .int .u16 0, .int .u16 0, .int .i64 0, .slice none 0 0, .slice none 0 0] 45 true)).get (m.next + 1) = some (.cells [.int .i64 0, .int .i64 0] 37 true) := by rw [set_get_ne _ (by omega), set_get]
  have l1 : opLoad Try.prog 37 (.pointer (some ⟨m.next + 1, 0, none⟩)) ((m1.set (m.next + 1) (.cells [.int .i64 0, .int .i64 0] 37 true)).set (m.next + 2) (.cells [.int .u8 0, .int .u16 0, .int .u16 0, .int .i64 0, .slice none 0 0, .slice none 0 0] 45 true)) = some (bal 0 0) := load_agg (P := Try.prog) (t := 37) (sz := 2) (off := 0) gz (by simp only [aggOf, Try.underlying37]) ts37 (by simp)
  have l2 : opLoad Try.prog 45 (.pointer (some ⟨m.next + 2, 0, none⟩)) ((m1.set (m.next + 1) (.cells [.int .i64 0, .int .i64 0] 37 true)).set (m.next + 2) (.cells [.int .u8 0, .int .u16 0, .int .u16 0, .int .i64 0, .slice none 0 0, .slice none 0 0] 45 true)) = some (entW 0 0 0 0 (.slice none 0 0) (.slice none 0 0)) := load_agg (P := Try.prog) (t := 45) (sz := 6) (off := 0) (set_get _ _ _) (by simp only [aggOf, Try.underlying45]) ts45 (by simp)
  simp only [l1, l2]
  exact hK _ _ (((x0.trans x1).set (by omega)).set (by omega)) ⟨_, _, rfl, FRow.nil, FRow.nil⟩
theorem promise_yes {m : Mem} {i : Nat} {V : Vo} {br bn : Int} (H : VoAt m i V) (hl : lessB V.pr V.pn br bn = true) {K : Value → Mem → Prop} (hK : ∀ m' v, VoAt m' i (V.prom br bn) → Pz m m' → (∀ j, j < m.next → j ≠ i → m'.get j = m.get j) → EnF m' v V.x → K (.tuple #[bal V.br V.bn, v, .bool V.s, .bool true]) m') : Ret Try.prog 17 [.pointer (some ⟨i, 0, none⟩), bal br bn] m K := by
  obtain ⟨va, vm, H⟩ := H
  refine ret_wp [(4, [7, 11])] Try.func17 rfl (by decide) (by kernel_rfl) ?_
  have li := H.li
  simp only [wk6, Nat.reduceBEq, wk1, forall_eq, Nat.reduceAdd, reduceIte, Nat.reduceEqDiff, reduceCtorEq, opLen, Int.reduceLT, Int.reduceEq, opConvert, opIndexAddr, Nat.reduceLT, undef, Nat.reduceLeDiff, Array.toList, bin_cneq, bin_cne, bin_bne, bin_beq, bld76n, bld37z, bin_vneq, oneOf_four, wk4, wk5, wk0, fxC16w]
  obtain ⟨m0, hm0⟩ : ∃ m0, m0 = ((m.new (.cells [.int .i64 br, .int .i64 bn] 37 true)).new (.cells [.int .i64 0, .int .i64 0] 37 true)).new (.cells [.int .u8 0, .int .u16 0, .int .u16 0, .int .i64 0, .slice none 0 0, .slice none 0 0] 45 true) := ⟨_, rfl⟩
  have x0 : Ext m m0 := by rw [hm0]; exact ((Ext.new _ _).trans (Ext.new _ _)).trans (Ext.new _ _)
  have nx0 : m0.next = m.next + 3 := by rw [hm0]; rfl
  have g0 : m0.get m.next = some (.cells [.int .i64 br, .int .i64 bn] 37 true) := by rw [hm0, new_get_ne _ (by simp only [new_next]; omega), new_get_ne _ (by simp only [new_next]; omega), new_get]
  have g1 : m0.get (m.next + 1) = some (.cells [.int .i64 0, .int .i64 0] 37 true) := by rw [hm0, new_get_ne _ (by simp only [new_next]; omega)]; exact new_get (m.new _) _
  have g2 : m0.get (m.next + 1 + 1) = some (.cells [.int .u8 0, .int .u16 0, .int .u16 0, .int .i64 0, .slice none 0 0, .slice none 0 0] 45 true) := by rw [hm0]; exact new_get ((m.new _).new _) _
  have H0 := H.ext x0
  have gi := H0.gi
  rw [← hm0]
  clear hm0
  have lp := vl0 gi
  have lb : ∀ M, Ext m0 M → opLoad Try.prog 37 (.pointer (some ⟨m.next, 0, none⟩)) M = some (bal br bn) := fun M y => load_agg (P := Try.prog) (t := 37) (sz := 2) (off := 0) ((y.2 m.next (by omega)).trans g0) (by simp only [aggOf, Try.underlying37]) ts37 (by simp)
  have lb0 := lb m0 (Ext.refl _)
  simp only [wk6, Nat.reduceBEq, wk1, forall_eq, Nat.reduceAdd, reduceIte, Nat.reduceEqDiff, reduceCtorEq, opLen, Int.reduceLT, Int.reduceEq, opConvert, opIndexAddr, Nat.reduceLT, undef, Nat.reduceLeDiff, Array.toList, bin_cneq, bin_cne, bin_bne, bin_beq, bld76n, bld37z, bin_vneq, oneOf_four, wk4, wk5, wk0, fxC16w, lp, lb0]
  refine less_ret fun m1 x1 => ?_
  have g1 := (x1.2 _ (by omega)).trans g1
  have g2 := (x1.2 _ (by omega)).trans g2
  have gi := (x1.2 _ (by omega)).trans gi
  have lb1 := lb m1 x1
  simp only [wk6, Nat.reduceBEq, wk1, forall_eq, Nat.reduceAdd, reduceIte, Nat.reduceEqDiff, reduceCtorEq, opLen, Int.reduceLT, Int.reduceEq, opConvert, opIndexAddr, Nat.reduceLT, undef, Nat.reduceLeDiff, Array.toList, bin_cneq, bin_cne, bin_bne, bin_beq, bld76n, bld37z, bin_vneq, oneOf_four, wk4, wk5, wk0, fxC16w, hl, g1, g2, gi, lb1]
  have xx := x0.trans x1
  have g3 := set_get m1 i (.cells (voC (V.prom br bn) va vm) 61 true)
  have q1 := vl3 g3
  have q2 := vl5 g3
  have q3 := vl2 g3
  dsimp only [voC, Vo.prom] at q1 q2 q3
  obtain ⟨a1, z1, rfl⟩ := H.fa.is
  obtain ⟨a2, z2, rfl⟩ := H.fm.is
  have h1 : ¬ m.next + 1 = i := by omega
  have h2 : ¬ m.next + 2 = i := by omega
  refine Loose.by (fun j => j = i) ?_
  simp only [wk6, Nat.reduceBEq, wk1, forall_eq, Nat.reduceAdd, reduceIte, Nat.reduceEqDiff, reduceCtorEq, opLen, Int.reduceLT, Int.reduceEq, opConvert, opIndexAddr, Nat.reduceLT, undef, Nat.reduceLeDiff, Array.toList, bin_cneq, bin_cne, bin_bne, bin_beq, bld76n, bld37z, bin_vneq, oneOf_four, wk4, wk5, wk0, fxC16w, q1, q2, q3, g1, g2, h1, h2]
  have h1' : ¬ i = m.next + 1 := fun h => h1 h.symm
  have h2' : ¬ i = m.next + 2 := fun h => h2 h.symm
  rw [if_neg h1', if_neg h2']
  refine ⟨vqE, rfl, rfl, ?_⟩
  obtain ⟨M, hM⟩ : ∃ M, M = ((m1.set i (.cells (voC (V.prom br bn) (.slice a1 V.x.args.length z1) (.slice a2 V.x.mem.length z2)) 61 true)).set (m.next + 1) (.cells [.int .i64 V.br, .int .i64 V.bn] 37 true)).set (m.next + 2) (.cells [.int .u8 V.x.kind, .int .u16 V.x.tr, .int .u16 V.x.nu, .int .i64 V.x.pc, .slice a1 V.x.args.length z1, .slice a2 V.x.mem.length z2] 45 true) := ⟨_, rfl⟩
  have e1 : M.get (m.next + 1) = some (.cells [.int .i64 V.br, .int .i64 V.bn] 37 true) := by rw [hM, set_get_ne _ (by omega), set_get]
  have e2 : M.get (m.next + 2) = some (.cells [.int .u8 V.x.kind, .int .u16 V.x.tr, .int .u16 V.x.nu, .int .i64 V.x.pc, .slice a1 V.x.args.length z1, .slice a2 V.x.mem.length z2] 45 true) := by rw [hM, set_get]
  have e3 : M.get i = some (.cells (voC (V.prom br bn) (.slice a1 V.x.args.length z1) (.slice a2 V.x.mem.length z2)) 61 true) := by rw [hM, set_get_ne _ h2', set_get_ne _ h1', set_get]
  have z1' : Pz m1 (m1.set i (.cells (voC (V.prom br bn) (.slice a1 V.x.args.length z1) (.slice a2 V.x.mem.length z2)) 61 true)) := Pz.set gi _
  have z : Pz m M := by
    rw [hM]
    refine xx.pz.trans (z1'.trans ((Pz.set (e := 37) (cs := [.int .i64 0, .int .i64 0]) ?_ _).trans (Pz.set (e := 45) (cs := [.int .u8 0, .int .u16 0, .int .u16 0, .int .i64 0, .slice none 0 0, .slice none 0 0]) ?_ _)))
    · rw [set_get_ne _ h1]; exact g1
    · rw [set_get_ne _ (by omega), set_get_ne _ h2]; exact g2
  have l1 : opLoad Try.prog 37 (.pointer (some ⟨m.next + 1, 0, none⟩)) M = some (bal V.br V.bn) := load_agg (P := Try.prog) (t := 37) (sz := 2) (off := 0) e1 (by simp only [aggOf, Try.underlying37]) ts37 (by simp)
  have l2 : opLoad Try.prog 45 (.pointer (some ⟨m.next + 2, 0, none⟩)) M = some (entW V.x.kind V.x.tr V.x.nu V.x.pc (.slice a1 V.x.args.length z1) (.slice a2 V.x.mem.length z2)) := load_agg (P := Try.prog) (t := 45) (sz := 6) (off := 0) e2 (by simp only [aggOf, Try.underlying45]) ts45 (by simp)
  have fr : ∀ j, j < m.next → j ≠ i → M.get j = m.get j := fun j hj hn => by rw [hM, set_get_ne _ (by omega), set_get_ne _ (by omega), set_get_ne _ hn, xx.2 j hj]
  have key : K (.tuple #[bal V.br V.bn, entW V.x.kind V.x.tr V.x.nu V.x.pc (.slice a1 V.x.args.length z1) (.slice a2 V.x.mem.length z2), .bool V.s, .bool true]) M := hK M _ ⟨_, _, e3, Nat.lt_of_lt_of_le li z.1, H.fa.pz z, H.fm.pz z⟩ z fr ⟨_, _, rfl, H.fa.pz z, H.fm.pz z⟩
  dsimp only [voC, Vo.prom] at hM
  rw [← hM]
  simp only [l1, l2]
  exact key
theorem accept_no {m : Mem} {i : Nat} {V : Vo} {br bn : Int} {v : Value} {X : Ent} (H : VoAt m i V) (hX : EnF m v X) (hl : lessB br bn V.pr V.pn = true) {K : Value → Mem → Prop} (hK : ∀ m', Ext m m' → K (.bool false) m') : Ret Try.prog 18 [.pointer (some ⟨i, 0, none⟩), bal br bn, v] m K := by
  obtain ⟨va, vm, H⟩ := H
  obtain ⟨v1, v2, rfl, f1, f2⟩ := hX
  obtain ⟨a1, z1, rfl⟩ := f1.is
  obtain ⟨a2, z2, rfl⟩ := f2.is
  refine ret_wp [(3, [5, 6])] Try.func18 rfl (by decide) (by kernel_rfl) ?_
  have li := H.li
  simp only [wk6, Nat.reduceBEq, wk1, forall_eq, Nat.reduceAdd, reduceIte, Nat.reduceEqDiff, reduceCtorEq, opLen, Int.reduceLT, Int.reduceEq, opConvert, opIndexAddr, Nat.reduceLT, undef, Nat.reduceLeDiff, Array.toList, bin_cneq, bin_cne, bin_bne, bin_beq, bld76n, bld37z, bin_vneq, oneOf_four, wk4, wk5, wk0, fxC16w]
  obtain ⟨m0, hm0⟩ : ∃ m0, m0 = (m.new (.cells [.int .i64 br, .int .i64 bn] 37 true)).new (.cells [.int .u8 X.kind, .int .u16 X.tr, .int .u16 X.nu, .int .i64 X.pc, .slice a1 X.args.length z1, .slice a2 X.mem.length z2] 45 true) := ⟨_, rfl⟩
  have x0 : Ext m m0 := by rw [hm0]; exact (Ext.new _ _).trans (Ext.new _ _)
  have nx0 : m0.next = m.next + 2 := by rw [hm0]; rfl
  have g0 : m0.get m.next = some (.cells [.int .i64 br, .int .i64 bn] 37 true) := by rw [hm0, new_get_ne _ (by simp only [new_next]; omega), new_get]
  have g1 : m0.get (m.next + 1) = some (.cells [.int .u8 X.kind, .int .u16 X.tr, .int .u16 X.nu, .int .i64 X.pc, .slice a1 X.args.length z1, .slice a2 X.mem.length z2] 45 true) := by rw [hm0]; exact new_get (m.new _) _
  have H0 := H.ext x0
  have gi := H0.gi
  rw [← hm0]
  clear hm0
  have lp := vl0 gi
  have lb : ∀ M, Ext m0 M → opLoad Try.prog 37 (.pointer (some ⟨m.next, 0, none⟩)) M = some (bal br bn) := fun M y => load_agg (P := Try.prog) (t := 37) (sz := 2) (off := 0) ((y.2 m.next (by omega)).trans g0) (by simp only [aggOf, Try.underlying37]) ts37 (by simp)
  have lx : ∀ M, Ext m0 M → opLoad Try.prog 45 (.pointer (some ⟨m.next + 1, 0, none⟩)) M = some (entW X.kind X.tr X.nu X.pc (.slice a1 X.args.length z1) (.slice a2 X.mem.length z2)) := fun M y => load_agg (P := Try.prog) (t := 45) (sz := 6) (off := 0) ((y.2 (m.next + 1) (by omega)).trans g1) (by simp only [aggOf, Try.underlying45]) ts45 (by simp)
  have lb0 := lb m0 (Ext.refl _)
  simp only [wk6, Nat.reduceBEq, wk1, forall_eq, Nat.reduceAdd, reduceIte, Nat.reduceEqDiff, reduceCtorEq, opLen, Int.reduceLT, Int.reduceEq, opConvert, opIndexAddr, Nat.reduceLT, undef, Nat.reduceLeDiff, Array.toList, bin_cneq, bin_cne, bin_bne, bin_beq, bld76n, bld37z, bin_vneq, oneOf_four, wk4, wk5, wk0, fxC16w, lp, lb0]
  refine less_ret fun m1 x1 => ?_
  have lb1 := lb m1 x1
  have lx1 := lx m1 x1
  have xx := x0.trans x1
  have gi := (x1.2 _ (by omega)).trans gi
  simp only [wk6, Nat.reduceBEq, wk1, forall_eq, Nat.reduceAdd, reduceIte, Nat.reduceEqDiff, reduceCtorEq, opLen, Int.reduceLT, Int.reduceEq, opConvert, opIndexAddr, Nat.reduceLT, undef, Nat.reduceLeDiff, Array.toList, bin_cneq, bin_cne, bin_bne, bin_beq, bld76n, bld37z, bin_vneq, oneOf_four, wk4, wk5, wk0, fxC16w, hl]
  exact hK _ xx
theorem accept_yes {m : Mem} {i : Nat} {V : Vo} {br bn : Int} {v : Value} {X : Ent} (H : VoAt m i V) (hX : EnF m v X) (hl : lessB br bn V.pr V.pn = false) {K : Value → Mem → Prop} (hK : ∀ m', VoAt m' i (Vo.acc br bn X) → Pz m m' → (∀ j, j < m.next → j ≠ i → m'.get j = m.get j) → K (.bool true) m') : Ret Try.prog 18 [.pointer (some ⟨i, 0, none⟩), bal br bn, v] m K := by
  obtain ⟨va, vm, H⟩ := H
  obtain ⟨v1, v2, rfl, f1, f2⟩ := hX
  obtain ⟨a1, z1, rfl⟩ := f1.is
  obtain ⟨a2, z2, rfl⟩ := f2.is
  refine ret_wp [(3, [5, 6])] Try.func18 rfl (by decide) (by kernel_rfl) ?_
  have li := H.li
  simp only [wk6, Nat.reduceBEq, wk1, forall_eq, Nat.reduceAdd, reduceIte, Nat.reduceEqDiff, reduceCtorEq, opLen, Int.reduceLT, Int.reduceEq, opConvert, opIndexAddr, Nat.reduceLT, undef, Nat.reduceLeDiff, Array.toList, bin_cneq, bin_cne, bin_bne, bin_beq, bld76n, bld37z, bin_vneq, oneOf_four, wk4, wk5, wk0, fxC16w]
  obtain ⟨m0, hm0⟩ : ∃ m0, m0 = (m.new (.cells [.int .i64 br, .int .i64 bn] 37 true)).new (.cells [.int .u8 X.kind, .int .u16 X.tr, .int .u16 X.nu, .int .i64 X.pc, .slice a1 X.args.length z1, .slice a2 X.mem.length z2] 45 true) := ⟨_, rfl⟩
  have x0 : Ext m m0 := by rw [hm0]; exact (Ext.new _ _).trans (Ext.new _ _)
  have nx0 : m0.next = m.next + 2 := by rw [hm0]; rfl
  have g0 : m0.get m.next = some (.cells [.int .i64 br, .int .i64 bn] 37 true) := by rw [hm0, new_get_ne _ (by simp only [new_next]; omega), new_get]
  have g1 : m0.get (m.next + 1) = some (.cells [.int .u8 X.kind, .int .u16 X.tr, .int .u16 X.nu, .int .i64 X.pc, .slice a1 X.args.length z1, .slice a2 X.mem.length z2] 45 true) := by rw [hm0]; exact new_get (m.new _) _
  have H0 := H.ext x0
  have gi := H0.gi
  rw [← hm0]
  clear hm0
  have lp := vl0 gi
  have lb : ∀ M, Ext m0 M → opLoad Try.prog 37 (.pointer (some ⟨m.next, 0, none⟩)) M = some (bal br bn) := fun M y => load_agg (P := Try.prog) (t := 37) (sz := 2) (off := 0) ((y.2 m.next (by omega)).trans g0) (by simp only [aggOf, Try.underlying37]) ts37 (by simp)
  have lx : ∀ M, Ext m0 M → opLoad Try.prog 45 (.pointer (some ⟨m.next + 1, 0, none⟩)) M = some (entW X.kind X.tr X.nu X.pc (.slice a1 X.args.length z1) (.slice a2 X.mem.length z2)) := fun M y => load_agg (P := Try.prog) (t := 45) (sz := 6) (off := 0) ((y.2 (m.next + 1) (by omega)).trans g1) (by simp only [aggOf, Try.underlying45]) ts45 (by simp)
  have lb0 := lb m0 (Ext.refl _)
  simp only [wk6, Nat.reduceBEq, wk1, forall_eq, Nat.reduceAdd, reduceIte, Nat.reduceEqDiff, reduceCtorEq, opLen, Int.reduceLT, Int.reduceEq, opConvert, opIndexAddr, Nat.reduceLT, undef, Nat.reduceLeDiff, Array.toList, bin_cneq, bin_cne, bin_bne, bin_beq, bld76n, bld37z, bin_vneq, oneOf_four, wk4, wk5, wk0, fxC16w, lp, lb0]
  refine less_ret fun m1 x1 => ?_
  have lb1 := lb m1 x1
  have lx1 := lx m1 x1
  have xx := x0.trans x1
  have gi := (x1.2 _ (by omega)).trans gi
  simp only [wk6, Nat.reduceBEq, wk1, forall_eq, Nat.reduceAdd, reduceIte, Nat.reduceEqDiff, reduceCtorEq, opLen, Int.reduceLT, Int.reduceEq, opConvert, opIndexAddr, Nat.reduceLT, undef, Nat.reduceLeDiff, Array.toList, bin_cneq, bin_cne, bin_bne, bin_beq, bld76n, bld37z, bin_vneq, oneOf_four, wk4, wk5, wk0, fxC16w, hl]
  refine Loose.by (fun j => j = m.next ∨ j = m.next + 1) ?_
  have h0' : ¬ m.next = i := by omega
  have h1' : ¬ m.next + 1 = i := by omega
  have h0 : ¬ i = m.next := by omega
  have h1 : ¬ i = m.next + 1 := by omega
  simp only [wk6, Nat.reduceBEq, wk1, forall_eq, Nat.reduceAdd, reduceIte, Nat.reduceEqDiff, reduceCtorEq, opLen, Int.reduceLT, Int.reduceEq, opConvert, opIndexAddr, Nat.reduceLT, undef, Nat.reduceLeDiff, Array.toList, bin_cneq, bin_cne, bin_bne, bin_beq, bld76n, bld37z, bin_vneq, oneOf_four, wk4, wk5, wk0, fxC16w, lb1, lx1, gi, h0, h1, h0', h1']
  refine ⟨.inl trivial, by simp [veq, veqList, veqCell], .inr trivial, vqE, ?_⟩
  rw [set_set, set_set, set_set]
  have z := xx.pz.trans (Pz.set gi (.cells (voC (Vo.acc br bn X) (.slice a1 X.args.length z1) (.slice a2 X.mem.length z2)) 61 true))
  exact hK _ ⟨_, _, set_get _ _ _, Nat.lt_of_lt_of_le li z.1, f1.pz z, f2.pz z⟩ z fun j hj hn => by rw [set_get_ne _ hn, xx.2 j hj]
end Go.Proofs.Ytgecmpgpinihhaa
