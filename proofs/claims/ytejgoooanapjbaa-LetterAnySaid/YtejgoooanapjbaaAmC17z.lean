/- A text of the abstract machine. -/

/- Letters: their bytes as they are meant. -/
import Derived.Test.YtejgoooanapjbaaAmC17x
import Derived.Test.YtejgoooanapjbaaAmBun
set_option linter.unusedSimpArgs false
set_option linter.unusedVariables false
set_option maxRecDepth 100000
set_option maxHeartbeats 4000000
namespace Go.Proofs.Ytejgoooanapjbaa
open Go Go.AM Go.AM.Crc Go.AM.Wire
theorem fxC17z : type_of% (And.intro (And.intro (And.intro (And.intro (And.intro (And.intro (And.intro (And.intro @Try.underlying3 @Try.underlying4) (And.intro @Try.underlying5 @Try.underlying9)) (And.intro (And.intro @Try.underlying42 @Try.underlying46) (And.intro @Try.underlying47 (And.intro @Try.underlying123 @Try.underlying23)))) (And.intro (And.intro (And.intro @Try.underlying26 @Try.underlying28) (And.intro @Try.underlying39 @Try.underlying41)) (And.intro (And.intro @Try.underlying44 @Try.underlying24) (And.intro @Try.underlying37 (And.intro @Try.underlying22 @Try.underlying0))))) (And.intro (And.intro (And.intro (And.intro @Try.underlying100 @Try.underlying66) (And.intro @Try.underlying68 @Try.underlying78)) (And.intro (And.intro @Try.underlying103 @Try.underlying49) (And.intro @Try.underlying34 (And.intro @Try.underlying36 @Try.underlying51)))) (And.intro (And.intro (And.intro @Try.underlying53 @Try.underlying55) (And.intro @Try.underlying88 @Try.underlying32)) (And.intro (And.intro @Try.underlying30 @Try.underlying61) (And.intro @Try.underlying63 (And.intro @Try.underlying90 @Try.underlying92)))))) (And.intro (And.intro (And.intro (And.intro (And.intro @Try.underlying94 @ts3) (And.intro @ts4 @ts5)) (And.intro (And.intro @ts9 @ts42) (And.intro @ts46 (And.intro @ts47 @ts123)))) (And.intro (And.intro (And.intro @ts23 @ts26) (And.intro @ts28 @ts39)) (And.intro (And.intro @ts41 @ts44) (And.intro @ts24 (And.intro @ts37 @ts22))))) (And.intro (And.intro (And.intro (And.intro @ts0 @ts100) (And.intro @ts66 @ts68)) (And.intro (And.intro @ts78 @ts103) (And.intro @ts49 (And.intro @ts34 @ts36)))) (And.intro (And.intro (And.intro @ts51 @ts53) (And.intro @ts55 @ts88)) (And.intro (And.intro @ts32 @ts30) (And.intro @ts61 (And.intro @ts63 @ts90))))))) (And.intro (And.intro (And.intro (And.intro (And.intro (And.intro @ts92 @ts94) (And.intro @tz3 @tz4)) (And.intro (And.intro @tz5 @tz9) (And.intro @tz42 (And.intro @tz46 @tz47)))) (And.intro (And.intro (And.intro @tz123 @tz23) (And.intro @tz26 @tz28)) (And.intro (And.intro @tz39 @tz41) (And.intro @tz44 (And.intro @tz24 @tz37))))) (And.intro (And.intro (And.intro (And.intro @tz22 @tz0) (And.intro @tz100 @tz66)) (And.intro (And.intro @tz68 @tz78) (And.intro @tz103 (And.intro @tz49 @tz34)))) (And.intro (And.intro (And.intro @tz36 @tz51) (And.intro @tz53 @tz55)) (And.intro (And.intro @tz88 @tz32) (And.intro @tz30 (And.intro @tz61 @tz63)))))) (And.intro (And.intro (And.intro (And.intro (And.intro @tz90 @tz92) (And.intro @tz94 @tb3)) (And.intro (And.intro @tb4 @tb5) (And.intro @tb9 (And.intro @tb42 @tb46)))) (And.intro (And.intro (And.intro @tb47 @tb123) (And.intro @tb23 @tb26)) (And.intro (And.intro @tb28 @tb39) (And.intro @tb41 (And.intro @tb44 @tb24))))) (And.intro (And.intro (And.intro (And.intro @tb37 @tb22) (And.intro @tb0 @tb100)) (And.intro (And.intro @tb66 @tb68) (And.intro @tb78 (And.intro @tb103 @tb49)))) (And.intro (And.intro (And.intro @tb34 @tb36) (And.intro @tb51 (And.intro @tb53 @tb55))) (And.intro (And.intro @tb88 @tb32) (And.intro @tb30 (And.intro @tb61 @tb63)))))))) (And.intro (And.intro (And.intro (And.intro (And.intro (And.intro (And.intro @tb90 @tb92) (And.intro @tb94 @fr8)) (And.intro (And.intro @fr9 @fr10) (And.intro @fr11 (And.intro @fr13 @fr15)))) (And.intro (And.intro (And.intro @fr16 @fr18) (And.intro @fr19 @fr20)) (And.intro (And.intro @fr21 @fr22) (And.intro @fr23 (And.intro @fr24 @fr25))))) (And.intro (And.intro (And.intro (And.intro @fr26 @fr27) (And.intro @fr28 @fr38)) (And.intro (And.intro @fr39 @fr40) (And.intro @fr41 (And.intro @fr42 @fr51)))) (And.intro (And.intro (And.intro @fr52 @fr53) (And.intro @fr54 @fr3)) (And.intro (And.intro @fr4 @fr5) (And.intro @fr6 (And.intro @fr7 @fr12)))))) (And.intro (And.intro (And.intro (And.intro (And.intro @fr14 @fr17) (And.intro @fr43 @fr44)) (And.intro (And.intro @fr45 @fr46) (And.intro @fr47 (And.intro @fr48 @fr49)))) (And.intro (And.intro (And.intro @fr50 @bz46) (And.intro @al46 @fa46_0)) (And.intro (And.intro @fa46_1 @bz28) (And.intro @bz26 (And.intro @bz41 @bz44))))) (And.intro (And.intro (And.intro (And.intro @al41 @al44) (And.intro @fa44_0 @fa44_1)) (And.intro (And.intro @fa44_2 @fa41_0) (And.intro @fa41_1 (And.intro @fa41_2 @fa28_0)))) (And.intro (And.intro (And.intro @fa28_1 @fa28_2) (And.intro @fa26_0 (And.intro @fa26_1 @fa26_2))) (And.intro (And.intro @fa26_3 @bz103) (And.intro @al68 (And.intro @al103 @fa68_0))))))) (And.intro (And.intro (And.intro (And.intro (And.intro (And.intro @fa103_0 @fa103_1) (And.intro @fa103_2 @bin_weq)) (And.intro (And.intro @bin_wneq @bin_req) (And.intro @bin_rneq (And.intro @bz39 @fa39_0)))) (And.intro (And.intro (And.intro @fa39_1 @bz68) (And.intro @bz49 @al49)) (And.intro (And.intro @fa49_0 @fa49_1) (And.intro @fa49_2 (And.intro @bz51 @al51))))) (And.intro (And.intro (And.intro (And.intro @fa51_0 @fa51_1) (And.intro @fa51_2 @fa51_3)) (And.intro (And.intro @fa51_4 @fa51_5) (And.intro @fa51_6 (And.intro @fa51_7 @fa51_8)))) (And.intro (And.intro (And.intro @fa51_9 @fa51_10) (And.intro @fa51_11 @bz36)) (And.intro (And.intro @al36 @fa36_0) (And.intro @fa36_1 (And.intro @oneOf_two @al24)))))) (And.intro (And.intro (And.intro (And.intro (And.intro @al90 @bz32) (And.intro @fa32_0 @fa32_1)) (And.intro (And.intro @fa32_2 @fa32_3) (And.intro @fa32_4 (And.intro @fa32_5 @fa32_6)))) (And.intro (And.intro (And.intro @fa32_7 @fa32_8) (And.intro @fa32_9 @fa32_10)) (And.intro (And.intro @fa32_11 @fa32_12) (And.intro @fa32_13 (And.intro @fa32_14 @fa32_15))))) (And.intro (And.intro (And.intro (And.intro @al32 @al28) (And.intro @al26 @fa30_0)) (And.intro (And.intro @fa30_1 @fa30_2) (And.intro @al30 (And.intro @bldI @set_set)))) (And.intro (And.intro (And.intro @bldL3 @bldB) (And.intro @vqB (And.intro @vqE @vqA))) (And.intro (And.intro @vqC @vqI) (And.intro @vqW (And.intro @al92 @al94))))))))) := (And.intro (And.intro (And.intro (And.intro (And.intro (And.intro (And.intro (And.intro @Try.underlying3 @Try.underlying4) (And.intro @Try.underlying5 @Try.underlying9)) (And.intro (And.intro @Try.underlying42 @Try.underlying46) (And.intro @Try.underlying47 (And.intro @Try.underlying123 @Try.underlying23)))) (And.intro (And.intro (And.intro @Try.underlying26 @Try.underlying28) (And.intro @Try.underlying39 @Try.underlying41)) (And.intro (And.intro @Try.underlying44 @Try.underlying24) (And.intro @Try.underlying37 (And.intro @Try.underlying22 @Try.underlying0))))) (And.intro (And.intro (And.intro (And.intro @Try.underlying100 @Try.underlying66) (And.intro @Try.underlying68 @Try.underlying78)) (And.intro (And.intro @Try.underlying103 @Try.underlying49) (And.intro @Try.underlying34 (And.intro @Try.underlying36 @Try.underlying51)))) (And.intro (And.intro (And.intro @Try.underlying53 @Try.underlying55) (And.intro @Try.underlying88 @Try.underlying32)) (And.intro (And.intro @Try.underlying30 @Try.underlying61) (And.intro @Try.underlying63 (And.intro @Try.underlying90 @Try.underlying92)))))) (And.intro (And.intro (And.intro (And.intro (And.intro @Try.underlying94 @ts3) (And.intro @ts4 @ts5)) (And.intro (And.intro @ts9 @ts42) (And.intro @ts46 (And.intro @ts47 @ts123)))) (And.intro (And.intro (And.intro @ts23 @ts26) (And.intro @ts28 @ts39)) (And.intro (And.intro @ts41 @ts44) (And.intro @ts24 (And.intro @ts37 @ts22))))) (And.intro (And.intro (And.intro (And.intro @ts0 @ts100) (And.intro @ts66 @ts68)) (And.intro (And.intro @ts78 @ts103) (And.intro @ts49 (And.intro @ts34 @ts36)))) (And.intro (And.intro (And.intro @ts51 @ts53) (And.intro @ts55 @ts88)) (And.intro (And.intro @ts32 @ts30) (And.intro @ts61 (And.intro @ts63 @ts90))))))) (And.intro (And.intro (And.intro (And.intro (And.intro (And.intro @ts92 @ts94) (And.intro @tz3 @tz4)) (And.intro (And.intro @tz5 @tz9) (And.intro @tz42 (And.intro @tz46 @tz47)))) (And.intro (And.intro (And.intro @tz123 @tz23) (And.intro @tz26 @tz28)) (And.intro (And.intro @tz39 @tz41) (And.intro @tz44 (And.intro @tz24 @tz37))))) (And.intro (And.intro (And.intro (And.intro @tz22 @tz0) (And.intro @tz100 @tz66)) (And.intro (And.intro @tz68 @tz78) (And.intro @tz103 (And.intro @tz49 @tz34)))) (And.intro (And.intro (And.intro @tz36 @tz51) (And.intro @tz53 @tz55)) (And.intro (And.intro @tz88 @tz32) (And.intro @tz30 (And.intro @tz61 @tz63)))))) (And.intro (And.intro (And.intro (And.intro (And.intro @tz90 @tz92) (And.intro @tz94 @tb3)) (And.intro (And.intro @tb4 @tb5) (And.intro @tb9 (And.intro @tb42 @tb46)))) (And.intro (And.intro (And.intro @tb47 @tb123) (And.intro @tb23 @tb26)) (And.intro (And.intro @tb28 @tb39) (And.intro @tb41 (And.intro @tb44 @tb24))))) (And.intro (And.intro (And.intro (And.intro @tb37 @tb22) (And.intro @tb0 @tb100)) (And.intro (And.intro @tb66 @tb68) (And.intro @tb78 (And.intro @tb103 @tb49)))) (And.intro (And.intro (And.intro @tb34 @tb36) (And.intro @tb51 (And.intro @tb53 @tb55))) (And.intro (And.intro @tb88 @tb32) (And.intro @tb30 (And.intro @tb61 @tb63)))))))) (And.intro (And.intro (And.intro (And.intro (And.intro (And.intro (And.intro @tb90 @tb92) (And.intro @tb94 @fr8)) (And.intro (And.intro @fr9 @fr10) (And.intro @fr11 (And.intro @fr13 @fr15)))) (And.intro (And.intro (And.intro @fr16 @fr18) (And.intro @fr19 @fr20)) (And.intro (And.intro @fr21 @fr22) (And.intro @fr23 (And.intro @fr24 @fr25))))) (And.intro (And.intro (And.intro (And.intro @fr26 @fr27) (And.intro @fr28 @fr38)) (And.intro (And.intro @fr39 @fr40) (And.intro @fr41 (And.intro @fr42 @fr51)))) (And.intro (And.intro (And.intro @fr52 @fr53) (And.intro @fr54 @fr3)) (And.intro (And.intro @fr4 @fr5) (And.intro @fr6 (And.intro @fr7 @fr12)))))) (And.intro (And.intro (And.intro (And.intro (And.intro @fr14 @fr17) (And.intro @fr43 @fr44)) (And.intro (And.intro @fr45 @fr46) (And.intro @fr47 (And.intro @fr48 @fr49)))) (And.intro (And.intro (And.intro @fr50 @bz46) (And.intro @al46 @fa46_0)) (And.intro (And.intro @fa46_1 @bz28) (And.intro @bz26 (And.intro @bz41 @bz44))))) (And.intro (And.intro (And.intro (And.intro @al41 @al44) (And.intro @fa44_0 @fa44_1)) (And.intro (And.intro @fa44_2 @fa41_0) (And.intro @fa41_1 (And.intro @fa41_2 @fa28_0)))) (And.intro (And.intro (And.intro @fa28_1 @fa28_2) (And.intro @fa26_0 (And.intro @fa26_1 @fa26_2))) (And.intro (And.intro @fa26_3 @bz103) (And.intro @al68 (And.intro @al103 @fa68_0))))))) (And.intro (And.intro (And.intro (And.intro (And.intro (And.intro @fa103_0 @fa103_1) (And.intro @fa103_2 @bin_weq)) (And.intro (And.intro @bin_wneq @bin_req) (And.intro @bin_rneq (And.intro @bz39 @fa39_0)))) (And.intro (And.intro (And.intro @fa39_1 @bz68) (And.intro @bz49 @al49)) (And.intro (And.intro @fa49_0 @fa49_1) (And.intro @fa49_2 (And.intro @bz51 @al51))))) (And.intro (And.intro (And.intro (And.intro @fa51_0 @fa51_1) (And.intro @fa51_2 @fa51_3)) (And.intro (And.intro @fa51_4 @fa51_5) (And.intro @fa51_6 (And.intro @fa51_7 @fa51_8)))) (And.intro (And.intro (And.intro @fa51_9 @fa51_10) (And.intro @fa51_11 @bz36)) (And.intro (And.intro @al36 @fa36_0) (And.intro @fa36_1 (And.intro @oneOf_two @al24)))))) (And.intro (And.intro (And.intro (And.intro (And.intro @al90 @bz32) (And.intro @fa32_0 @fa32_1)) (And.intro (And.intro @fa32_2 @fa32_3) (And.intro @fa32_4 (And.intro @fa32_5 @fa32_6)))) (And.intro (And.intro (And.intro @fa32_7 @fa32_8) (And.intro @fa32_9 @fa32_10)) (And.intro (And.intro @fa32_11 @fa32_12) (And.intro @fa32_13 (And.intro @fa32_14 @fa32_15))))) (And.intro (And.intro (And.intro (And.intro @al32 @al28) (And.intro @al26 @fa30_0)) (And.intro (And.intro @fa30_1 @fa30_2) (And.intro @al30 (And.intro @bldI @set_set)))) (And.intro (And.intro (And.intro @bldL3 @bldB) (And.intro @vqB (And.intro @vqE @vqA))) (And.intro (And.intro @vqC @vqI) (And.intro @vqW (And.intro @al92 @al94)))))))))
/-- A row that grows in a variable of its own, in block i, made in m0. -/
def OS (m0 : Mem) (i : Nat) (M : Mem) (bs : List Int) : Prop := ∃ r, Wr 24 5 M i r bs ∧ (r = i ∨ m0.next ≤ r) ∧ Fr2 i i m0 M
theorem OS.at {m0 M : Mem} {i j : Nat} {bs : List Int} (W : OS m0 i M bs) (hj : j < m0.next) (hn : j ≠ i) : M.get j = m0.get j := by
  obtain ⟨r, w, y, f⟩ := W
  exact f.2 j hj hn hn
theorem OS.ext {m m0 M : Mem} {i : Nat} {bs : List Int} (W : OS m0 i M bs) (x : Ext m m0) (h : m.next ≤ i) : Ext m M := by
  obtain ⟨r, w, y, f⟩ := W
  exact ⟨Nat.le_trans x.1 f.1, fun j hj => (f.2 j (Nat.lt_of_lt_of_le hj x.1) (by omega) (by omega)).trans (x.2 j hj)⟩
theorem os_step {m0 M M' : Mem} {i r r' : Nat} {bs' : List Int} (y : r = i ∨ m0.next ≤ r) (f : Fr2 i i m0 M) (w' : Wr 24 5 M' i r' bs') (y' : r' = r ∨ M.next ≤ r') (f' : Fr2 i r M M') : OS m0 i M' bs' :=
  ⟨r', w', by have := f.1; omega, f.trans f' y⟩
theorem OS.box {m0 M : Mem} {i : Nat} {bs : List Int} {B : Blk} (W : OS m0 i M bs) : OS m0 i (M.new B) bs := by
  obtain ⟨r, w, y, f⟩ := W
  exact ⟨r, w.ext (Ext.new _ _), y, f.trans ⟨Nat.le_succ _, fun j hj _ _ => new_get_ne _ (by omega)⟩ (.inl rfl)⟩
theorem os_val {M : Mem} {i r : Nat} {bs : List Int} (w : Wr 24 5 M i r bs) : ∃ a n q, M.get i = some (.cells [.slice a n q] 24 true) := by
  obtain ⟨_, _, ⟨_, _, h⟩ | ⟨_, h, _⟩⟩ := w
  · exact ⟨_, _, _, h⟩
  · exact ⟨_, _, _, h⟩
theorem oword_raw {M : Mem} {i r : Nat} {bs : List Int} {x : Int} (w : Wr 24 5 M i r bs) (h : 0 ≤ x ∧ x < 65536) (hl : bs.length < 2 ^ 36) {K : Value → Mem → Prop} (hK : ∀ M' r', Wr 24 5 M' i r' (bs ++ wordB x) → (r' = r ∨ M.next ≤ r') → Fr2 i r M M' → K (.tuple #[]) M') : Ret Try.prog 43 [.int .i64 x, .pointer (some ⟨i, 0, none⟩)] M K := by
  refine ret_wp [(0, [0])] Try.func43 rfl (by decide) (by kernel_rfl) ?_
  obtain ⟨a, n, q, hv⟩ := os_val w
  simp only [wk6, Nat.reduceBEq, wk1, forall_eq, Nat.reduceAdd, reduceIte, Nat.reduceEqDiff, reduceCtorEq, opLen, Int.reduceLT, Int.reduceEq, opConvert, opIndexAddr, opLoad, Nat.reduceLT, undef, Nat.reduceLeDiff, Array.toList, rowV, wk4, wk5, wk0, fxC17z]
  refine Loose.freshTo [(0, 0)] 4 (by kernel_rfl) (by kernel_rfl) ?_
  simp only [wk2, wk7, Nat.reduceBEq, Nat.reduceSub, Nat.reduceAdd, reduceIte, Nat.reduceEqDiff, reduceCtorEq, opLen, Int.reduceLT, Int.reduceEq, opConvert, opIndexAddr, opLoad, Nat.reduceLT, undef, Nat.reduceLeDiff, Array.toList, rowV, wk4, wk5, wk0, fxC17z, hv]
  refine refword_ret h.1 h.2 fun m1 r1 x1 n1 b1 => ?_
  have hv1 := (x1.2 i w.1).trans hv
  obtain ⟨u, m2, e, g2, c1, c2, c3, r', w', y', f'⟩ := w.push (tx := 24) wt x1 hv (added_bytes wt b1.shows) (by rw [wordB_length]; omega)
  unfold rowV at e
  have hv2 := g2
  simp only [wk2, wk7, Nat.reduceBEq, Nat.reduceSub, evOp, evParts, ev1, evs, evOpt, envOf, List.lookup_nil, List.size_toArray, List.length_cons, List.length_nil, List.range, List.range.loop, Nat.zero_add, Nat.reduceAdd, Bool.not_false, Bool.not_true, Bool.true_or, if_true, if_false, reduceIte, Nat.reduceEqDiff, reduceCtorEq, List.getElem?_toArray, List.getElem?_cons_zero, List.getElem?_cons_succ, guardOf, constOk, constCell, evBuiltin, opLen, List.head?_cons, foldV, min2V, max2V, Int.reduceLT, Int.reduceEq, Kend, resOf, Bool.false_eq_true, Bool.true_eq_false, IntKind.signed, IntKind.max, opConvert, opIndexAddr, opLoad, aggOf, Option.some.injEq, Value.bool.injEq, exists_eq_left', true_and, forall_const, decide_eq_true_eq, decide_eq_false_iff_not, Int.natCast_nonneg, and_self, Int.toNat_natCast, Nat.mul_one, List.append_nil, beq_self_eq_true, Nat.lt_irrefl, Nat.zero_lt_succ, Nat.reduceLT, Option.bind_some, undef, opBox, opStore, setCells, Nat.reduceLeDiff, Array.toList, rowV, wk5, wk0, fxC17z, okInt, hv, hv1, e, g2, c1, c2]
  exact hK _ _ w' y' f'
theorem oword_ret {m0 M : Mem} {i : Nat} {bs : List Int} {x : Int} (W : OS m0 i M bs) (h : 0 ≤ x ∧ x < 65536) (hl : bs.length < 2 ^ 36) {K : Value → Mem → Prop} (hK : ∀ M', OS m0 i M' (bs ++ wordB x) → K (.tuple #[]) M') : Ret Try.prog 43 [.int .i64 x, .pointer (some ⟨i, 0, none⟩)] M K := by
  obtain ⟨r, w, y, f⟩ := W
  exact oword_raw w h hl fun M' r' w' y' f' => hK _ (os_step y f w' y' f')
theorem olong_raw {M : Mem} {i r : Nat} {bs : List Int} {x : Int} (w : Wr 24 5 M i r bs) (h : 0 ≤ x ∧ x < 4294967296) (hl : bs.length < 2 ^ 36) {K : Value → Mem → Prop} (hK : ∀ M' r', Wr 24 5 M' i r' (bs ++ longB x) → (r' = r ∨ M.next ≤ r') → Fr2 i r M M' → K (.tuple #[]) M') : Ret Try.prog 45 [.int .i64 x, .pointer (some ⟨i, 0, none⟩)] M K := by
  refine ret_wp [(0, [0])] Try.func45 rfl (by decide) (by kernel_rfl) ?_
  obtain ⟨a, n, q, hv⟩ := os_val w
  have e32 : IntKind.u32.wrap x = x := u32_id h
  simp only [wk6, Nat.reduceBEq, wk1, forall_eq, Nat.reduceAdd, reduceIte, Nat.reduceEqDiff, reduceCtorEq, opLen, Int.reduceLT, Int.reduceEq, opConvert, opIndexAddr, opLoad, Nat.reduceLT, undef, Nat.reduceLeDiff, Array.toList, rowV, wk4, wk5, wk0, fxC17z]
  refine Loose.freshTo [(0, 0)] 5 (by kernel_rfl) (by kernel_rfl) ?_
  simp only [wk2, wk7, Nat.reduceBEq, Nat.reduceSub, Nat.reduceAdd, reduceIte, Nat.reduceEqDiff, reduceCtorEq, opLen, Int.reduceLT, Int.reduceEq, opConvert, opIndexAddr, opLoad, Nat.reduceLT, undef, Nat.reduceLeDiff, Array.toList, rowV, wk4, wk5, wk0, fxC17z, hv, e32]
  refine reflong_ret h.1 h.2 fun m1 r1 x1 n1 b1 => ?_
  have hv1 := (x1.2 i w.1).trans hv
  obtain ⟨u, m2, e, g2, c1, c2, c3, r', w', y', f'⟩ := w.push (tx := 24) wt x1 hv (added_bytes wt b1.shows) (by rw [longB_length]; omega)
  unfold rowV at e
  simp only [wk2, wk7, Nat.reduceBEq, Nat.reduceSub, evOp, evParts, ev1, evs, evOpt, envOf, List.lookup_nil, List.size_toArray, List.length_cons, List.length_nil, List.range, List.range.loop, Nat.zero_add, Nat.reduceAdd, Bool.not_false, Bool.not_true, Bool.true_or, if_true, if_false, reduceIte, Nat.reduceEqDiff, reduceCtorEq, List.getElem?_toArray, List.getElem?_cons_zero, List.getElem?_cons_succ, guardOf, constOk, constCell, evBuiltin, opLen, List.head?_cons, foldV, min2V, max2V, Int.reduceLT, Int.reduceEq, Kend, resOf, Bool.false_eq_true, Bool.true_eq_false, IntKind.signed, IntKind.max, opConvert, opIndexAddr, opLoad, aggOf, Option.some.injEq, Value.bool.injEq, exists_eq_left', true_and, forall_const, decide_eq_true_eq, decide_eq_false_iff_not, Int.natCast_nonneg, and_self, Int.toNat_natCast, Nat.mul_one, List.append_nil, beq_self_eq_true, Nat.lt_irrefl, Nat.zero_lt_succ, Nat.reduceLT, Option.bind_some, undef, opBox, opStore, setCells, Nat.reduceLeDiff, Array.toList, rowV, wk5, wk0, fxC17z, okInt, hv, hv1, e, g2, c1, c2]
  exact hK _ _ w' y' f'
theorem olong_ret {m0 M : Mem} {i : Nat} {bs : List Int} {x : Int} (W : OS m0 i M bs) (h : 0 ≤ x ∧ x < 4294967296) (hl : bs.length < 2 ^ 36) {K : Value → Mem → Prop} (hK : ∀ M', OS m0 i M' (bs ++ longB x) → K (.tuple #[]) M') : Ret Try.prog 45 [.int .i64 x, .pointer (some ⟨i, 0, none⟩)] M K := by
  obtain ⟨r, w, y, f⟩ := W
  exact olong_raw w h hl fun M' r' w' y' f' => hK _ (os_step y f w' y' f')
theorem oent_ret {m0 M : Mem} {i : Nat} {bs : List Int} {v : Value} {E : Ent} (W : OS m0 i M bs) (ft : Fit E) (he : EnF M v E) (hl : bs.length < 2 ^ 36) {K : Value → Mem → Prop} (hK : ∀ M', OS m0 i M' (bs ++ entB E) → K (.tuple #[]) M') : Ret Try.prog 48 [v, .pointer (some ⟨i, 0, none⟩)] M K := by
  refine ret_wp [(1, [0])] Try.func48 rfl (by decide) (by kernel_rfl) ?_
  obtain ⟨va, vb, rfl, s1, s2⟩ := he
  obtain ⟨a1, z1, rfl⟩ := s1.is
  obtain ⟨a2, z2, rfl⟩ := s2.is
  simp only [wk6, Nat.reduceBEq, wk1, forall_eq, Nat.reduceAdd, reduceIte, Nat.reduceEqDiff, reduceCtorEq, opLen, Int.reduceLT, Int.reduceEq, opConvert, opIndexAddr, opLoad, Nat.reduceLT, undef, Nat.reduceLeDiff, Array.toList, rowV, wk4, wk5, wk0, fxC17z]
  obtain ⟨Z, hZ⟩ : ∃ Z, Z = Blk.cells [.int .u8 E.kind, .int .u16 E.tr, .int .u16 E.nu, .int .i64 E.pc, .slice a1 E.args.length z1, .slice a2 E.mem.length z2] 44 true := ⟨_, rfl⟩
  rw [← hZ]
  have W0 := OS.box (B := Z) W
  have x0 := Ext.new M Z
  have gz := new_get M Z
  have nx : (M.new Z).next = M.next + 1 := rfl
  generalize M.new Z = M0 at W0 x0 gz nx ⊢
  subst hZ
  obtain ⟨r, w, y, f⟩ := W0
  obtain ⟨a, n, q, hv⟩ := os_val w
  refine Loose.freshTo [(0, 0)] 4 (by kernel_rfl) (by kernel_rfl) ?_
  simp only [wk2, wk7, Nat.reduceBEq, Nat.reduceSub, Nat.reduceAdd, reduceIte, Nat.reduceEqDiff, reduceCtorEq, opLen, Int.reduceLT, Int.reduceEq, opConvert, opIndexAddr, opLoad, Nat.reduceLT, undef, Nat.reduceLeDiff, Array.toList, rowV, wk4, wk5, wk0, fxC17z, hv, gz]
  refine vbytes_ret ft ⟨_, _, rfl, s1.pz x0.pz, s2.pz x0.pz⟩ fun m1 r1 x1 n1 b1 => ?_
  have hv1 := (x1.2 i w.1).trans hv
  have el := entB_len ft
  obtain ⟨u, m2, e, g2, c1, c2, c3, r', w', y', f'⟩ := w.push (tx := 24) wt x1 hv (added_bytes wt b1.shows) (by omega)
  unfold rowV at e
  simp only [wk2, wk7, Nat.reduceBEq, Nat.reduceSub, evOp, evParts, ev1, evs, evOpt, envOf, List.lookup_nil, List.size_toArray, List.length_cons, List.length_nil, List.range, List.range.loop, Nat.zero_add, Nat.reduceAdd, Bool.not_false, Bool.not_true, Bool.true_or, if_true, if_false, reduceIte, Nat.reduceEqDiff, reduceCtorEq, List.getElem?_toArray, List.getElem?_cons_zero, List.getElem?_cons_succ, guardOf, constOk, constCell, evBuiltin, opLen, List.head?_cons, foldV, min2V, max2V, Int.reduceLT, Int.reduceEq, Kend, resOf, Bool.false_eq_true, Bool.true_eq_false, IntKind.signed, IntKind.max, opConvert, opIndexAddr, opLoad, aggOf, Option.some.injEq, Value.bool.injEq, exists_eq_left', true_and, forall_const, decide_eq_true_eq, decide_eq_false_iff_not, Int.natCast_nonneg, and_self, Int.toNat_natCast, Nat.mul_one, List.append_nil, beq_self_eq_true, Nat.lt_irrefl, Nat.zero_lt_succ, Nat.reduceLT, Option.bind_some, undef, opBox, opStore, setCells, Nat.reduceLeDiff, Array.toList, rowV, wk5, wk0, fxC17z, okInt, hv, hv1, e, g2, c1, c2]
  exact hK _ (os_step y f w' y' f')
theorem oballot_ret {m0 M : Mem} {i p5 p4 : Nat} {bs : List Int} {x n : Int} (W : OS m0 i M bs) (h : (0 ≤ x ∧ x < 4294967296) ∧ 0 ≤ n ∧ n < 16) (q5 : p5 < m0.next ∧ p5 ≠ i) (q4 : p4 < m0.next ∧ p4 ≠ i) (g5 : m0.get p5 = some (.cells [.func (.func 45) #[] #[.pointer (some ⟨i, 0, none⟩)]] 90 true)) (g4 : m0.get p4 = some (.cells [.func (.func 43) #[] #[.pointer (some ⟨i, 0, none⟩)]] 90 true)) (hl : bs.length < 2 ^ 35)
    {K : Value → Mem → Prop} (hK : ∀ M', OS m0 i M' (bs ++ balB x n) → K (.tuple #[]) M') : Ret Try.prog 47 [bal x n, .pointer (some ⟨p5, 0, none⟩), .pointer (some ⟨p4, 0, none⟩)] M K := by
  refine ret_wp [] Try.func47 rfl (by decide) (by kernel_rfl) ?_
  obtain ⟨r, w, y, f⟩ := W
  have hm0 : m0.next ≤ M.next := f.1
  have hne5 : ¬ p5 = M.next := by omega
  have hne4 : ¬ p4 = M.next := by omega
  have c5 := (f.2 p5 q5.1 q5.2 q5.2).trans g5
  simp only [Nat.reduceAdd, reduceIte, Nat.reduceEqDiff, reduceCtorEq, opLen, Int.reduceLT, Int.reduceEq, opConvert, opIndexAddr, opLoad, Nat.reduceLT, undef, Nat.reduceLeDiff, Array.toList, rowV, wk4, wk5, wk0, fxC17z, hne5, c5]
  obtain ⟨Z, hZ⟩ : ∃ Z, Z = Blk.cells [.int .i64 x, .int .i64 n] 36 true := ⟨_, rfl⟩
  rw [← hZ]
  have hi := w.1
  have hr := w.2.1
  have gz := new_get M Z
  have nx : (M.new Z).next = M.next + 1 := rfl
  have e5 : (M.new Z).get p5 = _ := ((new_get_ne _ (by omega)).trans (f.2 p5 q5.1 q5.2 q5.2)).trans g5
  have e4 : (M.new Z).get p4 = _ := ((new_get_ne _ (by omega)).trans (f.2 p4 q4.1 q4.2 q4.2)).trans g4
  have w0 := w.ext (Ext.new M Z)
  have f0 : Fr2 i i m0 (M.new Z) := f.trans ⟨Nat.le_succ _, fun j hj _ _ => new_get_ne _ (by omega)⟩ (.inl rfl)
  generalize M.new Z = M0 at w0 f0 gz nx e5 e4 ⊢
  subst hZ
  have rn : ∀ p, p < m0.next → p ≠ i → p ≠ r := fun p hp hn => by omega
  refine olong_raw w0 h.1 (by omega) fun M1 r1 w1 y1 f1 => ?_
  have e4' := (f1.2 p4 (by omega) q4.2 (rn p4 q4.1 q4.2)).trans e4
  have gz' := (f1.2 M.next (by omega) (by omega) (by omega)).trans gz
  simp only [Nat.reduceAdd, reduceIte, Nat.reduceEqDiff, reduceCtorEq, opLen, Int.reduceLT, Int.reduceEq, opConvert, opIndexAddr, opLoad, Nat.reduceLT, undef, Nat.reduceLeDiff, Array.toList, rowV, wk4, wk5, wk0, fxC17z, e4', gz']
  have f01 := f0.trans f1 y
  refine oword_raw w1 (by omega) (by rw [List.length_append, longB_length]; omega) fun M2 r2 w2 y2 f2 => ?_
  simp only [Nat.reduceAdd, reduceIte, Nat.reduceEqDiff, reduceCtorEq, opLen, Int.reduceLT, Int.reduceEq, opConvert, opIndexAddr, opLoad, Nat.reduceLT, undef, Nat.reduceLeDiff, Array.toList, rowV, wk4, wk5, wk0, fxC17z]
  rw [List.append_assoc] at w2
  exact hK _ (os_step (r := r1) (by have := f0.1; omega) f01 w2 y2 f2)
theorem letB_len6 (L : Let) : (letB L).length = (bodyB L).length + 6 := by simp only [letB, List.length_append, wordB_length]; omega
theorem bldE1r (t n p : Int) (a : Option Addr) (l z : Nat) : opBuild Try.prog 44 [(0, .int .u8 1), (1, .agg #[.int .u16 t, .int .u16 n, .int .i64 p, .slice a l z])] = some (.agg #[.int .u8 1, .int .u16 t, .int .u16 n, .int .i64 p, .slice a l z, .slice none 0 0]) := by kernel_rfl
theorem meant_ret {m : Mem} {v : Value} {L : Let} (h : LetF m v L) (F : LFit L) (ok : Ok L) (ty : Ty L) {K : Value → Mem → Prop} (hK : ∀ m' r, Ext m m' → m.next ≤ r → Byr m' r (letB L) → K (rowV r (letB L)) m') : Ret Try.prog 14 [v] m K := by
  obtain ⟨ea, em, vm, ca, aa, rfl, h⟩ := h
  obtain ⟨a1, z1, rfl⟩ := h.ea.is
  obtain ⟨a2, z2, rfl⟩ := h.em.is
  obtain ⟨a3, z3, rfl⟩ := h.vm.is
  obtain ⟨a4, z4, rfl⟩ := h.ca.is
  obtain ⟨a5, z5, rfl⟩ := h.aa.is
  obtain ⟨ck, cf, ct, cp, cb, cw, cE, cvn, cvm⟩ := id F
  have ek : IntKind.i64.wrap L.kd = L.kd := wrap_i64 (by omega) (by omega)
  have et : IntKind.i64.wrap L.it = L.it := wrap_i64 (by have := ty.it; omega) (by have := ty.it; omega)
  have en : IntKind.i64.wrap L.nn = L.nn := wrap_i64 (by have := ty.nn; omega) (by have := ty.nn; omega)
  refine ret_wp [(24, [0]), (37, [0])] Try.func14 rfl (by decide) (by kernel_rfl) ?_
  simp only [wk6, Nat.reduceBEq, wk1, forall_eq, Nat.reduceAdd, reduceIte, Nat.reduceEqDiff, reduceCtorEq, opLen, Int.reduceLT, Int.reduceEq, opConvert, opIndexAddr, opLoad, Nat.reduceLT, undef, Nat.reduceLeDiff, Array.toList, rowV, wk4, wk5, wk0, fxC17z, ek]
  obtain ⟨bo, hbo⟩ : ∃ b, b = m.next + 1 := ⟨_, rfl⟩
  obtain ⟨p4, hp4⟩ : ∃ b, b = m.next + 2 := ⟨_, rfl⟩
  obtain ⟨p5, hp5⟩ : ∃ b, b = m.next + 3 := ⟨_, rfl⟩
  obtain ⟨m0, hm0⟩ : ∃ M, M = (((((m.new (.cells (letC L (.slice a1 L.E.args.length z1) (.slice a2 L.E.mem.length z2) (.slice a3 L.vm.length z3) (.slice a4 L.C.s.length z4) (.slice a5 L.A.s.length z5)) 51 true)).new (.cells [.slice none 0 0] 24 true)).new (.cells [.nilFunc] 90 true)).set (m.next + 2) (.cells [.func (.func 43) #[] #[.pointer (some ⟨m.next + 1, 0, none⟩)]] 90 true)).new (.cells [.nilFunc] 90 true)).set (m.next + 3) (.cells [.func (.func 45) #[] #[.pointer (some ⟨m.next + 1, 0, none⟩)]] 90 true) := ⟨_, rfl⟩
  have xm : Ext m m0 := by rw [hm0]; exact (((((Ext.new _ _).trans (Ext.new _ _)).trans (Ext.new _ _)).set (by omega)).trans (Ext.new _ _)).set (by omega)
  have n0 : m0.next = m.next + 4 := by rw [hm0]; rfl
  have g1 : m0.get m.next = some (.cells (letC L (.slice a1 L.E.args.length z1) (.slice a2 L.E.mem.length z2) (.slice a3 L.vm.length z3) (.slice a4 L.C.s.length z4) (.slice a5 L.A.s.length z5)) 51 true) := by
    rw [hm0, set_get_ne _ (by omega), new_get_ne _ (by simp only [set_next, new_next]; omega), set_get_ne _ (by omega), new_get_ne _ (by simp only [new_next]; omega), new_get_ne _ (by simp only [new_next]; omega), new_get]
  have go : m0.get bo = some (.cells [.slice none 0 0] 24 true) := by
    rw [hm0, hbo, set_get_ne _ (by omega), new_get_ne _ (by simp only [set_next, new_next]; omega), set_get_ne _ (by omega), new_get_ne _ (by simp only [new_next]; omega)]
    exact new_get (m.new _) _
  have g4 : m0.get p4 = some (.cells [.func (.func 43) #[] #[.pointer (some ⟨bo, 0, none⟩)]] 90 true) := by
    rw [hm0, hp4, hbo, set_get_ne _ (by omega), new_get_ne _ (by simp only [set_next, new_next]; omega), set_get]
  have g5 : m0.get p5 = some (.cells [.func (.func 45) #[] #[.pointer (some ⟨bo, 0, none⟩)]] 90 true) := by
    rw [hm0, hp5, hbo, set_get]
  rw [← hm0]
  clear hm0
  rw [← hbo, ← hp4, ← hp5]
  have hi : m.next ≤ bo := by omega
  have W : OS m0 bo m0 [] := ⟨bo, ⟨by omega, by omega, .inl ⟨rfl, rfl, go⟩⟩, .inl rfl, Fr2.refl⟩
  have G1 : ∀ {M bs}, OS m0 bo M bs → M.get m.next = _ := fun W => (W.at (by omega) (by omega)).trans g1
  have G4 : ∀ {M bs}, OS m0 bo M bs → M.get p4 = _ := fun W => (W.at (by omega) (by omega)).trans g4
  have G5 : ∀ {M bs}, OS m0 bo M bs → M.get p5 = _ := fun W => (W.at (by omega) (by omega)).trans g5
  have H : ∀ {M bs}, OS m0 bo M bs → Ext m M := fun W => W.ext xm hi
  have q5 : p5 < m0.next ∧ p5 ≠ bo := by omega
  have q4 : p4 < m0.next ∧ p4 ≠ bo := by omega
  refine oword_ret W (by omega) (by simp) fun M W => ?_
  have c1 := G1 W
  have c4 := G4 W
  simp only [wk6, Nat.reduceBEq, wk1, forall_eq, Nat.reduceAdd, reduceIte, Nat.reduceEqDiff, reduceCtorEq, opLen, Int.reduceLT, Int.reduceEq, opConvert, opIndexAddr, opLoad, Nat.reduceLT, undef, Nat.reduceLeDiff, Array.toList, rowV, wk4, wk5, wk0, fxC17z, c1, c4]
  refine oword_ret W (by omega) (by simp [wordB_length]) fun M W => ?_
  have c1 := G1 W
  have c4 := G4 W
  simp only [wk6, Nat.reduceBEq, wk1, forall_eq, Nat.reduceAdd, reduceIte, Nat.reduceEqDiff, reduceCtorEq, opLen, Int.reduceLT, Int.reduceEq, opConvert, opIndexAddr, opLoad, Nat.reduceLT, undef, Nat.reduceLeDiff, Array.toList, rowV, wk4, wk5, wk0, fxC17z, c1, c4]
  refine oword_ret W (by omega) (by simp [wordB_length]) fun M W => ?_
  have e0 : letB L = [] ++ wordB L.kd ++ wordB L.fr ++ wordB L.to ++ bodyB L := by simp only [letB, List.append_assoc, List.nil_append]
  have k8 : L.kd = 0 ∨ L.kd = 3 ∨ L.kd = 1 ∨ L.kd = 2 ∨ L.kd = 4 ∨ L.kd = 5 ∨ L.kd = 6 ∨ L.kd = 7 := by omega
  obtain ⟨B, hB⟩ : ∃ B, B = [] ++ wordB L.kd ++ wordB L.fr ++ wordB L.to := ⟨_, rfl⟩
  have hBl : B.length = 6 := by rw [hB]; rfl
  rw [← hB] at W e0
  clear hB
  unfold bodyB at e0
  have c1 := G1 W
  have c5 := G5 W
  rcases k8 with k | k | k | k | k | k | k | k
  · rw [if_pos (.inl k)] at e0
    have s6 := decide_eq_true (show L.kd < 6 by omega)
    have s4 := decide_eq_true (show L.kd < 4 by omega)
    have t1 := decide_eq_false (show ¬ L.kd = 1 by omega)
    have t2 := decide_eq_false (show ¬ L.kd = 2 by omega)
    have t4 := decide_eq_false (show ¬ L.kd = 4 by omega)
    have t6 := decide_eq_false (show ¬ L.kd = 6 by omega)
    have t7 := decide_eq_false (show ¬ L.kd = 7 by omega)
    simp only [wk6, Nat.reduceBEq, wk1, forall_eq, Nat.reduceAdd, reduceIte, Nat.reduceEqDiff, reduceCtorEq, opLen, Int.reduceLT, Int.reduceEq, opConvert, opIndexAddr, opLoad, Nat.reduceLT, undef, Nat.reduceLeDiff, Array.toList, rowV, wk4, wk5, wk0, fxC17z, c1, c5, s6]
    refine olong_ret W (cp (by omega)) (by omega) fun M W => ?_
    have c1 := G1 W
    simp only [wk6, Nat.reduceBEq, wk1, forall_eq, Nat.reduceAdd, reduceIte, Nat.reduceEqDiff, reduceCtorEq, opLen, Int.reduceLT, Int.reduceEq, opConvert, opIndexAddr, opLoad, Nat.reduceLT, undef, Nat.reduceLeDiff, Array.toList, rowV, wk4, wk5, wk0, fxC17z, c1, s4]
    refine oballot_ret W (cb (by omega)) q5 q4 g5 g4 (by simp only [List.length_append, longB_length, balB_length, wordB_length]; omega) fun M W => ?_
    have c1 := G1 W
    have c4 := G4 W
    have eB : letB L = B ++ longB L.pl ++ balB L.br L.bn := by rw [e0]; simp only [List.append_assoc]
    obtain ⟨r, w, y, f⟩ := id W
    have Xf := W.ext xm hi
    obtain ⟨w1, w2, ⟨w3, w4, w5⟩ | ⟨w3, w4, w5⟩⟩ := w
    · exact absurd (congrArg List.length w4) (by rw [← eB, letB_len6]; simp)
    · rw [← eB] at w4 w5
      simp only [wk6, Nat.reduceBEq, wk1, forall_eq, Nat.reduceAdd, reduceIte, Nat.reduceEqDiff, reduceCtorEq, opLen, Int.reduceLT, Int.reduceEq, opConvert, opIndexAddr, opLoad, Nat.reduceLT, undef, Nat.reduceLeDiff, Array.toList, rowV, wk4, wk5, wk0, fxC17z, c1, s6, s4, t1, t2, t4, t6, t7, w4]
      exact hK _ r Xf (by have := xm.1; omega) ⟨w2, w5⟩
  · rw [if_pos (.inr k)] at e0
    have s6 := decide_eq_true (show L.kd < 6 by omega)
    have s4 := decide_eq_true (show L.kd < 4 by omega)
    have t1 := decide_eq_false (show ¬ L.kd = 1 by omega)
    have t2 := decide_eq_false (show ¬ L.kd = 2 by omega)
    have t4 := decide_eq_false (show ¬ L.kd = 4 by omega)
    have t6 := decide_eq_false (show ¬ L.kd = 6 by omega)
    have t7 := decide_eq_false (show ¬ L.kd = 7 by omega)
    simp only [wk6, Nat.reduceBEq, wk1, forall_eq, Nat.reduceAdd, reduceIte, Nat.reduceEqDiff, reduceCtorEq, opLen, Int.reduceLT, Int.reduceEq, opConvert, opIndexAddr, opLoad, Nat.reduceLT, undef, Nat.reduceLeDiff, Array.toList, rowV, wk4, wk5, wk0, fxC17z, c1, c5, s6]
    refine olong_ret W (cp (by omega)) (by omega) fun M W => ?_
    have c1 := G1 W
    simp only [wk6, Nat.reduceBEq, wk1, forall_eq, Nat.reduceAdd, reduceIte, Nat.reduceEqDiff, reduceCtorEq, opLen, Int.reduceLT, Int.reduceEq, opConvert, opIndexAddr, opLoad, Nat.reduceLT, undef, Nat.reduceLeDiff, Array.toList, rowV, wk4, wk5, wk0, fxC17z, c1, s4]
    refine oballot_ret W (cb (by omega)) q5 q4 g5 g4 (by simp only [List.length_append, longB_length, balB_length, wordB_length]; omega) fun M W => ?_
    have c1 := G1 W
    have c4 := G4 W
    have eB : letB L = B ++ longB L.pl ++ balB L.br L.bn := by rw [e0]; simp only [List.append_assoc]
    obtain ⟨r, w, y, f⟩ := id W
    have Xf := W.ext xm hi
    obtain ⟨w1, w2, ⟨w3, w4, w5⟩ | ⟨w3, w4, w5⟩⟩ := w
    · exact absurd (congrArg List.length w4) (by rw [← eB, letB_len6]; simp)
    · rw [← eB] at w4 w5
      simp only [wk6, Nat.reduceBEq, wk1, forall_eq, Nat.reduceAdd, reduceIte, Nat.reduceEqDiff, reduceCtorEq, opLen, Int.reduceLT, Int.reduceEq, opConvert, opIndexAddr, opLoad, Nat.reduceLT, undef, Nat.reduceLeDiff, Array.toList, rowV, wk4, wk5, wk0, fxC17z, c1, s6, s4, t1, t2, t4, t6, t7, w4]
      exact hK _ r Xf (by have := xm.1; omega) ⟨w2, w5⟩
  · rw [if_neg (by omega), if_pos k] at e0
    have s6 := decide_eq_true (show L.kd < 6 by omega)
    have s4 := decide_eq_true (show L.kd < 4 by omega)
    have t1 := decide_eq_true (show L.kd = 1 by omega)
    have t2 := decide_eq_false (show ¬ L.kd = 2 by omega)
    have t4 := decide_eq_false (show ¬ L.kd = 4 by omega)
    have t6 := decide_eq_false (show ¬ L.kd = 6 by omega)
    have t7 := decide_eq_false (show ¬ L.kd = 7 by omega)
    simp only [wk6, Nat.reduceBEq, wk1, forall_eq, Nat.reduceAdd, reduceIte, Nat.reduceEqDiff, reduceCtorEq, opLen, Int.reduceLT, Int.reduceEq, opConvert, opIndexAddr, opLoad, Nat.reduceLT, undef, Nat.reduceLeDiff, Array.toList, rowV, wk4, wk5, wk0, fxC17z, c1, c5, s6]
    refine olong_ret W (cp (by omega)) (by omega) fun M W => ?_
    have c1 := G1 W
    simp only [wk6, Nat.reduceBEq, wk1, forall_eq, Nat.reduceAdd, reduceIte, Nat.reduceEqDiff, reduceCtorEq, opLen, Int.reduceLT, Int.reduceEq, opConvert, opIndexAddr, opLoad, Nat.reduceLT, undef, Nat.reduceLeDiff, Array.toList, rowV, wk4, wk5, wk0, fxC17z, c1, s4]
    refine oballot_ret W (cb (by omega)) q5 q4 g5 g4 (by simp only [List.length_append, longB_length, balB_length, wordB_length]; omega) fun M W => ?_
    have c1 := G1 W
    have c4 := G4 W
    cases hs : L.sm with
    | false =>
      rw [if_neg (by rw [hs]; decide)] at e0
      simp only [wk6, Nat.reduceBEq, wk1, forall_eq, Nat.reduceAdd, reduceIte, Nat.reduceEqDiff, reduceCtorEq, opLen, Int.reduceLT, Int.reduceEq, opConvert, opIndexAddr, opLoad, Nat.reduceLT, undef, Nat.reduceLeDiff, Array.toList, rowV, wk4, wk5, wk0, fxC17z, c1, c4, t1, hs, s4]
      refine oword_ret W (by omega) (by simp only [List.length_append, longB_length, balB_length, wordB_length]; omega) fun M W => ?_
      have c1 := G1 W
      have eB : letB L = B ++ longB L.pl ++ balB L.br L.bn ++ wordB 0 := by rw [e0]; simp only [List.append_assoc]
      obtain ⟨r, w, y, f⟩ := id W
      have Xf := W.ext xm hi
      obtain ⟨w1, w2, ⟨w3, w4, w5⟩ | ⟨w3, w4, w5⟩⟩ := w
      · exact absurd (congrArg List.length w4) (by rw [← eB, letB_len6]; simp)
      · rw [← eB] at w4 w5
        simp only [wk6, Nat.reduceBEq, wk1, forall_eq, Nat.reduceAdd, reduceIte, Nat.reduceEqDiff, reduceCtorEq, opLen, Int.reduceLT, Int.reduceEq, opConvert, opIndexAddr, opLoad, Nat.reduceLT, undef, Nat.reduceLeDiff, Array.toList, rowV, wk4, wk5, wk0, fxC17z, c1, s6, s4, t1, t2, t4, t6, t7, w4]
        exact hK _ r Xf (by have := xm.1; omega) ⟨w2, w5⟩
    | true =>
      rw [if_pos hs] at e0
      simp only [wk6, Nat.reduceBEq, wk1, forall_eq, Nat.reduceAdd, reduceIte, Nat.reduceEqDiff, reduceCtorEq, opLen, Int.reduceLT, Int.reduceEq, opConvert, opIndexAddr, opLoad, Nat.reduceLT, undef, Nat.reduceLeDiff, Array.toList, rowV, wk4, wk5, wk0, fxC17z, c1, c4, t1, hs, s4]
      refine oword_ret W (by omega) (by simp only [List.length_append, longB_length, balB_length, wordB_length]; omega) fun M W => ?_
      have c1 := G1 W
      simp only [wk6, Nat.reduceBEq, wk1, forall_eq, Nat.reduceAdd, reduceIte, Nat.reduceEqDiff, reduceCtorEq, opLen, Int.reduceLT, Int.reduceEq, opConvert, opIndexAddr, opLoad, Nat.reduceLT, undef, Nat.reduceLeDiff, Array.toList, rowV, wk4, wk5, wk0, fxC17z, c1]
      refine oballot_ret W (cw k hs) q5 q4 g5 g4 (by simp only [List.length_append, longB_length, balB_length, wordB_length]; omega) fun M W => ?_
      have c1 := G1 W
      simp only [wk6, Nat.reduceBEq, wk1, forall_eq, Nat.reduceAdd, reduceIte, Nat.reduceEqDiff, reduceCtorEq, opLen, Int.reduceLT, Int.reduceEq, opConvert, opIndexAddr, opLoad, Nat.reduceLT, undef, Nat.reduceLeDiff, Array.toList, rowV, wk4, wk5, wk0, fxC17z, c1]
      refine oent_ret W (cE (.inl ⟨k, hs⟩)) ⟨_, _, rfl, h.ea.pz (H W).pz, h.em.pz (H W).pz⟩ (by simp only [List.length_append, longB_length, balB_length, wordB_length]; omega) fun M W => ?_
      have c1 := G1 W
      have eB : letB L = B ++ longB L.pl ++ balB L.br L.bn ++ wordB 1 ++ balB L.wr L.wn ++ entB L.E := by rw [e0]; simp only [List.append_assoc]
      obtain ⟨r, w, y, f⟩ := id W
      have Xf := W.ext xm hi
      obtain ⟨w1, w2, ⟨w3, w4, w5⟩ | ⟨w3, w4, w5⟩⟩ := w
      · exact absurd (congrArg List.length w4) (by rw [← eB, letB_len6]; simp)
      · rw [← eB] at w4 w5
        simp only [wk6, Nat.reduceBEq, wk1, forall_eq, Nat.reduceAdd, reduceIte, Nat.reduceEqDiff, reduceCtorEq, opLen, Int.reduceLT, Int.reduceEq, opConvert, opIndexAddr, opLoad, Nat.reduceLT, undef, Nat.reduceLeDiff, Array.toList, rowV, wk4, wk5, wk0, fxC17z, c1, s6, s4, t1, t2, t4, t6, t7, w4]
        exact hK _ r Xf (by have := xm.1; omega) ⟨w2, w5⟩
  · rw [if_neg (by omega), if_neg (by omega), if_pos k] at e0
    have s6 := decide_eq_true (show L.kd < 6 by omega)
    have s4 := decide_eq_true (show L.kd < 4 by omega)
    have t1 := decide_eq_false (show ¬ L.kd = 1 by omega)
    have t2 := decide_eq_true (show L.kd = 2 by omega)
    have t4 := decide_eq_false (show ¬ L.kd = 4 by omega)
    have t6 := decide_eq_false (show ¬ L.kd = 6 by omega)
    have t7 := decide_eq_false (show ¬ L.kd = 7 by omega)
    simp only [wk6, Nat.reduceBEq, wk1, forall_eq, Nat.reduceAdd, reduceIte, Nat.reduceEqDiff, reduceCtorEq, opLen, Int.reduceLT, Int.reduceEq, opConvert, opIndexAddr, opLoad, Nat.reduceLT, undef, Nat.reduceLeDiff, Array.toList, rowV, wk4, wk5, wk0, fxC17z, c1, c5, s6]
    refine olong_ret W (cp (by omega)) (by omega) fun M W => ?_
    have c1 := G1 W
    simp only [wk6, Nat.reduceBEq, wk1, forall_eq, Nat.reduceAdd, reduceIte, Nat.reduceEqDiff, reduceCtorEq, opLen, Int.reduceLT, Int.reduceEq, opConvert, opIndexAddr, opLoad, Nat.reduceLT, undef, Nat.reduceLeDiff, Array.toList, rowV, wk4, wk5, wk0, fxC17z, c1, s4]
    refine oballot_ret W (cb (by omega)) q5 q4 g5 g4 (by simp only [List.length_append, longB_length, balB_length, wordB_length]; omega) fun M W => ?_
    have c1 := G1 W
    have c4 := G4 W
    simp only [wk6, Nat.reduceBEq, wk1, forall_eq, Nat.reduceAdd, reduceIte, Nat.reduceEqDiff, reduceCtorEq, opLen, Int.reduceLT, Int.reduceEq, opConvert, opIndexAddr, opLoad, Nat.reduceLT, undef, Nat.reduceLeDiff, Array.toList, rowV, wk4, wk5, wk0, fxC17z, c1, t1, t2, s4]
    refine oent_ret W (cE (.inr (.inl k))) ⟨_, _, rfl, h.ea.pz (H W).pz, h.em.pz (H W).pz⟩ (by simp only [List.length_append, longB_length, balB_length, wordB_length]; omega) fun M W => ?_
    have c1 := G1 W
    have eB : letB L = B ++ longB L.pl ++ balB L.br L.bn ++ entB L.E := by rw [e0]; simp only [List.append_assoc]
    obtain ⟨r, w, y, f⟩ := id W
    have Xf := W.ext xm hi
    obtain ⟨w1, w2, ⟨w3, w4, w5⟩ | ⟨w3, w4, w5⟩⟩ := w
    · exact absurd (congrArg List.length w4) (by rw [← eB, letB_len6]; simp)
    · rw [← eB] at w4 w5
      simp only [wk6, Nat.reduceBEq, wk1, forall_eq, Nat.reduceAdd, reduceIte, Nat.reduceEqDiff, reduceCtorEq, opLen, Int.reduceLT, Int.reduceEq, opConvert, opIndexAddr, opLoad, Nat.reduceLT, undef, Nat.reduceLeDiff, Array.toList, rowV, wk4, wk5, wk0, fxC17z, c1, s6, s4, t1, t2, t4, t6, t7, w4]
      exact hK _ r Xf (by have := xm.1; omega) ⟨w2, w5⟩
  · rw [if_neg (by omega), if_neg (by omega), if_neg (by omega), if_pos k] at e0
    have s6 := decide_eq_true (show L.kd < 6 by omega)
    have s4 := decide_eq_false (show ¬ L.kd < 4 by omega)
    have t1 := decide_eq_false (show ¬ L.kd = 1 by omega)
    have t2 := decide_eq_false (show ¬ L.kd = 2 by omega)
    have t4 := decide_eq_true (show L.kd = 4 by omega)
    have t6 := decide_eq_false (show ¬ L.kd = 6 by omega)
    have t7 := decide_eq_false (show ¬ L.kd = 7 by omega)
    simp only [wk6, Nat.reduceBEq, wk1, forall_eq, Nat.reduceAdd, reduceIte, Nat.reduceEqDiff, reduceCtorEq, opLen, Int.reduceLT, Int.reduceEq, opConvert, opIndexAddr, opLoad, Nat.reduceLT, undef, Nat.reduceLeDiff, Array.toList, rowV, wk4, wk5, wk0, fxC17z, c1, c5, s6]
    refine olong_ret W (cp (by omega)) (by omega) fun M W => ?_
    have c1 := G1 W
    simp only [wk6, Nat.reduceBEq, wk1, forall_eq, Nat.reduceAdd, reduceIte, Nat.reduceEqDiff, reduceCtorEq, opLen, Int.reduceLT, Int.reduceEq, opConvert, opIndexAddr, opLoad, Nat.reduceLT, undef, Nat.reduceLeDiff, Array.toList, rowV, wk4, wk5, wk0, fxC17z, c1, t1, t2, t4, s4]
    refine oent_ret W (cE (.inr (.inr k))) ⟨_, _, rfl, h.ea.pz (H W).pz, h.em.pz (H W).pz⟩ (by simp only [List.length_append, longB_length, balB_length, wordB_length]; omega) fun M W => ?_
    have c1 := G1 W
    have eB : letB L = B ++ longB L.pl ++ entB L.E := by rw [e0]; simp only [List.append_assoc]
    obtain ⟨r, w, y, f⟩ := id W
    have Xf := W.ext xm hi
    obtain ⟨w1, w2, ⟨w3, w4, w5⟩ | ⟨w3, w4, w5⟩⟩ := w
    · exact absurd (congrArg List.length w4) (by rw [← eB, letB_len6]; simp)
    · rw [← eB] at w4 w5
      simp only [wk6, Nat.reduceBEq, wk1, forall_eq, Nat.reduceAdd, reduceIte, Nat.reduceEqDiff, reduceCtorEq, opLen, Int.reduceLT, Int.reduceEq, opConvert, opIndexAddr, opLoad, Nat.reduceLT, undef, Nat.reduceLeDiff, Array.toList, rowV, wk4, wk5, wk0, fxC17z, c1, s6, s4, t1, t2, t4, t6, t7, w4]
      exact hK _ r Xf (by have := xm.1; omega) ⟨w2, w5⟩
  · rw [if_neg (by omega), if_neg (by omega), if_neg (by omega), if_neg (by omega), if_pos k] at e0
    have s6 := decide_eq_true (show L.kd < 6 by omega)
    have s4 := decide_eq_false (show ¬ L.kd < 4 by omega)
    have t1 := decide_eq_false (show ¬ L.kd = 1 by omega)
    have t2 := decide_eq_false (show ¬ L.kd = 2 by omega)
    have t4 := decide_eq_false (show ¬ L.kd = 4 by omega)
    have t6 := decide_eq_false (show ¬ L.kd = 6 by omega)
    have t7 := decide_eq_false (show ¬ L.kd = 7 by omega)
    simp only [wk6, Nat.reduceBEq, wk1, forall_eq, Nat.reduceAdd, reduceIte, Nat.reduceEqDiff, reduceCtorEq, opLen, Int.reduceLT, Int.reduceEq, opConvert, opIndexAddr, opLoad, Nat.reduceLT, undef, Nat.reduceLeDiff, Array.toList, rowV, wk4, wk5, wk0, fxC17z, c1, c5, s6]
    refine olong_ret W (cp (by omega)) (by omega) fun M W => ?_
    have c1 := G1 W
    have eB : letB L = B ++ longB L.pl := by rw [e0]
    obtain ⟨r, w, y, f⟩ := id W
    have Xf := W.ext xm hi
    obtain ⟨w1, w2, ⟨w3, w4, w5⟩ | ⟨w3, w4, w5⟩⟩ := w
    · exact absurd (congrArg List.length w4) (by rw [← eB, letB_len6]; simp)
    · rw [← eB] at w4 w5
      simp only [wk6, Nat.reduceBEq, wk1, forall_eq, Nat.reduceAdd, reduceIte, Nat.reduceEqDiff, reduceCtorEq, opLen, Int.reduceLT, Int.reduceEq, opConvert, opIndexAddr, opLoad, Nat.reduceLT, undef, Nat.reduceLeDiff, Array.toList, rowV, wk4, wk5, wk0, fxC17z, c1, s6, s4, t1, t2, t4, t6, t7, w4]
      exact hK _ r Xf (by have := xm.1; omega) ⟨w2, w5⟩
  · rw [if_neg (by omega), if_neg (by omega), if_neg (by omega), if_neg (by omega), if_neg (by omega), if_pos k] at e0
    have s6 := decide_eq_false (show ¬ L.kd < 6 by omega)
    have s4 := decide_eq_false (show ¬ L.kd < 4 by omega)
    have t1 := decide_eq_false (show ¬ L.kd = 1 by omega)
    have t2 := decide_eq_false (show ¬ L.kd = 2 by omega)
    have t4 := decide_eq_false (show ¬ L.kd = 4 by omega)
    have t6 := decide_eq_true (show L.kd = 6 by omega)
    have t7 := decide_eq_false (show ¬ L.kd = 7 by omega)
    simp only [wk6, Nat.reduceBEq, wk1, forall_eq, Nat.reduceAdd, reduceIte, Nat.reduceEqDiff, reduceCtorEq, opLen, Int.reduceLT, Int.reduceEq, opConvert, opIndexAddr, opLoad, Nat.reduceLT, undef, Nat.reduceLeDiff, Array.toList, rowV, wk4, wk5, wk0, fxC17z, c1, s6, s4, t1, t2, t4, t6]
    obtain ⟨r, w, y, f⟩ := id W
    obtain ⟨av, nv, qv, hv⟩ := os_val w
    refine Loose.freshTo [(0, 0)] 7 (by kernel_rfl) (by kernel_rfl) ?_
    simp only [wk2, wk7, Nat.reduceBEq, Nat.reduceSub, Nat.reduceAdd, reduceIte, Nat.reduceEqDiff, reduceCtorEq, opLen, Int.reduceLT, Int.reduceEq, opConvert, opIndexAddr, opLoad, Nat.reduceLT, undef, Nat.reduceLeDiff, Array.toList, rowV, wk4, wk5, wk0, fxC17z, hv, c1, bldE1r]
    have ft : Fit ⟨1, L.C.t, L.C.n, L.C.p, L.C.s, []⟩ := ⟨.inr (.inl rfl), fun h => absurd rfl h, fun _ => rfl, ty.ct, ty.cn, ok.cp, ty.cb, ok.cs, Nat.zero_le _, fun x hx => by simp at hx, fun h => by exact absurd h (by show ¬ (1 : Int) = 2; decide)⟩
    refine vbytes_ret ft ⟨_, _, rfl, h.ca.pz (H W).pz, FRow.nil⟩ fun m1 r1 x1 n1 b1 => ?_
    have eE : entB ⟨1, L.C.t, L.C.n, L.C.p, L.C.s, []⟩ = wordB 1 ++ callB L.C.t L.C.n L.C.p L.C.s := ent1 rfl
    rw [eE] at b1 ⊢
    have hv1 := (x1.2 bo w.1).trans hv
    have cl := callB_length L.C.t L.C.n L.C.p L.C.s
    have cs4 := ok.cs
    have hlen : (wordB 1 ++ callB L.C.t L.C.n L.C.p L.C.s).length = 2 + (callB L.C.t L.C.n L.C.p L.C.s).length := by rw [List.length_append, wordB_length]
    obtain ⟨sl, s1, s2, s3⟩ := b1.shows.cut (P := Try.prog) (t := 24) Try.underlying24 ts5 (lo := some (.int .i64 2)) (hi := none) (l := 2) (k := (wordB 1 ++ callB L.C.t L.C.n L.C.p L.C.s).length) (by simp [boundOf]) (by simp [boundOf, byteCells_length]) (by omega) (by rw [byteCells_length]; omega)
    have e2 : ((byteCells (wordB 1 ++ callB L.C.t L.C.n L.C.p L.C.s)).drop 2).take ((wordB 1 ++ callB L.C.t L.C.n L.C.p L.C.s).length - 2) = byteCells (callB L.C.t L.C.n L.C.p L.C.s) := by
      rw [byteCells_append, List.drop_left' (by rw [byteCells_length, wordB_length]), List.take_of_length_le (by rw [byteCells_length]; omega)]
    rw [e2] at s2
    obtain ⟨u, m2, e, g2, d1, d2, d3, r', w', y', f'⟩ := w.push (tx := 24) wt x1 hv (added_bytes wt s2) (by omega)
    have s1' : opSlice Try.prog 24 (.slice (some ⟨r1, 0, none⟩) ((wordB 1).length + (callB L.C.t L.C.n L.C.p L.C.s).length) 1) (some (.int .i64 2)) none = some sl := by
      have q := s1
      rw [rowV, List.length_append] at q
      exact q
    simp only [wk2, wk7, Nat.reduceBEq, Nat.reduceSub, evOp, evParts, ev1, evs, evOpt, envOf, List.lookup_nil, List.size_toArray, List.length_cons, List.length_nil, List.range, List.range.loop, Nat.zero_add, Nat.reduceAdd, Bool.not_false, Bool.not_true, Bool.true_or, if_true, if_false, reduceIte, Nat.reduceEqDiff, reduceCtorEq, List.getElem?_toArray, List.getElem?_cons_zero, List.getElem?_cons_succ, guardOf, constOk, constCell, evBuiltin, opLen, List.head?_cons, foldV, min2V, max2V, Int.reduceLT, Int.reduceEq, Kend, resOf, Bool.false_eq_true, Bool.true_eq_false, IntKind.signed, IntKind.max, opConvert, opIndexAddr, opLoad, aggOf, Option.some.injEq, Value.bool.injEq, exists_eq_left', true_and, forall_const, decide_eq_true_eq, decide_eq_false_iff_not, Int.natCast_nonneg, and_self, Int.toNat_natCast, Nat.mul_one, List.append_nil, beq_self_eq_true, Nat.lt_irrefl, Nat.zero_lt_succ, Nat.reduceLT, Option.bind_some, undef, opBox, opStore, setCells, Nat.reduceLeDiff, Array.toList, rowV, wk5, wk0, fxC17z, okInt, s1', hv, hv1, e, g2, d1, d2]
    have W : OS m0 bo (m2.set bo (.cells [u] 24 true)) (B ++ callB L.C.t L.C.n L.C.p L.C.s) := os_step y f w' y' f'
    have hu : (m2.set bo (.cells [u] 24 true)).get bo = some (.cells [u] 24 true) := set_get _ _ _
    clear w y f hv w' y' f' e hv1 g2
    generalize m2.set bo (.cells [u] 24 true) = M at W hu ⊢
    have eB : letB L = B ++ callB L.C.t L.C.n L.C.p L.C.s := by rw [e0]
    obtain ⟨r, w, y, f⟩ := id W
    have Xf := W.ext xm hi
    obtain ⟨w1, w2, ⟨w3, w4, w5⟩ | ⟨w3, w4, w5⟩⟩ := w
    · exact absurd (congrArg List.length w4) (by rw [← eB, letB_len6]; simp)
    · rw [← eB] at w4 w5
      rw [w4] at hu
      simp only [Option.some.injEq, Blk.cells.injEq, List.cons.injEq, and_true] at hu
      obtain rfl := hu
      exact hK _ r Xf (by have := xm.1; omega) ⟨w2, w5⟩
  · rw [if_neg (by omega), if_neg (by omega), if_neg (by omega), if_neg (by omega), if_neg (by omega), if_neg (by omega)] at e0
    have s6 := decide_eq_false (show ¬ L.kd < 6 by omega)
    have s4 := decide_eq_false (show ¬ L.kd < 4 by omega)
    have t1 := decide_eq_false (show ¬ L.kd = 1 by omega)
    have t2 := decide_eq_false (show ¬ L.kd = 2 by omega)
    have t4 := decide_eq_false (show ¬ L.kd = 4 by omega)
    have t6 := decide_eq_false (show ¬ L.kd = 6 by omega)
    have t7 := decide_eq_true (show L.kd = 7 by omega)
    have hm := memCk_fit (cvm k)
    have aer := ok.ae
    have aqr := ok.aq
    have eae : IntKind.i64.wrap L.A.e = L.A.e := wrap_i64 (by omega) (by omega)
    have c4 := G4 W
    simp only [wk6, Nat.reduceBEq, wk1, forall_eq, Nat.reduceAdd, reduceIte, Nat.reduceEqDiff, reduceCtorEq, opLen, Int.reduceLT, Int.reduceEq, opConvert, opIndexAddr, opLoad, Nat.reduceLT, undef, Nat.reduceLeDiff, Array.toList, rowV, wk4, wk5, wk0, fxC17z, c1, c4, s6, s4, t1, t2, t4, t6, t7, et]
    refine oword_ret W ty.it (by omega) fun M W => ?_
    have c1 := G1 W
    have c4 := G4 W
    simp only [wk6, Nat.reduceBEq, wk1, forall_eq, Nat.reduceAdd, reduceIte, Nat.reduceEqDiff, reduceCtorEq, opLen, Int.reduceLT, Int.reduceEq, opConvert, opIndexAddr, opLoad, Nat.reduceLT, undef, Nat.reduceLeDiff, Array.toList, rowV, wk4, wk5, wk0, fxC17z, c1, c4, en]
    refine oword_ret W ty.nn (by simp only [List.length_append, longB_length, balB_length, wordB_length]; omega) fun M W => ?_
    have c1 := G1 W
    have c5 := G5 W
    simp only [wk6, Nat.reduceBEq, wk1, forall_eq, Nat.reduceAdd, reduceIte, Nat.reduceEqDiff, reduceCtorEq, opLen, Int.reduceLT, Int.reduceEq, opConvert, opIndexAddr, opLoad, Nat.reduceLT, undef, Nat.reduceLeDiff, Array.toList, rowV, wk4, wk5, wk0, fxC17z, c1, c5]
    refine olong_ret W (cvn k) (by simp only [List.length_append, longB_length, balB_length, wordB_length]; omega) fun M W => ?_
    have c1 := G1 W
    have c4 := G4 W
    have lv : opLen Try.prog (some 42) (.slice a3 L.vm.length z3) = some (.int .i64 L.vm.length) := h.vm.len Try.underlying42
    simp only [wk6, Nat.reduceBEq, wk1, forall_eq, Nat.reduceAdd, reduceIte, Nat.reduceEqDiff, reduceCtorEq, Int.reduceLT, Int.reduceEq, opConvert, opIndexAddr, opLoad, Nat.reduceLT, undef, Nat.reduceLeDiff, Array.toList, rowV, wk4, wk5, wk0, fxC17z, c1, c4, lv]
    refine oword_ret W (by omega) (by simp only [List.length_append, longB_length, balB_length, wordB_length]; omega) fun M W => ?_
    have c1 := G1 W
    simp only [wk6, Nat.reduceBEq, wk1, forall_eq, Nat.reduceAdd, reduceIte, Nat.reduceEqDiff, reduceCtorEq, Int.reduceLT, Int.reduceEq, opConvert, opIndexAddr, opLoad, Nat.reduceLT, undef, Nat.reduceLeDiff, Array.toList, rowV, wk4, wk5, wk0, fxC17z, c1, lv]
    obtain ⟨C, hC⟩ : ∃ C, C = B ++ wordB L.it ++ wordB L.nn ++ longB L.vn ++ wordB L.vm.length := ⟨_, rfl⟩
    have hCl : C.length = 16 := by rw [hC]; simp only [List.length_append, wordB_length, longB_length]; omega
    rw [← hC] at W
    refine loop_wp [] (by kernel_rfl) (fun k env μ => ∃ (j : Nat) (bs : List Int), k + j = L.vm.length ∧ bs = C ++ (L.vm.take j).flatMap wordB ∧ bs.length = C.length + j * 2 ∧ OS m0 bo μ bs ∧ env 1 = some (.pointer (some ⟨m.next, 0, none⟩)) ∧ env 3 = some (.pointer (some ⟨bo, 0, none⟩)) ∧ env 4 = some (.pointer (some ⟨p4, 0, none⟩)) ∧ env 103 = some (.slice a3 L.vm.length z3) ∧ env 104 = some (.int .i64 L.vm.length) ∧ env 105 = some (.int .i64 j)) ?_ L.vm.length
      ⟨0, C, rfl, by simp, by omega, W, rfl, rfl, rfl, rfl, rfl, rfl⟩
    rintro q env μ ⟨j, bs, hk, hbs, hbl, W, e1, e3, e4, e103, e104, e105⟩
    simp only [wk6, Nat.reduceBEq, wk1, forall_eq, Nat.reduceAdd, reduceIte, Nat.reduceEqDiff, reduceCtorEq, opLen, Int.reduceLT, Int.reduceEq, opConvert, opIndexAddr, opLoad, Nat.reduceLT, undef, Nat.reduceLeDiff, Array.toList, rowV, wk4, wk5, wk0, fxC17z, e104, e105]
    refine cond_by (fun hlt => ?_) (fun hge => ?_)
    · have hj' : j < L.vm.length := by omega
      have hj : j < (intCells L.vm).length := by simp only [intCells, List.length_map]; omega
      obtain ⟨p1, i1, s1, _⟩ := ((h.vm.pz (H W).pz).shows).at (P := Try.prog) Try.underlying42 ts3 (by simp only [aggOf, Try.underlying3]) hj
      have ev : (intCells L.vm)[j] = .int .i64 L.vm[j] := by simp only [intCells, List.getElem_map]
      rw [ev] at s1
      have hx := hm.2.2 L.vm[j] (List.getElem_mem _)
      have c4 := G4 W
      simp only [wk6, Nat.reduceBEq, wk1, forall_eq, Nat.reduceAdd, reduceIte, Nat.reduceEqDiff, reduceCtorEq, opLen, Int.reduceLT, Int.reduceEq, opConvert, Nat.reduceLT, undef, Nat.reduceLeDiff, Array.toList, rowV, wk4, wk5, wk0, fxC17z, e1, e3, e4, e103, e104, e105, i1, s1]
      have l4 : opLoad Try.prog 90 (.pointer (some ⟨p4, 0, none⟩)) μ = some (.func (.func 43) #[] #[.pointer (some ⟨bo, 0, none⟩)]) := load_cell c4 (by simp only [aggOf, Try.underlying90]) rfl
      simp only [wk6, Nat.reduceBEq, wk1, forall_eq, Nat.reduceAdd, reduceIte, Nat.reduceEqDiff, reduceCtorEq, opLen, Int.reduceLT, Int.reduceEq, opConvert, opIndexAddr, Nat.reduceLT, undef, Nat.reduceLeDiff, Array.toList, rowV, wk4, wk5, wk0, fxC17z, l4, e1, e3, e4, e103, e104, e105]
      refine oword_ret W (by omega) (by omega) fun M W => ?_
      have hw1 : IntKind.i64.wrap ((j : Int) + 1) = ((j + 1 : Nat) : Int) := by rw [wrap_i64 (by omega) (by omega)]; rfl
      simp only [wk6, Nat.reduceBEq, wk1, forall_eq, Nat.reduceAdd, reduceIte, Nat.reduceEqDiff, reduceCtorEq, opLen, Int.reduceLT, Int.reduceEq, opConvert, opIndexAddr, opLoad, Nat.reduceLT, undef, Nat.reduceLeDiff, Array.toList, rowV, wk4, wk5, wk0, fxC17z, e1, e3, e4, e103, e104, e105, hw1]
      exact ⟨q - 1, by omega, j + 1, _, by omega, by rw [flat_succ _ hj', ← List.append_assoc, ← hbs], by rw [List.length_append, wordB_length]; omega, W, rfl⟩
    · have hj : j = L.vm.length := by omega
      subst hj
      have c1 := G1 W
      have c4 := G4 W
      simp only [wk6, Nat.reduceBEq, wk1, forall_eq, Nat.reduceAdd, reduceIte, Nat.reduceEqDiff, reduceCtorEq, opLen, Int.reduceLT, Int.reduceEq, opConvert, opIndexAddr, opLoad, Nat.reduceLT, undef, Nat.reduceLeDiff, Array.toList, rowV, wk4, wk5, wk0, fxC17z, e1, e3, e4, e103, e104, e105, c1, c4, eae]
      rw [List.take_length] at hbs
      refine oword_ret W ok.ae (by omega) fun M W => ?_
      have c1 := G1 W
      have c4 := G4 W
      simp only [wk6, Nat.reduceBEq, wk1, forall_eq, Nat.reduceAdd, reduceIte, Nat.reduceEqDiff, reduceCtorEq, opLen, Int.reduceLT, Int.reduceEq, opConvert, opIndexAddr, opLoad, Nat.reduceLT, undef, Nat.reduceLeDiff, Array.toList, rowV, wk4, wk5, wk0, fxC17z, e1, e3, e4, c1, c4]
      refine oword_ret W ok.aq (by rw [List.length_append, wordB_length]; omega) fun M W => ?_
      have c1 := G1 W
      simp only [wk6, Nat.reduceBEq, wk1, forall_eq, Nat.reduceAdd, reduceIte, Nat.reduceEqDiff, reduceCtorEq, opLen, Int.reduceLT, Int.reduceEq, opConvert, opIndexAddr, opLoad, Nat.reduceLT, undef, Nat.reduceLeDiff, Array.toList, rowV, wk4, wk5, wk0, fxC17z, e1, e3, e4]
      obtain ⟨r, w, y, f⟩ := id W
      obtain ⟨av, nv, qv, hv⟩ := os_val w
      refine Loose.freshTo [(0, 0)] 7 (by kernel_rfl) (by kernel_rfl) ?_
      have cvs : opConvert Try.prog 24 9 (.slice a5 L.A.s.length z5) M = some (.string (strOf L.A.s), M) := conv_string Try.underlying24 Try.underlying5 Try.underlying9 (h.aa.pz (H W).pz).shows
      simp only [wk2, wk7, Nat.reduceBEq, Nat.reduceSub, Nat.reduceAdd, reduceIte, Nat.reduceEqDiff, reduceCtorEq, opLen, Int.reduceLT, Int.reduceEq, opIndexAddr, opLoad, Nat.reduceLT, undef, Nat.reduceLeDiff, Array.toList, rowV, wk4, wk5, wk0, fxC17z, hv, c1, e1, e3, e4, cvs]
      refine reftext_ret ty.ab (by have := ok.al; omega) fun m1 r1 x1 n1 b1 => ?_
      have hv1 := (x1.2 bo w.1).trans hv
      have tl := textB_length L.A.s
      have al4 := ok.al
      obtain ⟨u, m2, e, g2, d1, d2, d3, r', w', y', f'⟩ := w.push (tx := 24) wt x1 hv (added_bytes wt b1.shows) (by simp only [List.length_append, wordB_length]; omega)
      unfold rowV at e
      simp only [wk2, wk7, Nat.reduceBEq, Nat.reduceSub, evOp, evParts, ev1, evs, evOpt, envOf, List.lookup_nil, List.size_toArray, List.length_cons, List.length_nil, List.range, List.range.loop, Nat.zero_add, Nat.reduceAdd, Bool.not_false, Bool.not_true, Bool.true_or, if_true, if_false, reduceIte, Nat.reduceEqDiff, reduceCtorEq, List.getElem?_toArray, List.getElem?_cons_zero, List.getElem?_cons_succ, guardOf, constOk, constCell, evBuiltin, opLen, List.head?_cons, foldV, min2V, max2V, Int.reduceLT, Int.reduceEq, Kend, resOf, Bool.false_eq_true, Bool.true_eq_false, IntKind.signed, IntKind.max, opConvert, opIndexAddr, opLoad, aggOf, Option.some.injEq, Value.bool.injEq, exists_eq_left', true_and, forall_const, decide_eq_true_eq, decide_eq_false_iff_not, Int.natCast_nonneg, and_self, Int.toNat_natCast, Nat.mul_one, List.append_nil, beq_self_eq_true, Nat.lt_irrefl, Nat.zero_lt_succ, Nat.reduceLT, Option.bind_some, undef, opBox, opStore, setCells, Nat.reduceLeDiff, Array.toList, rowV, wk5, wk0, fxC17z, okInt, hv, hv1, e, g2, d1, d2, e1, e3, e4]
      have W : OS m0 bo (m2.set bo (.cells [u] 24 true)) (bs ++ wordB L.A.e ++ wordB L.A.q ++ textB L.A.s) := os_step y f w' y' f'
      have hu : (m2.set bo (.cells [u] 24 true)).get bo = some (.cells [u] 24 true) := set_get _ _ _
      clear w y f hv w' y' f' e hv1 g2
      generalize m2.set bo (.cells [u] 24 true) = M at W hu ⊢
      have eB : letB L = bs ++ wordB L.A.e ++ wordB L.A.q ++ textB L.A.s := by rw [e0, hbs, hC, viewB, ansB]; simp only [List.append_assoc]
      obtain ⟨r, w, y, f⟩ := id W
      have Xf := W.ext xm hi
      obtain ⟨w1, w2, ⟨w3, w4, w5⟩ | ⟨w3, w4, w5⟩⟩ := w
      · exact absurd (congrArg List.length w4) (by rw [← eB, letB_len6]; simp)
      · rw [← eB] at w4 w5
        rw [w4] at hu
        simp only [Option.some.injEq, Blk.cells.injEq, List.cons.injEq, and_true] at hu
        obtain rfl := hu
        exact hK _ r Xf (by have := xm.1; omega) ⟨w2, w5⟩
end Go.Proofs.Ytejgoooanapjbaa
