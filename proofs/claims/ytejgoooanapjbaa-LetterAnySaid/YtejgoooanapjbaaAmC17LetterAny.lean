/- A text of the abstract machine. -/

/- The law LetterAny, simp only [Nat.reduceAdd, reduceIte, Nat.reduceEqDiff, reduceCtorEq, opLen, Int.reduceLT, Int.reduceEq, opConvert, opIndexAddr, opLoad, Nat.reduceLT, undef, Nat.reduceLeDiff, Array.toList, rowV, bin_sneq, wk4, wk5, wk0, fxC17LetterAny]ed. -/
import Derived.Test.YtejgoooanapjbaaAmC17z
import Derived.Test.YtejgoooanapjbaaAmC17any
import Derived.Test.YtejgoooanapjbaaAmBun
set_option linter.unusedSimpArgs false
set_option linter.unusedVariables false
set_option maxRecDepth 100000
set_option maxHeartbeats 4000000
namespace Go.Proofs.Ytejgoooanapjbaa
open Go Go.AM Go.AM.Crc Go.AM.Wire
theorem fxC17LetterAny : type_of% (And.intro (And.intro (And.intro (And.intro (And.intro (And.intro (And.intro (And.intro @Try.underlying3 @Try.underlying4) (And.intro @Try.underlying5 @Try.underlying9)) (And.intro (And.intro @Try.underlying42 @Try.underlying46) (And.intro @Try.underlying47 @Try.underlying123))) (And.intro (And.intro (And.intro @Try.underlying23 @Try.underlying26) (And.intro @Try.underlying28 @Try.underlying39)) (And.intro (And.intro @Try.underlying41 @Try.underlying44) (And.intro @Try.underlying24 (And.intro @Try.underlying37 @Try.underlying22))))) (And.intro (And.intro (And.intro (And.intro @Try.underlying0 @Try.underlying100) (And.intro @Try.underlying66 @Try.underlying68)) (And.intro (And.intro @Try.underlying78 @Try.underlying103) (And.intro @Try.underlying49 (And.intro @Try.underlying34 @Try.underlying36)))) (And.intro (And.intro (And.intro @Try.underlying51 @Try.underlying53) (And.intro @Try.underlying55 @Try.underlying88)) (And.intro (And.intro @Try.underlying32 @Try.underlying30) (And.intro @Try.underlying61 (And.intro @Try.underlying63 @Try.underlying90)))))) (And.intro (And.intro (And.intro (And.intro (And.intro @Try.underlying92 @Try.underlying94) (And.intro @ts3 @ts4)) (And.intro (And.intro @ts5 @ts9) (And.intro @ts42 @ts46))) (And.intro (And.intro (And.intro @ts47 @ts123) (And.intro @ts23 @ts26)) (And.intro (And.intro @ts28 @ts39) (And.intro @ts41 (And.intro @ts44 @ts24))))) (And.intro (And.intro (And.intro (And.intro @ts37 @ts22) (And.intro @ts0 @ts100)) (And.intro (And.intro @ts66 @ts68) (And.intro @ts78 (And.intro @ts103 @ts49)))) (And.intro (And.intro (And.intro @ts34 @ts36) (And.intro @ts51 @ts53)) (And.intro (And.intro @ts55 @ts88) (And.intro @ts32 (And.intro @ts30 @ts61))))))) (And.intro (And.intro (And.intro (And.intro (And.intro (And.intro @ts63 @ts90) (And.intro @ts92 @ts94)) (And.intro (And.intro @tz3 @tz4) (And.intro @tz5 @tz9))) (And.intro (And.intro (And.intro @tz42 @tz46) (And.intro @tz47 @tz123)) (And.intro (And.intro @tz23 @tz26) (And.intro @tz28 (And.intro @tz39 @tz41))))) (And.intro (And.intro (And.intro (And.intro @tz44 @tz24) (And.intro @tz37 @tz22)) (And.intro (And.intro @tz0 @tz100) (And.intro @tz66 (And.intro @tz68 @tz78)))) (And.intro (And.intro (And.intro @tz103 @tz49) (And.intro @tz34 @tz36)) (And.intro (And.intro @tz51 @tz53) (And.intro @tz55 (And.intro @tz88 @tz32)))))) (And.intro (And.intro (And.intro (And.intro (And.intro @tz30 @tz61) (And.intro @tz63 @tz90)) (And.intro (And.intro @tz92 @tz94) (And.intro @tb3 @tb4))) (And.intro (And.intro (And.intro @tb5 @tb9) (And.intro @tb42 @tb46)) (And.intro (And.intro @tb47 @tb123) (And.intro @tb23 (And.intro @tb26 @tb28))))) (And.intro (And.intro (And.intro (And.intro @tb39 @tb41) (And.intro @tb44 @tb24)) (And.intro (And.intro @tb37 @tb22) (And.intro @tb0 (And.intro @tb100 @tb66)))) (And.intro (And.intro (And.intro @tb68 @tb78) (And.intro @tb103 @tb49)) (And.intro (And.intro @tb34 @tb36) (And.intro @tb51 (And.intro @tb53 @tb55)))))))) (And.intro (And.intro (And.intro (And.intro (And.intro (And.intro (And.intro @tb88 @tb32) (And.intro @tb30 @tb61)) (And.intro (And.intro @tb63 @tb90) (And.intro @tb92 @tb94))) (And.intro (And.intro (And.intro @fr8 @fr9) (And.intro @fr10 @fr11)) (And.intro (And.intro @fr13 @fr15) (And.intro @fr16 (And.intro @fr18 @fr19))))) (And.intro (And.intro (And.intro (And.intro @fr20 @fr21) (And.intro @fr22 @fr23)) (And.intro (And.intro @fr24 @fr25) (And.intro @fr26 (And.intro @fr27 @fr28)))) (And.intro (And.intro (And.intro @fr38 @fr39) (And.intro @fr40 @fr41)) (And.intro (And.intro @fr42 @fr51) (And.intro @fr52 (And.intro @fr53 @fr54)))))) (And.intro (And.intro (And.intro (And.intro (And.intro @fr3 @fr4) (And.intro @fr5 @fr6)) (And.intro (And.intro @fr7 @fr12) (And.intro @fr14 @fr17))) (And.intro (And.intro (And.intro @bz46 @al46) (And.intro @fa46_0 @fa46_1)) (And.intro (And.intro @bz28 @bz26) (And.intro @bz41 (And.intro @bz44 @al41))))) (And.intro (And.intro (And.intro (And.intro @al44 @fa44_0) (And.intro @fa44_1 @fa44_2)) (And.intro (And.intro @fa41_0 @fa41_1) (And.intro @fa41_2 (And.intro @fa28_0 @fa28_1)))) (And.intro (And.intro (And.intro @fa28_2 @fa26_0) (And.intro @fa26_1 @fa26_2)) (And.intro (And.intro @fa26_3 @bz103) (And.intro @al68 (And.intro @al103 @fa68_0))))))) (And.intro (And.intro (And.intro (And.intro (And.intro (And.intro @fa103_0 @fa103_1) (And.intro @fa103_2 @bin_weq)) (And.intro (And.intro @bin_wneq @bin_req) (And.intro @bin_rneq @bz39))) (And.intro (And.intro (And.intro @fa39_0 @fa39_1) (And.intro @bz68 @bz49)) (And.intro (And.intro @al49 @fa49_0) (And.intro @fa49_1 (And.intro @fa49_2 @bz51))))) (And.intro (And.intro (And.intro (And.intro @al51 @fa51_0) (And.intro @fa51_1 @fa51_2)) (And.intro (And.intro @fa51_3 @fa51_4) (And.intro @fa51_5 (And.intro @fa51_6 @fa51_7)))) (And.intro (And.intro (And.intro @fa51_8 @fa51_9) (And.intro @fa51_10 @fa51_11)) (And.intro (And.intro @bz36 @al36) (And.intro @fa36_0 (And.intro @fa36_1 @oneOf_two)))))) (And.intro (And.intro (And.intro (And.intro (And.intro @al24 @al90) (And.intro @bz32 @fa32_0)) (And.intro (And.intro @fa32_1 @fa32_2) (And.intro @fa32_3 (And.intro @fa32_4 @fa32_5)))) (And.intro (And.intro (And.intro @fa32_6 @fa32_7) (And.intro @fa32_8 @fa32_9)) (And.intro (And.intro @fa32_10 @fa32_11) (And.intro @fa32_12 (And.intro @fa32_13 @fa32_14))))) (And.intro (And.intro (And.intro (And.intro @fa32_15 @al32) (And.intro @al28 @al26)) (And.intro (And.intro @fa30_0 @fa30_1) (And.intro @fa30_2 (And.intro @al30 @bldI)))) (And.intro (And.intro (And.intro @set_set @bldL3) (And.intro @bldB @vqB)) (And.intro (And.intro @vqE @vqA) (And.intro @vqC (And.intro @vqI @vqW))))))))) := (And.intro (And.intro (And.intro (And.intro (And.intro (And.intro (And.intro (And.intro @Try.underlying3 @Try.underlying4) (And.intro @Try.underlying5 @Try.underlying9)) (And.intro (And.intro @Try.underlying42 @Try.underlying46) (And.intro @Try.underlying47 @Try.underlying123))) (And.intro (And.intro (And.intro @Try.underlying23 @Try.underlying26) (And.intro @Try.underlying28 @Try.underlying39)) (And.intro (And.intro @Try.underlying41 @Try.underlying44) (And.intro @Try.underlying24 (And.intro @Try.underlying37 @Try.underlying22))))) (And.intro (And.intro (And.intro (And.intro @Try.underlying0 @Try.underlying100) (And.intro @Try.underlying66 @Try.underlying68)) (And.intro (And.intro @Try.underlying78 @Try.underlying103) (And.intro @Try.underlying49 (And.intro @Try.underlying34 @Try.underlying36)))) (And.intro (And.intro (And.intro @Try.underlying51 @Try.underlying53) (And.intro @Try.underlying55 @Try.underlying88)) (And.intro (And.intro @Try.underlying32 @Try.underlying30) (And.intro @Try.underlying61 (And.intro @Try.underlying63 @Try.underlying90)))))) (And.intro (And.intro (And.intro (And.intro (And.intro @Try.underlying92 @Try.underlying94) (And.intro @ts3 @ts4)) (And.intro (And.intro @ts5 @ts9) (And.intro @ts42 @ts46))) (And.intro (And.intro (And.intro @ts47 @ts123) (And.intro @ts23 @ts26)) (And.intro (And.intro @ts28 @ts39) (And.intro @ts41 (And.intro @ts44 @ts24))))) (And.intro (And.intro (And.intro (And.intro @ts37 @ts22) (And.intro @ts0 @ts100)) (And.intro (And.intro @ts66 @ts68) (And.intro @ts78 (And.intro @ts103 @ts49)))) (And.intro (And.intro (And.intro @ts34 @ts36) (And.intro @ts51 @ts53)) (And.intro (And.intro @ts55 @ts88) (And.intro @ts32 (And.intro @ts30 @ts61))))))) (And.intro (And.intro (And.intro (And.intro (And.intro (And.intro @ts63 @ts90) (And.intro @ts92 @ts94)) (And.intro (And.intro @tz3 @tz4) (And.intro @tz5 @tz9))) (And.intro (And.intro (And.intro @tz42 @tz46) (And.intro @tz47 @tz123)) (And.intro (And.intro @tz23 @tz26) (And.intro @tz28 (And.intro @tz39 @tz41))))) (And.intro (And.intro (And.intro (And.intro @tz44 @tz24) (And.intro @tz37 @tz22)) (And.intro (And.intro @tz0 @tz100) (And.intro @tz66 (And.intro @tz68 @tz78)))) (And.intro (And.intro (And.intro @tz103 @tz49) (And.intro @tz34 @tz36)) (And.intro (And.intro @tz51 @tz53) (And.intro @tz55 (And.intro @tz88 @tz32)))))) (And.intro (And.intro (And.intro (And.intro (And.intro @tz30 @tz61) (And.intro @tz63 @tz90)) (And.intro (And.intro @tz92 @tz94) (And.intro @tb3 @tb4))) (And.intro (And.intro (And.intro @tb5 @tb9) (And.intro @tb42 @tb46)) (And.intro (And.intro @tb47 @tb123) (And.intro @tb23 (And.intro @tb26 @tb28))))) (And.intro (And.intro (And.intro (And.intro @tb39 @tb41) (And.intro @tb44 @tb24)) (And.intro (And.intro @tb37 @tb22) (And.intro @tb0 (And.intro @tb100 @tb66)))) (And.intro (And.intro (And.intro @tb68 @tb78) (And.intro @tb103 @tb49)) (And.intro (And.intro @tb34 @tb36) (And.intro @tb51 (And.intro @tb53 @tb55)))))))) (And.intro (And.intro (And.intro (And.intro (And.intro (And.intro (And.intro @tb88 @tb32) (And.intro @tb30 @tb61)) (And.intro (And.intro @tb63 @tb90) (And.intro @tb92 @tb94))) (And.intro (And.intro (And.intro @fr8 @fr9) (And.intro @fr10 @fr11)) (And.intro (And.intro @fr13 @fr15) (And.intro @fr16 (And.intro @fr18 @fr19))))) (And.intro (And.intro (And.intro (And.intro @fr20 @fr21) (And.intro @fr22 @fr23)) (And.intro (And.intro @fr24 @fr25) (And.intro @fr26 (And.intro @fr27 @fr28)))) (And.intro (And.intro (And.intro @fr38 @fr39) (And.intro @fr40 @fr41)) (And.intro (And.intro @fr42 @fr51) (And.intro @fr52 (And.intro @fr53 @fr54)))))) (And.intro (And.intro (And.intro (And.intro (And.intro @fr3 @fr4) (And.intro @fr5 @fr6)) (And.intro (And.intro @fr7 @fr12) (And.intro @fr14 @fr17))) (And.intro (And.intro (And.intro @bz46 @al46) (And.intro @fa46_0 @fa46_1)) (And.intro (And.intro @bz28 @bz26) (And.intro @bz41 (And.intro @bz44 @al41))))) (And.intro (And.intro (And.intro (And.intro @al44 @fa44_0) (And.intro @fa44_1 @fa44_2)) (And.intro (And.intro @fa41_0 @fa41_1) (And.intro @fa41_2 (And.intro @fa28_0 @fa28_1)))) (And.intro (And.intro (And.intro @fa28_2 @fa26_0) (And.intro @fa26_1 @fa26_2)) (And.intro (And.intro @fa26_3 @bz103) (And.intro @al68 (And.intro @al103 @fa68_0))))))) (And.intro (And.intro (And.intro (And.intro (And.intro (And.intro @fa103_0 @fa103_1) (And.intro @fa103_2 @bin_weq)) (And.intro (And.intro @bin_wneq @bin_req) (And.intro @bin_rneq @bz39))) (And.intro (And.intro (And.intro @fa39_0 @fa39_1) (And.intro @bz68 @bz49)) (And.intro (And.intro @al49 @fa49_0) (And.intro @fa49_1 (And.intro @fa49_2 @bz51))))) (And.intro (And.intro (And.intro (And.intro @al51 @fa51_0) (And.intro @fa51_1 @fa51_2)) (And.intro (And.intro @fa51_3 @fa51_4) (And.intro @fa51_5 (And.intro @fa51_6 @fa51_7)))) (And.intro (And.intro (And.intro @fa51_8 @fa51_9) (And.intro @fa51_10 @fa51_11)) (And.intro (And.intro @bz36 @al36) (And.intro @fa36_0 (And.intro @fa36_1 @oneOf_two)))))) (And.intro (And.intro (And.intro (And.intro (And.intro @al24 @al90) (And.intro @bz32 @fa32_0)) (And.intro (And.intro @fa32_1 @fa32_2) (And.intro @fa32_3 (And.intro @fa32_4 @fa32_5)))) (And.intro (And.intro (And.intro @fa32_6 @fa32_7) (And.intro @fa32_8 @fa32_9)) (And.intro (And.intro @fa32_10 @fa32_11) (And.intro @fa32_12 (And.intro @fa32_13 @fa32_14))))) (And.intro (And.intro (And.intro (And.intro @fa32_15 @al32) (And.intro @al28 @al26)) (And.intro (And.intro @fa30_0 @fa30_1) (And.intro @fa30_2 (And.intro @al30 @bldI)))) (And.intro (And.intro (And.intro @set_set @bldL3) (And.intro @bldB @vqB)) (And.intro (And.intro @vqE @vqA) (And.intro @vqC (And.intro @vqI @vqW)))))))))
theorem byteCells_take (bs : List Int) (k : Nat) : (byteCells bs).take k = byteCells (bs.take k) := by simp [byteCells, List.map_take]
theorem own_load {m : Mem} {i j : Nat} {bs : List Int} (h : m.get i = some (.cells (byteCells bs) 5 true)) (hj : j < bs.length) : opLoad Try.prog 5 (.pointer (some ⟨i, j, none⟩)) m = some (.int .u8 (bs.getD j 0)) := by
  simp only [opLoad, h, aggOf, Try.underlying5]
  rw [List.getElem?_eq_getElem (by rw [byteCells_length]; exact hj), List.getD_eq_getElem?_getD, List.getElem?_eq_getElem hj]
  simp [byteCells]
theorem own_store {m : Mem} {i j : Nat} {bs : List Int} (h : m.get i = some (.cells (byteCells bs) 5 true)) (hj : j < bs.length) (x : Int) : opStore Try.prog 5 (.pointer (some ⟨i, j, none⟩)) (.int .u8 x) m = some (m.set i (.cells (byteCells (bs.set j x)) 5 true)) := by
  have := store_one (P := Try.prog) (t := 5) (v := .int .u8 x) h ts5 rfl (off := j) (by rw [byteCells_length]; exact hj)
  rw [this]
  simp [byteCells, List.map_set]
theorem bytes_set {bs : List Int} (hb : Bytes bs) (i : Nat) (a b : Int) : Bytes (bs.set i (bits .xor .u8 a b)) := by
  intro x hx
  rcases List.mem_or_eq_of_mem_set hx with h | h
  · exact hb x h
  · rw [h]
    have := wrap_within .u8
    have h1 := bits_within .xor .u8 a b
    simp only [IntKind.min, IntKind.max, IntKind.signed, IntKind.bits] at h1
    simp at h1
    omega
/-- Bytes that are seen from now on. -/
def Seen (M : Mem) (v : Value) (d : List Int) : Prop := (∀ N, Ext M N → Shows N v (byteCells d)) ∧ Bytes d ∧ d.length ≤ 6000
theorem six_row (m : Mem) (a : Int) : opBuildSlice Try.prog 24 6 [(0, .int .u8 0), (1, .int .u8 a), (2, .int .u8 0), (3, .int .u8 1), (4, .int .u8 0), (5, .int .u8 2)] m = some (.slice (some ⟨m.next, 0, none⟩) 6 1, m.new (.cells (byteCells [0, a, 0, 1, 0, 2]) 5 true)) := by kernel_rfl
theorem five_rows (m : Mem) (a0 a1 a2 a3 a4 : Option Addr) (l0 l1 l2 l3 l4 z0 z1 z2 z3 z4 : Nat) : opBuildSlice Try.prog 61 5 [(0, .slice a0 l0 z0), (1, .slice a1 l1 z1), (2, .slice a2 l2 z2), (3, .slice a3 l3 z3), (4, .slice a4 l4 z4)] m = some (.slice (some ⟨m.next, 0, none⟩) 5 1, m.new (.cells [.slice a0 l0 z0, .slice a1 l1 z1, .slice a2 l2 z2, .slice a3 l3 z3, .slice a4 l4 z4] 24 true)) := by kernel_rfl
theorem any_ret {m : Mem} {v w : Value} {S : SmL} {b : List Int} {at_ : Nat} {by_ kind : Int} (hv : FRow m v 1 b.length (byteCells b)) (hbb : Bytes b) (h : SmLF m w S) (ok : SmOk S) (hat : at_ < 65536) (hk : 0 ≤ kind ∧ kind < 256) : Ret Try.prog 4 [v, w, .int .u16 at_, .int .u8 by_, .int .u8 kind] m fun v _ => v = .bool true := by
  obtain ⟨a0, k0, rfl⟩ := hv.is
  obtain ⟨ea, ca, aa, rfl, h⟩ := h
  obtain ⟨a1, z1, rfl⟩ := h.ea.is
  obtain ⟨a2, z2, rfl⟩ := h.ca.is
  obtain ⟨a3, z3, rfl⟩ := h.aa.is
  refine ret_wp [(16, [15])] Try.func4 rfl (by decide) (by kernel_rfl) ?_
  have lb : opLen Try.prog (some 24) (.slice a0 b.length k0) = some (.int .i64 b.length) := hv.len Try.underlying24
  simp only [wk6, Nat.reduceBEq, wk1, forall_eq, Nat.reduceAdd, reduceIte, Nat.reduceEqDiff, reduceCtorEq, opLen, Int.reduceLT, Int.reduceEq, opConvert, opIndexAddr, opLoad, Nat.reduceLT, undef, Nat.reduceLeDiff, Array.toList, rowV, bin_sneq, wk4, wk5, wk0, fxC17LetterAny]
  obtain ⟨m0, hm0⟩ : ∃ m0, m0 = m.new (.cells (smC S (.slice a1 S.E.args.length z1) (.slice a2 S.C.s.length z2) (.slice a3 S.A.s.length z3)) 32 true) := ⟨_, rfl⟩
  have x0 : Ext m m0 := by rw [hm0]; exact Ext.new _ _
  have n0 : m0.next = m.next + 1 := by rw [hm0]; rfl
  have g1 : m0.get m.next = some (.cells (smC S (.slice a1 S.E.args.length z1) (.slice a2 S.C.s.length z2) (.slice a3 S.A.s.length z3)) 32 true) := by rw [hm0, new_get]
  rw [← hm0]
  clear hm0
  refine awake_ret fun m1 x1 => ?_
  have g11 := (x1.2 m.next (by omega)).trans g1
  have X1 := x0.trans x1
  have k1 := x1.1
  by_cases hl : 100 < (b.length : Int)
  · simp only [wk6, Nat.reduceBEq, wk1, forall_eq, Nat.reduceAdd, reduceIte, Nat.reduceEqDiff, reduceCtorEq, Int.reduceLT, Int.reduceEq, opConvert, opIndexAddr, opLoad, Nat.reduceLT, undef, Nat.reduceLeDiff, Array.toList, rowV, bin_sneq, wk4, wk5, wk0, fxC17LetterAny, lb, hl]
  simp only [wk6, Nat.reduceBEq, wk1, forall_eq, Nat.reduceAdd, reduceIte, Nat.reduceEqDiff, reduceCtorEq, Int.reduceLT, Int.reduceEq, opConvert, opIndexAddr, opLoad, Nat.reduceLT, undef, Nat.reduceLeDiff, Array.toList, rowV, bin_sneq, wk4, wk5, wk0, fxC17LetterAny, lb, hl, g11]
  refine light_ret ⟨_, _, _, rfl, h.pz X1.pz⟩ fun m2 x2 => ?_
  have k2 := x2.1
  have g12 := (x2.2 m.next (by omega)).trans g11
  have X2 := X1.trans x2
  by_cases l0 : ¬ S.light
  · have d1 := decide_eq_false l0
    simp only [wk6, Nat.reduceBEq, wk1, forall_eq, Nat.reduceAdd, reduceIte, Nat.reduceEqDiff, reduceCtorEq, opLen, Int.reduceLT, Int.reduceEq, opConvert, opIndexAddr, opLoad, Nat.reduceLT, undef, Nat.reduceLeDiff, Array.toList, rowV, bin_sneq, wk4, wk5, wk0, fxC17LetterAny, d1]
  have l1 : S.light := Decidable.byContradiction l0
  have d1 := decide_eq_true l1
  simp only [wk6, Nat.reduceBEq, wk1, forall_eq, Nat.reduceAdd, reduceIte, Nat.reduceEqDiff, reduceCtorEq, opLen, Int.reduceLT, Int.reduceEq, opConvert, opIndexAddr, opLoad, Nat.reduceLT, undef, Nat.reduceLeDiff, Array.toList, rowV, bin_sneq, wk4, wk5, wk0, fxC17LetterAny, d1, g12]
  refine letter_ret ⟨_, _, _, rfl, h.pz X2.pz⟩ ok fun m3 v3 x3 f3 => ?_
  have X3 := X2.trans x3
  have oA := all_ok ok l1
  obtain ⟨A, hA⟩ : ∃ A, A = only S.all := ⟨_, rfl⟩
  rw [← hA] at f3
  have cA : lck A = 0 := by rw [hA, lck_only]; exact all_lck ok l1
  have kA : Ok A := by rw [hA]; exact only_ok oA.1
  have tA : Ty A := by rw [hA]; exact only_ty oA.2
  have FA := lfit_of kA tA cA
  have LA := letB_len FA kA
  have L6 := letB_len6 A
  have BA := letB_bytes FA kA tA
  clear hA
  simp only [wk6, Nat.reduceBEq, wk1, forall_eq, Nat.reduceAdd, reduceIte, Nat.reduceEqDiff, reduceCtorEq, opLen, Int.reduceLT, Int.reduceEq, opConvert, opIndexAddr, opLoad, Nat.reduceLT, undef, Nat.reduceLeDiff, Array.toList, rowV, bin_sneq, wk4, wk5, wk0, fxC17LetterAny]
  refine meant_ret f3 FA kA tA fun m4 r4 x4 y4 B4 => ?_
  have X4 := X3.trans x4
  obtain ⟨G, hG⟩ : ∃ G, G = letB A := ⟨_, rfl⟩
  rw [← hG] at LA L6 BA B4 ⊢
  clear hG
  have nr : ∀ M : Mem, opBuildSlice Try.prog 24 0 [] M = some (.slice (some ⟨M.next, 0, none⟩) 0 1, M.new (.cells [] 5 true)) := no_row
  have x4n := Ext.new m4 (.cells [] 5 true)
  obtain ⟨m5, r5, a5, g5, n5, l5, x5⟩ := copy_row (P := Try.prog) (T := 24) (new := G) wt (added_bytes wt (B4.ext x4n).shows) (by omega)
  have a5' : opAppend Try.prog [24, 24] [.slice (some ⟨m4.next, 0, none⟩) 0 1, .slice (some ⟨r4, 0, none⟩) G.length 1] (m4.new (.cells [] 5 true)) = some (.slice (some ⟨r5, 0, none⟩) G.length 1, m5) := a5
  have lG4 : opLen Try.prog (some 24) (.slice (some ⟨r4, 0, none⟩) G.length 1) = some (.int .i64 G.length) := B4.own.len (P := Try.prog) Try.underlying24
  have lG5 : opLen Try.prog (some 24) (.slice (some ⟨r5, 0, none⟩) G.length 1) = some (.int .i64 G.length) := (show Byr m5 r5 G from ⟨l5, g5⟩).own.len (P := Try.prog) Try.underlying24
  have wa : IntKind.i64.wrap (at_ : Int) = at_ := wrap_i64 (by omega) (by omega)
  have w3 : ¬ ((G.length : Int) = 0) := by omega
  obtain ⟨I, hI⟩ : ∃ I, I = at_ % G.length := ⟨_, rfl⟩
  have hIl : I < G.length := hI ▸ Nat.mod_lt at_ (by omega)
  have w4 : Int.tmod (at_ : Int) (G.length : Int) = (I : Int) := by rw [Int.tmod_eq_emod_of_nonneg (by omega), hI]; simp
  have ix : opIndexAddr Try.prog 24 (.slice (some ⟨r5, 0, none⟩) G.length 1) (.int .i64 (I : Int)) = some (.pointer (some ⟨r5, I, none⟩)) := index_own Try.underlying24 ts5 hIl
  have ld := own_load (m := m5) (i := r5) (bs := G) g5 hIl
  have st := own_store (m := m5) (i := r5) (bs := G) g5 hIl (bits .xor .u8 (G.getD I 0) by_)
  obtain ⟨Y2, hY2⟩ : ∃ l, l = G.set I (bits .xor .u8 (G.getD I 0) by_) := ⟨_, rfl⟩
  rw [← hY2] at st
  have hY2b : Bytes Y2 := hY2 ▸ bytes_set BA _ _ _
  have hY2l : Y2.length = G.length := by rw [hY2, List.length_set]
  obtain ⟨m6, hm6⟩ : ∃ M, M = m5.set r5 (.cells (byteCells Y2) 5 true) := ⟨_, rfl⟩
  rw [← hm6] at st
  have b6 : Byr m6 r5 Y2 := ⟨by rw [hm6]; exact l5, by rw [hm6, set_get]⟩
  have x46 : Ext m4 m6 := by rw [hm6]; exact x5.set n5
  clear hm6
  have cva : ∀ M : Mem, opConvert Try.prog 23 3 (.int .u16 (at_ : Int)) M = some (.int .i64 (at_ : Int), M) := fun M => by
    simp only [opConvert, Try.underlying23, Try.underlying3, wa]
  have bA := B4.ext x46
  obtain ⟨sj, t1, t2, t3⟩ := bA.shows.cut (P := Try.prog) (t := 24) Try.underlying24 ts5 (lo := none) (hi := some (.int .i64 (I : Int))) (l := 0) (k := I) rfl (by simp [boundOf]) (by omega) (by rw [byteCells_length]; omega)
  rw [Nat.sub_zero, List.drop_zero, byteCells_take] at t2
  obtain ⟨aj, zj, hsj, _⟩ := id t2
  have t1' : opSlice Try.prog 24 (.slice (some ⟨r4, 0, none⟩) G.length 1) none (some (.int .i64 (I : Int))) = some sj := t1
  rw [hsj] at t1' t2
  have t3' := hsj ▸ t3
  have x6n := Ext.new m6 (.cells [] 5 true)
  obtain ⟨m7, r7, a7, g7, n7, l7, x7⟩ := copy_row (P := Try.prog) (T := 24) (new := G) wt (added_bytes wt (bA.ext x6n).shows) (by omega)
  have a7' : opAppend Try.prog [24, 24] [.slice (some ⟨m6.next, 0, none⟩) 0 1, .slice (some ⟨r4, 0, none⟩) G.length 1] (m6.new (.cells [] 5 true)) = some (.slice (some ⟨r7, 0, none⟩) G.length 1, m7) := a7
  have b7 : Byr m7 r7 G := ⟨l7, g7⟩
  have X6 := X4.trans x46
  have X7 := X6.trans x7
  obtain ⟨m8, r8, e8, b8, n8, l8, f8⟩ := b7.push (P := Try.prog) (T := 24) (tx := 24) (new := b) wt (added_bytes wt (hv.pz X7.pz).shows) (by omega)
  have e8' : opAppend Try.prog [24, 24] [.slice (some ⟨r7, 0, none⟩) G.length 1, .slice a0 b.length k0] m7 = some (.slice (some ⟨r8, 0, none⟩) (G ++ b).length 1, m8) := e8
  have x68 : Ext m6 m8 := ⟨by have := x7.1; omega, fun j hj => by rw [f8 j (by have := x7.1; omega) (by omega), x7.2 j hj]⟩
  have X8 := X6.trans x68
  have w9 := tm_lt hk.1 (show (0 : Int) < 9 by decide)
  obtain ⟨q9, hq9⟩ : ∃ q, q = kind.tmod 9 := ⟨_, rfl⟩
  rw [← hq9] at w9
  have x8n := Ext.new m8 (.cells (byteCells [0, q9, 0, 1, 0, 2]) 5 true)
  have b9 : Byr (m8.new (.cells (byteCells [0, q9, 0, 1, 0, 2]) 5 true)) m8.next [0, q9, 0, 1, 0, 2] := Brow.made _ _
  obtain ⟨m10, r10, e10, b10, n10, l10, f10⟩ := b9.push (P := Try.prog) (T := 24) (tx := 24) (new := b) wt (added_bytes wt (hv.pz (X8.trans x8n).pz).shows) (by simp only [List.length_cons, List.length_nil]; omega)
  have e10' : opAppend Try.prog [24, 24] [.slice (some ⟨m8.next, 0, none⟩) 6 1, .slice a0 b.length k0] (m8.new (.cells (byteCells [0, q9, 0, 1, 0, 2]) 5 true)) = some (.slice (some ⟨r10, 0, none⟩) ([0, q9, 0, 1, 0, 2] ++ b).length 1, m10) := e10
  have x810 : Ext m8 m10 := ⟨by have := x8n.1; omega, fun j hj => by rw [f10 j (by have := x8n.1; omega) (by omega), x8n.2 j hj]⟩
  have l5r : opLen Try.prog (some 61) (.slice (some ⟨m10.next, 0, none⟩) 5 1) = some (.int .i64 5) := by simp only [opLen, Try.underlying61]; rfl
  have six : opBuildSlice Try.prog 24 6 [(0, .int .u8 0), (1, .int .u8 q9), (2, .int .u8 0), (3, .int .u8 1), (4, .int .u8 0), (5, .int .u8 2)] m8 = some (.slice (some ⟨m8.next, 0, none⟩) 6 1, m8.new (.cells (byteCells [0, q9, 0, 1, 0, 2]) 5 true)) := six_row _ _
  simp only [wk6, Nat.reduceBEq, wk1, forall_eq, evOp, evParts, okVal, ev1, evs, evOpt, envOf, List.lookup_nil, List.size_toArray, List.length_cons, List.length_nil, List.range, List.range.loop, Nat.zero_add, Nat.reduceAdd, Bool.not_false, Bool.not_true, Bool.true_or, if_true, if_false, reduceIte, Nat.reduceEqDiff, reduceCtorEq, List.getElem?_toArray, List.getElem?_cons_zero, List.getElem?_cons_succ, guardOf, constOk, constCell, evBuiltin, List.head?_cons, foldV, min2V, max2V, Int.reduceLT, Int.reduceEq, Kend, resOf, Bool.false_eq_true, Bool.true_eq_false, IntKind.signed, IntKind.max, aggOf, Option.some.injEq, Value.bool.injEq, exists_eq_left', true_and, forall_const, decide_eq_true_eq, decide_eq_false_iff_not, Int.natCast_nonneg, and_self, Int.toNat_natCast, Nat.mul_one, List.append_nil, beq_self_eq_true, Nat.lt_irrefl, Nat.zero_lt_succ, Nat.reduceLT, Option.bind_some, undef, opBox, Value.cells, setCells, Nat.reduceLeDiff, Array.toList, rowV, bin_sneq, wk5, wk0, fxC17LetterAny, nr, a5', cva, lG4, lG5, w3, w4, ix, ld, st, t1', a7', e8', ← hq9, six, e10', five_rows, l5r]
  obtain ⟨C, hC⟩ : ∃ C, C = [Value.slice a0 b.length k0, .slice (some ⟨r5, 0, none⟩) G.length 1, .slice aj (byteCells (List.take I G)).length zj, .slice (some ⟨r8, 0, none⟩) (G.length + b.length) 1, .slice (some ⟨r10, 0, none⟩) (b.length + 6) 1] := ⟨_, rfl⟩
  have xR := Ext.new m10 (.cells C 24 true)
  have gR := new_get m10 (.cells C 24 true)
  have hR : m10.next < (m10.new (.cells C 24 true)).next := Nat.lt_succ_self _
  have x6R := (x68.trans x810).trans xR
  have X10 := (X8.trans x810).trans xR
  have seen : ∀ j, j < 5 → ∃ (a : Option Addr) (k z : Nat) (d : List Int), C[j]? = some (.slice a k z) ∧ Seen (m10.new (.cells C 24 true)) (.slice a k z) d := by
    intro j hj
    have hj' : j = 0 ∨ j = 1 ∨ j = 2 ∨ j = 3 ∨ j = 4 := by omega
    rcases hj' with rfl | rfl | rfl | rfl | rfl
    · exact ⟨a0, _, k0, b, by rw [hC]; rfl, fun M y => (hv.pz (X10.trans y).pz).shows, hbb, by omega⟩
    · have q := b6.ext x6R
      refine ⟨_, _, _, Y2, by rw [hC]; rfl, fun M y => ?_, hY2b, by omega⟩
      have := (q.ext y).shows
      rw [rowV, hY2l] at this
      exact this
    · have q := bA.ext x6R
      have hu4 := t3' _ bA.under
      exact ⟨_, _, _, G.take I, by rw [hC]; rfl, fun M y => t2.ext hu4 (x6R.trans y), fun x hx => BA x (List.mem_of_mem_take hx), by rw [List.length_take]; omega⟩
    · have q := (b8.ext x810).ext xR
      refine ⟨_, _, _, G ++ b, by rw [hC]; rfl, fun M y => ?_, bytes_append BA hbb, by rw [List.length_append]; omega⟩
      have := (q.ext y).shows
      rw [rowV, List.length_append] at this
      exact this
    · have q := b10.ext xR
      refine ⟨_, _, _, [0, q9, 0, 1, 0, 2] ++ b, by rw [hC]; rfl, fun M y => ?_, bytes_append (fun x hx => ?_) hbb, by simp only [List.length_append, List.length_cons, List.length_nil]; omega⟩
      · have := (q.ext y).shows
        rw [rowV, List.length_append, show [0, q9, 0, 1, 0, 2].length = 6 from rfl, Nat.add_comm] at this
        exact this
      · simp only [List.mem_cons, List.not_mem_nil, or_false] at hx
        omega
  rw [← hC]
  generalize m10.new (.cells C 24 true) = mR at xR gR hR seen ⊢
  generalize m10.next = iR at gR hR ⊢
  have hCl : C.length = 5 := by rw [hC]; rfl
  clear hC x6R X10
  refine loop_wp [(16, [15])] (by kernel_rfl) (fun k env μ => ∃ j : Nat, k + j = 5 ∧ Ext mR μ ∧ env 10 = some (.bool false) ∧ env 65 = some (.slice (some ⟨iR, 0, none⟩) 5 1) ∧ env 66 = some (.int .i64 5) ∧ env 67 = some (.int .i64 j)) ?_ 5 ⟨0, rfl, Ext.refl _, rfl, rfl, rfl, rfl⟩
  rintro k env μ ⟨j, hk5, x, e10b, e65, e66, e67⟩
  simp only [wk6, Nat.reduceBEq, wk1, forall_eq, Nat.reduceAdd, reduceIte, Nat.reduceEqDiff, reduceCtorEq, opLen, Int.reduceLT, Int.reduceEq, opConvert, opIndexAddr, opLoad, Nat.reduceLT, undef, Nat.reduceLeDiff, Array.toList, rowV, bin_sneq, wk4, wk5, wk0, fxC17LetterAny, e66, e67]
  refine cond_by (fun hlt => ?_) (fun hge => ?_)
  · have hj : j < 5 := by omega
    obtain ⟨a, kk, z, d, hcj, sn, db, dl⟩ := seen j hj
    have ix := index_own (P := Try.prog) (t := 61) (i := iR) Try.underlying61 ts24 hj
    have gRμ := (x.2 iR hR).trans gR
    have ldR : opLoad Try.prog 24 (.pointer (some ⟨iR, j, none⟩)) μ = some (.slice a kk z) := by
      simp only [opLoad, gRμ, aggOf, Try.underlying24]
      exact hcj
    have hw1 : IntKind.i64.wrap ((j : Int) + 1) = ((j + 1 : Nat) : Int) := by rw [wrap_i64 (by omega) (by omega)]; rfl
    simp only [wk6, Nat.reduceBEq, wk1, forall_eq, Nat.reduceAdd, reduceIte, Nat.reduceEqDiff, reduceCtorEq, opLen, Int.reduceLT, Int.reduceEq, opConvert, Nat.reduceLT, undef, Nat.reduceLeDiff, Array.toList, rowV, bin_sneq, wk4, wk5, wk0, fxC17LetterAny, e10b, e65, e66, e67, ix, ldR]
    refine ltake_ret (all := d) (fun M y => sn M (x.trans y)) (by omega) db fun m11 v11 x11 f11 => ?_
    obtain ⟨hbad, hgood⟩ := let_any db
    generalize letS d = T at f11 hbad hgood ⊢
    obtain ⟨L, err⟩ := T
    simp only at f11 hbad hgood ⊢
    obtain ⟨ea, em, vm, ca, aa, rfl, f11⟩ := f11
    obtain ⟨i1, j1, rfl⟩ := f11.ea.is
    obtain ⟨i2, j2, rfl⟩ := f11.em.is
    obtain ⟨i3, j3, rfl⟩ := f11.vm.is
    obtain ⟨i4, j4, rfl⟩ := f11.ca.is
    obtain ⟨i5, j5, rfl⟩ := f11.aa.is
    obtain ⟨m12, hm12⟩ : ∃ M, M = (m11.new (.cells (zCells 0 0 0) 51 true)).set m11.next (.cells (letC L (.slice i1 L.E.args.length j1) (.slice i2 L.E.mem.length j2) (.slice i3 L.vm.length j3) (.slice i4 L.C.s.length j4) (.slice i5 L.A.s.length j5)) 51 true) := ⟨_, rfl⟩
    have x12 : Ext m11 m12 := by rw [hm12]; exact (Ext.new _ _).set (Nat.le_refl _)
    have g12 : m12.get m11.next = some (.cells (letC L (.slice i1 L.E.args.length j1) (.slice i2 L.E.mem.length j2) (.slice i3 L.vm.length j3) (.slice i4 L.C.s.length j4) (.slice i5 L.A.s.length j5)) 51 true) := by rw [hm12, set_get]
    have n12 : m12.next = m11.next + 1 := by rw [hm12]; rfl
    have xx := (x.trans x11).trans x12
    have f12 := f11.pz x12.pz
    simp only [zCells] at hm12
    by_cases he : err = 0
    · obtain ⟨q1, q2, q3, q4, q5⟩ := hgood he
      simp only [wk6, Nat.reduceBEq, wk1, forall_eq, Nat.reduceAdd, reduceIte, Nat.reduceEqDiff, reduceCtorEq, opLen, Int.reduceLT, Int.reduceEq, opConvert, opIndexAddr, opLoad, Nat.reduceLT, undef, Nat.reduceLeDiff, Array.toList, rowV, bin_sneq, wk4, wk5, wk0, fxC17LetterAny, he, e10b, e65, e66, e67]
      rw [← hm12]
      clear hm12
      refine lput_ret ⟨_, _, _, _, _, rfl, f12⟩ q4 q5 (fun h => (h q2).elim) (fun _ m13 r13 x13 y13 z13 g13 => ?_)
      have l12 := x12.1
      have l13 := x13.1
      have g123 := (x13.2 m11.next (by omega)).trans g12
      simp only [wk6, Nat.reduceBEq, wk1, forall_eq, Nat.reduceAdd, reduceIte, Nat.reduceEqDiff, reduceCtorEq, opLen, Int.reduceLT, Int.reduceEq, opConvert, opIndexAddr, opLoad, Nat.reduceLT, undef, Nat.reduceLeDiff, Array.toList, rowV, bin_sneq, wk4, wk5, wk0, fxC17LetterAny, e10b, e65, e66, e67]
      obtain ⟨b15, hb15⟩ : ∃ b, b = m11.next := ⟨_, rfl⟩
      rw [← hb15] at g12 g123 ⊢
      refine Loose.by (fun y => y = b15) ?_
      simp only [wk6, Nat.reduceBEq, wk1, forall_eq, Nat.reduceAdd, reduceIte, Nat.reduceEqDiff, reduceCtorEq, opLen, Int.reduceLT, Int.reduceEq, opConvert, opIndexAddr, opLoad, Nat.reduceLT, undef, Nat.reduceLeDiff, Array.toList, rowV, bin_sneq, wk4, wk5, wk0, fxC17LetterAny, g123, e10b, e65, e66, e67]
      refine lcheck_ret ⟨_, _, _, _, _, rfl, f12.pz x13.pz⟩ q4 fun m14 x14 => ?_
      rw [q2]
      have l14 := x14.1
      have g124 := (x14.2 b15 (by omega)).trans g123
      have g134 := (x14.2 r13 (by omega)).trans g13
      have c14 := conv_row g134
      rw [q1] at c14
      have d14 : opConvert Try.prog 24 9 (.slice a kk z) m14 = some (.string (strOf d), m14) := conv_string Try.underlying24 Try.underlying5 Try.underlying9 (sn m14 ((xx.trans x13).trans x14))
      rw [q1]
      simp only [wk6, Nat.reduceBEq, wk1, forall_eq, Nat.reduceAdd, reduceIte, Nat.reduceEqDiff, reduceCtorEq, opLen, Int.reduceLT, Int.reduceEq, opIndexAddr, opLoad, Nat.reduceLT, undef, Nat.reduceLeDiff, Array.toList, rowV, bin_sneq, wk4, wk5, wk0, fxC17LetterAny, c14, d14, g123, g124, e10b, e65, e66, e67, bin_sneq]
      refine ⟨by simp [veq, veqList, veqCell], only_ret ⟨_, _, _, _, _, rfl, f12.pz (x13.trans x14).pz⟩ fun m15 v15 x15 f15 => ?_⟩
      rw [q3] at f15
      obtain ⟨ea, em, vm, ca, aa, rfl, f15⟩ := f15
      obtain ⟨o1, u1, rfl⟩ := f15.ea.is
      obtain ⟨o2, u2, rfl⟩ := f15.em.is
      obtain ⟨o3, u3, rfl⟩ := f15.vm.is
      obtain ⟨o4, u4, rfl⟩ := f15.ca.is
      obtain ⟨o5, u5, rfl⟩ := f15.aa.is
      have g125 := (x15.2 b15 (by omega)).trans g124
      have l15 := x15.1
      simp only [wk6, Nat.reduceBEq, wk1, forall_eq, Nat.reduceAdd, reduceIte, Nat.reduceEqDiff, reduceCtorEq, opLen, Int.reduceLT, Int.reduceEq, opConvert, opIndexAddr, opLoad, Nat.reduceLT, undef, Nat.reduceLeDiff, Array.toList, rowV, bin_sneq, wk4, wk5, wk0, fxC17LetterAny, g123, g124, g125, e10b, e65, e66, e67]
      refine lsame_ret ⟨_, _, _, _, _, rfl, f12.pz ((x13.trans x14).trans x15).pz⟩ ⟨_, _, _, _, _, rfl, f15⟩ q4 fun m16 x16 => ?_
      rw [sameL_self]
      have g126 := (x16.2 b15 (by omega)).trans g125
      simp only [wk6, Nat.reduceBEq, wk1, forall_eq, Nat.reduceAdd, reduceIte, Nat.reduceEqDiff, reduceCtorEq, opLen, Int.reduceLT, Int.reduceEq, opConvert, opIndexAddr, opLoad, Nat.reduceLT, undef, Nat.reduceLeDiff, Array.toList, rowV, bin_sneq, wk4, wk5, wk0, fxC17LetterAny, g123, g124, g125, g126, e10b, e65, e66, e67, hw1]
      exact ⟨k - 1, by omega, j + 1, by omega, (((xx.trans x13).trans x14).trans x15).trans x16, rfl⟩
    · have hz := hbad he
      simp only [wk6, Nat.reduceBEq, wk1, forall_eq, Nat.reduceAdd, reduceIte, Nat.reduceEqDiff, reduceCtorEq, opLen, Int.reduceLT, Int.reduceEq, opConvert, opIndexAddr, opLoad, Nat.reduceLT, undef, Nat.reduceLeDiff, Array.toList, rowV, bin_sneq, wk4, wk5, wk0, fxC17LetterAny, he, e10b, e65, e66, e67, bld51z]
      rw [← hm12]
      refine lsame_ret (a := L) (b := zL) ⟨_, _, _, _, _, rfl, f12⟩ (zL_is _) (by rw [hz]; exact zL_ok) fun m13 x13 => ?_
      rw [hz, sameL_self]
      simp only [wk6, Nat.reduceBEq, wk1, forall_eq, Nat.reduceAdd, reduceIte, Nat.reduceEqDiff, reduceCtorEq, opLen, Int.reduceLT, Int.reduceEq, opConvert, opIndexAddr, opLoad, Nat.reduceLT, undef, Nat.reduceLeDiff, Array.toList, rowV, bin_sneq, wk4, wk5, wk0, fxC17LetterAny, e10b, e65, e66, e67, hw1]
      exact ⟨k - 1, by omega, j + 1, by omega, xx.trans x13, rfl⟩
  · simp only [wk6, Nat.reduceBEq, wk1, forall_eq, Nat.reduceAdd, reduceIte, Nat.reduceEqDiff, reduceCtorEq, opLen, Int.reduceLT, Int.reduceEq, opConvert, opIndexAddr, opLoad, Nat.reduceLT, undef, Nat.reduceLeDiff, Array.toList, rowV, bin_sneq, wk4, wk5, wk0, fxC17LetterAny, e10b, e65, e66, e67]
theorem letterAny_true {H : Type} {m : Mem} {xs : List Value} {ds : List (DataW H)} (hd : IsDs Try.prog 8 [24, 32, 23, 5, 5] ds) (hl : LieAll Try.prog m [24, 32, 23, 5, 5] ds xs) : Ret Try.prog 4 xs m fun v _ => v = .bool true := by
  obtain ⟨d0, dr, rfl, i0, hd⟩ := isDs_cons hd
  obtain ⟨d1, dr, rfl, i1, hd⟩ := isDs_cons hd
  obtain ⟨d2, dr, rfl, i2, hd⟩ := isDs_cons hd
  obtain ⟨d3, dr, rfl, i3, hd⟩ := isDs_cons hd
  obtain ⟨d4, dr, rfl, i4, hd⟩ := isDs_cons hd
  obtain rfl := isDs_nil hd
  obtain ⟨v0, _, rfl, l0, v1, _, rfl, l1, v2, _, rfl, l2, v3, _, rfl, l3, v4, _, rfl, l4, rfl⟩ := hl
  have hrb := reachBytes_lt
  have hb5 : Try.prog.bytesOf 5 = 1 := by kernel_rfl
  obtain ⟨b, hb, hwb, s0⟩ := lies_nums (k := 6) Try.underlying24 Try.underlying5 (by kernel_rfl) i0 l0
  rw [hb5] at hwb
  obtain ⟨S, h, ok⟩ := small_of (k := 1) i1 l1
  obtain ⟨a, rfl, w1⟩ := lies_int (k := 7) Try.underlying23 i2 l2
  obtain ⟨y, rfl, w2⟩ := lies_int (k := 7) Try.underlying5 i3 l3
  obtain ⟨kk, rfl, w3⟩ := lies_int (k := 7) Try.underlying5 i4 l4
  have wa := wf_u16 w1
  obtain ⟨at_, rfl⟩ : ∃ n : Nat, a = n := ⟨a.toNat, by omega⟩
  exact any_ret s0 (fun x hx => wf_u8 (hb x hx)) h ok (by omega) (wf_u8 w3)
end Go.Proofs.Ytejgoooanapjbaa
