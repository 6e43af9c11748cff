/- A text of the abstract machine. -/

/- The law LetterChecks, simp only [Nat.reduceAdd, reduceIte, Nat.reduceEqDiff, reduceCtorEq, opLen, Int.reduceLT, Int.reduceEq, opConvert, opIndexAddr, opLoad, Nat.reduceLT, undef, Nat.reduceLeDiff, Array.toList, wk4, wk5, wk0, fxC17LetterChecks]ed. -/
import Derived.Test.YtejgoooanapjbaaAmC17y
import Derived.Test.YtejgoooanapjbaaAmBun
set_option linter.unusedSimpArgs false
set_option linter.unusedVariables false
set_option maxRecDepth 100000
set_option maxHeartbeats 4000000
namespace Go.Proofs.Ytejgoooanapjbaa
open Go Go.AM Go.AM.Crc Go.AM.Wire
theorem fxC17LetterChecks : type_of% (And.intro (And.intro (And.intro (And.intro (And.intro (And.intro (And.intro (And.intro @Try.underlying3 @Try.underlying4) (And.intro @Try.underlying5 @Try.underlying9)) (And.intro (And.intro @Try.underlying42 @Try.underlying46) (And.intro @Try.underlying47 @Try.underlying123))) (And.intro (And.intro (And.intro @Try.underlying23 @Try.underlying26) (And.intro @Try.underlying28 @Try.underlying39)) (And.intro (And.intro @Try.underlying41 @Try.underlying44) (And.intro @Try.underlying24 (And.intro @Try.underlying37 @Try.underlying22))))) (And.intro (And.intro (And.intro (And.intro @Try.underlying0 @Try.underlying100) (And.intro @Try.underlying66 @Try.underlying68)) (And.intro (And.intro @Try.underlying78 @Try.underlying103) (And.intro @Try.underlying49 (And.intro @Try.underlying34 @Try.underlying36)))) (And.intro (And.intro (And.intro @Try.underlying51 @Try.underlying53) (And.intro @Try.underlying55 @Try.underlying88)) (And.intro (And.intro @Try.underlying32 @Try.underlying30) (And.intro @Try.underlying61 (And.intro @Try.underlying63 @Try.underlying90)))))) (And.intro (And.intro (And.intro (And.intro (And.intro @Try.underlying92 @Try.underlying94) (And.intro @ts3 @ts4)) (And.intro (And.intro @ts5 @ts9) (And.intro @ts42 @ts46))) (And.intro (And.intro (And.intro @ts47 @ts123) (And.intro @ts23 @ts26)) (And.intro (And.intro @ts28 @ts39) (And.intro @ts41 (And.intro @ts44 @ts24))))) (And.intro (And.intro (And.intro (And.intro @ts37 @ts22) (And.intro @ts0 @ts100)) (And.intro (And.intro @ts66 @ts68) (And.intro @ts78 (And.intro @ts103 @ts49)))) (And.intro (And.intro (And.intro @ts34 @ts36) (And.intro @ts51 @ts53)) (And.intro (And.intro @ts55 @ts88) (And.intro @ts32 (And.intro @ts30 @ts61))))))) (And.intro (And.intro (And.intro (And.intro (And.intro (And.intro @ts63 @ts90) (And.intro @ts92 @ts94)) (And.intro (And.intro @tz3 @tz4) (And.intro @tz5 @tz9))) (And.intro (And.intro (And.intro @tz42 @tz46) (And.intro @tz47 @tz123)) (And.intro (And.intro @tz23 @tz26) (And.intro @tz28 (And.intro @tz39 @tz41))))) (And.intro (And.intro (And.intro (And.intro @tz44 @tz24) (And.intro @tz37 @tz22)) (And.intro (And.intro @tz0 @tz100) (And.intro @tz66 (And.intro @tz68 @tz78)))) (And.intro (And.intro (And.intro @tz103 @tz49) (And.intro @tz34 @tz36)) (And.intro (And.intro @tz51 @tz53) (And.intro @tz55 (And.intro @tz88 @tz32)))))) (And.intro (And.intro (And.intro (And.intro (And.intro @tz30 @tz61) (And.intro @tz63 @tz90)) (And.intro (And.intro @tz92 @tz94) (And.intro @tb3 @tb4))) (And.intro (And.intro (And.intro @tb5 @tb9) (And.intro @tb42 @tb46)) (And.intro (And.intro @tb47 @tb123) (And.intro @tb23 (And.intro @tb26 @tb28))))) (And.intro (And.intro (And.intro (And.intro @tb39 @tb41) (And.intro @tb44 @tb24)) (And.intro (And.intro @tb37 @tb22) (And.intro @tb0 (And.intro @tb100 @tb66)))) (And.intro (And.intro (And.intro @tb68 @tb78) (And.intro @tb103 @tb49)) (And.intro (And.intro @tb34 @tb36) (And.intro @tb51 (And.intro @tb53 @tb55)))))))) (And.intro (And.intro (And.intro (And.intro (And.intro (And.intro (And.intro @tb88 @tb32) (And.intro @tb30 @tb61)) (And.intro (And.intro @tb63 @tb90) (And.intro @tb92 @tb94))) (And.intro (And.intro (And.intro @fr8 @fr9) (And.intro @fr10 @fr11)) (And.intro (And.intro @fr13 @fr15) (And.intro @fr16 (And.intro @fr18 @fr19))))) (And.intro (And.intro (And.intro (And.intro @fr20 @fr21) (And.intro @fr22 @fr23)) (And.intro (And.intro @fr24 @fr25) (And.intro @fr26 (And.intro @fr27 @fr28)))) (And.intro (And.intro (And.intro @fr38 @fr39) (And.intro @fr40 @fr41)) (And.intro (And.intro @fr42 @fr51) (And.intro @fr52 (And.intro @fr53 @fr54)))))) (And.intro (And.intro (And.intro (And.intro (And.intro @fr3 @fr4) (And.intro @fr5 @fr6)) (And.intro (And.intro @fr7 @fr12) (And.intro @fr14 @fr17))) (And.intro (And.intro (And.intro @bz46 @al46) (And.intro @fa46_0 @fa46_1)) (And.intro (And.intro @bz28 @bz26) (And.intro @bz41 (And.intro @bz44 @al41))))) (And.intro (And.intro (And.intro (And.intro @al44 @fa44_0) (And.intro @fa44_1 @fa44_2)) (And.intro (And.intro @fa41_0 @fa41_1) (And.intro @fa41_2 (And.intro @fa28_0 @fa28_1)))) (And.intro (And.intro (And.intro @fa28_2 @fa26_0) (And.intro @fa26_1 @fa26_2)) (And.intro (And.intro @fa26_3 @bz103) (And.intro @al68 (And.intro @al103 @fa68_0))))))) (And.intro (And.intro (And.intro (And.intro (And.intro (And.intro @fa103_0 @fa103_1) (And.intro @fa103_2 @bin_weq)) (And.intro (And.intro @bin_wneq @bin_req) (And.intro @bin_rneq @bz39))) (And.intro (And.intro (And.intro @fa39_0 @fa39_1) (And.intro @bz68 @bz49)) (And.intro (And.intro @al49 @fa49_0) (And.intro @fa49_1 (And.intro @fa49_2 @bz51))))) (And.intro (And.intro (And.intro (And.intro @al51 @fa51_0) (And.intro @fa51_1 @fa51_2)) (And.intro (And.intro @fa51_3 @fa51_4) (And.intro @fa51_5 (And.intro @fa51_6 @fa51_7)))) (And.intro (And.intro (And.intro @fa51_8 @fa51_9) (And.intro @fa51_10 @fa51_11)) (And.intro (And.intro @bz36 @al36) (And.intro @fa36_0 (And.intro @fa36_1 @oneOf_two)))))) (And.intro (And.intro (And.intro (And.intro (And.intro @al24 @al90) (And.intro @bz32 @fa32_0)) (And.intro (And.intro @fa32_1 @fa32_2) (And.intro @fa32_3 (And.intro @fa32_4 @fa32_5)))) (And.intro (And.intro (And.intro @fa32_6 @fa32_7) (And.intro @fa32_8 @fa32_9)) (And.intro (And.intro @fa32_10 @fa32_11) (And.intro @fa32_12 (And.intro @fa32_13 @fa32_14))))) (And.intro (And.intro (And.intro (And.intro @fa32_15 @al32) (And.intro @al28 @al26)) (And.intro (And.intro @fa30_0 @fa30_1) (And.intro @fa30_2 (And.intro @al30 @bldI)))) (And.intro (And.intro (And.intro @set_set @bldL3) (And.intro @bldB @vqB)) (And.intro (And.intro @vqE @vqA) (And.intro @vqC (And.intro @vqI @vqW))))))))) := (And.intro (And.intro (And.intro (And.intro (And.intro (And.intro (And.intro (And.intro @Try.underlying3 @Try.underlying4) (And.intro @Try.underlying5 @Try.underlying9)) (And.intro (And.intro @Try.underlying42 @Try.underlying46) (And.intro @Try.underlying47 @Try.underlying123))) (And.intro (And.intro (And.intro @Try.underlying23 @Try.underlying26) (And.intro @Try.underlying28 @Try.underlying39)) (And.intro (And.intro @Try.underlying41 @Try.underlying44) (And.intro @Try.underlying24 (And.intro @Try.underlying37 @Try.underlying22))))) (And.intro (And.intro (And.intro (And.intro @Try.underlying0 @Try.underlying100) (And.intro @Try.underlying66 @Try.underlying68)) (And.intro (And.intro @Try.underlying78 @Try.underlying103) (And.intro @Try.underlying49 (And.intro @Try.underlying34 @Try.underlying36)))) (And.intro (And.intro (And.intro @Try.underlying51 @Try.underlying53) (And.intro @Try.underlying55 @Try.underlying88)) (And.intro (And.intro @Try.underlying32 @Try.underlying30) (And.intro @Try.underlying61 (And.intro @Try.underlying63 @Try.underlying90)))))) (And.intro (And.intro (And.intro (And.intro (And.intro @Try.underlying92 @Try.underlying94) (And.intro @ts3 @ts4)) (And.intro (And.intro @ts5 @ts9) (And.intro @ts42 @ts46))) (And.intro (And.intro (And.intro @ts47 @ts123) (And.intro @ts23 @ts26)) (And.intro (And.intro @ts28 @ts39) (And.intro @ts41 (And.intro @ts44 @ts24))))) (And.intro (And.intro (And.intro (And.intro @ts37 @ts22) (And.intro @ts0 @ts100)) (And.intro (And.intro @ts66 @ts68) (And.intro @ts78 (And.intro @ts103 @ts49)))) (And.intro (And.intro (And.intro @ts34 @ts36) (And.intro @ts51 @ts53)) (And.intro (And.intro @ts55 @ts88) (And.intro @ts32 (And.intro @ts30 @ts61))))))) (And.intro (And.intro (And.intro (And.intro (And.intro (And.intro @ts63 @ts90) (And.intro @ts92 @ts94)) (And.intro (And.intro @tz3 @tz4) (And.intro @tz5 @tz9))) (And.intro (And.intro (And.intro @tz42 @tz46) (And.intro @tz47 @tz123)) (And.intro (And.intro @tz23 @tz26) (And.intro @tz28 (And.intro @tz39 @tz41))))) (And.intro (And.intro (And.intro (And.intro @tz44 @tz24) (And.intro @tz37 @tz22)) (And.intro (And.intro @tz0 @tz100) (And.intro @tz66 (And.intro @tz68 @tz78)))) (And.intro (And.intro (And.intro @tz103 @tz49) (And.intro @tz34 @tz36)) (And.intro (And.intro @tz51 @tz53) (And.intro @tz55 (And.intro @tz88 @tz32)))))) (And.intro (And.intro (And.intro (And.intro (And.intro @tz30 @tz61) (And.intro @tz63 @tz90)) (And.intro (And.intro @tz92 @tz94) (And.intro @tb3 @tb4))) (And.intro (And.intro (And.intro @tb5 @tb9) (And.intro @tb42 @tb46)) (And.intro (And.intro @tb47 @tb123) (And.intro @tb23 (And.intro @tb26 @tb28))))) (And.intro (And.intro (And.intro (And.intro @tb39 @tb41) (And.intro @tb44 @tb24)) (And.intro (And.intro @tb37 @tb22) (And.intro @tb0 (And.intro @tb100 @tb66)))) (And.intro (And.intro (And.intro @tb68 @tb78) (And.intro @tb103 @tb49)) (And.intro (And.intro @tb34 @tb36) (And.intro @tb51 (And.intro @tb53 @tb55)))))))) (And.intro (And.intro (And.intro (And.intro (And.intro (And.intro (And.intro @tb88 @tb32) (And.intro @tb30 @tb61)) (And.intro (And.intro @tb63 @tb90) (And.intro @tb92 @tb94))) (And.intro (And.intro (And.intro @fr8 @fr9) (And.intro @fr10 @fr11)) (And.intro (And.intro @fr13 @fr15) (And.intro @fr16 (And.intro @fr18 @fr19))))) (And.intro (And.intro (And.intro (And.intro @fr20 @fr21) (And.intro @fr22 @fr23)) (And.intro (And.intro @fr24 @fr25) (And.intro @fr26 (And.intro @fr27 @fr28)))) (And.intro (And.intro (And.intro @fr38 @fr39) (And.intro @fr40 @fr41)) (And.intro (And.intro @fr42 @fr51) (And.intro @fr52 (And.intro @fr53 @fr54)))))) (And.intro (And.intro (And.intro (And.intro (And.intro @fr3 @fr4) (And.intro @fr5 @fr6)) (And.intro (And.intro @fr7 @fr12) (And.intro @fr14 @fr17))) (And.intro (And.intro (And.intro @bz46 @al46) (And.intro @fa46_0 @fa46_1)) (And.intro (And.intro @bz28 @bz26) (And.intro @bz41 (And.intro @bz44 @al41))))) (And.intro (And.intro (And.intro (And.intro @al44 @fa44_0) (And.intro @fa44_1 @fa44_2)) (And.intro (And.intro @fa41_0 @fa41_1) (And.intro @fa41_2 (And.intro @fa28_0 @fa28_1)))) (And.intro (And.intro (And.intro @fa28_2 @fa26_0) (And.intro @fa26_1 @fa26_2)) (And.intro (And.intro @fa26_3 @bz103) (And.intro @al68 (And.intro @al103 @fa68_0))))))) (And.intro (And.intro (And.intro (And.intro (And.intro (And.intro @fa103_0 @fa103_1) (And.intro @fa103_2 @bin_weq)) (And.intro (And.intro @bin_wneq @bin_req) (And.intro @bin_rneq @bz39))) (And.intro (And.intro (And.intro @fa39_0 @fa39_1) (And.intro @bz68 @bz49)) (And.intro (And.intro @al49 @fa49_0) (And.intro @fa49_1 (And.intro @fa49_2 @bz51))))) (And.intro (And.intro (And.intro (And.intro @al51 @fa51_0) (And.intro @fa51_1 @fa51_2)) (And.intro (And.intro @fa51_3 @fa51_4) (And.intro @fa51_5 (And.intro @fa51_6 @fa51_7)))) (And.intro (And.intro (And.intro @fa51_8 @fa51_9) (And.intro @fa51_10 @fa51_11)) (And.intro (And.intro @bz36 @al36) (And.intro @fa36_0 (And.intro @fa36_1 @oneOf_two)))))) (And.intro (And.intro (And.intro (And.intro (And.intro @al24 @al90) (And.intro @bz32 @fa32_0)) (And.intro (And.intro @fa32_1 @fa32_2) (And.intro @fa32_3 (And.intro @fa32_4 @fa32_5)))) (And.intro (And.intro (And.intro @fa32_6 @fa32_7) (And.intro @fa32_8 @fa32_9)) (And.intro (And.intro @fa32_10 @fa32_11) (And.intro @fa32_12 (And.intro @fa32_13 @fa32_14))))) (And.intro (And.intro (And.intro (And.intro @fa32_15 @al32) (And.intro @al28 @al26)) (And.intro (And.intro @fa30_0 @fa30_1) (And.intro @fa30_2 (And.intro @al30 @bldI)))) (And.intro (And.intro (And.intro @set_set @bldL3) (And.intro @bldB @vqB)) (And.intro (And.intro @vqE @vqA) (And.intro @vqC (And.intro @vqI @vqW)))))))))
theorem hz : ((0 : Nat) : Int) = 0 := rfl
theorem beqb (a : Bool) : binV Try.prog .eql 4 (.bool a) (.bool a) = some (.bool true) := by cases a <;> kernel_rfl
def outI (n hi : Int) : Int := if n < 0 ∨ hi < n then 2 else 0
theorem out_ret {m : Mem} {b : Nat} {n hi : Int} (g : m.get b = some (.cells [.int .i64 n] 3 true)) {K : Value → Mem → Prop} (hK : K (.int .i64 (outI n hi)) m) : Ret Try.prog 17 [.int .i64 hi, .pointer (some ⟨b, 0, none⟩)] m K := by
  refine ret_wp [] Try.func17 rfl (by decide) (by kernel_rfl) ?_
  by_cases h1 : n < 0
  · rw [outI, if_pos (.inl h1)] at hK
    simp only [Nat.reduceAdd, reduceIte, Nat.reduceEqDiff, reduceCtorEq, opLen, Int.reduceLT, Int.reduceEq, opConvert, opIndexAddr, opLoad, Nat.reduceLT, undef, Nat.reduceLeDiff, Array.toList, wk4, wk5, wk0, fxC17LetterChecks, g, h1]
    exact hK
  · by_cases h2 : hi < n
    · rw [outI, if_pos (.inr h2)] at hK
      simp only [Nat.reduceAdd, reduceIte, Nat.reduceEqDiff, reduceCtorEq, opLen, Int.reduceLT, Int.reduceEq, opConvert, opIndexAddr, opLoad, Nat.reduceLT, undef, Nat.reduceLeDiff, Array.toList, wk4, wk5, wk0, fxC17LetterChecks, g, h1, h2]
      exact hK
    · rw [outI, if_neg (by omega)] at hK
      simp only [Nat.reduceAdd, reduceIte, Nat.reduceEqDiff, reduceCtorEq, opLen, Int.reduceLT, Int.reduceEq, opConvert, opIndexAddr, opLoad, Nat.reduceLT, undef, Nat.reduceLeDiff, Array.toList, wk4, wk5, wk0, fxC17LetterChecks, g, h1, h2]
      exact hK
theorem letB_pos (L : Let) : 0 < (letB L).length := by simp only [letB, List.length_append, wordB_length]; omega
theorem lck_out {L : Let} {n hi : Int} (hk : 0 ≤ L.kd ∧ L.kd < 8) (hE : echk L.E = 0) (hV : memCk L.vm = 0) (h : Rg L ↔ ¬ (n < 0 ∨ hi < n)) : lck L = outI n hi := by
  obtain ⟨h1, h2⟩ := lck_rg hk hE hV
  by_cases q : n < 0 ∨ hi < n
  · rw [outI, if_pos q, h2 (fun r => (h.1 r) q)]
  · rw [outI, if_neg q, h1 (h.2 q)]
theorem checks_ret {m : Mem} {v : Value} {S : SmL} {what n : Int} (h : SmLF m v S) (ok : SmOk S) (hw : 0 ≤ what ∧ what < 256) : Ret Try.prog 5 [v, .int .u8 what, .int .i64 n] m fun v _ => v = .bool true := by
  obtain ⟨ea, ca, aa, rfl, h⟩ := h
  obtain ⟨a1, z1, rfl⟩ := h.ea.is
  obtain ⟨a2, z2, rfl⟩ := h.ca.is
  obtain ⟨a3, z3, rfl⟩ := h.aa.is
  refine ret_wp [(15, [0]), (17, [0])] Try.func5 rfl (by decide) (by kernel_rfl) ?_
  simp only [wk6, Nat.reduceBEq, wk1, forall_eq, Nat.reduceAdd, reduceIte, Nat.reduceEqDiff, reduceCtorEq, opLen, Int.reduceLT, Int.reduceEq, opConvert, opIndexAddr, opLoad, Nat.reduceLT, undef, Nat.reduceLeDiff, Array.toList, wk4, wk5, wk0, fxC17LetterChecks]
  obtain ⟨m0, hm0⟩ : ∃ m0, m0 = (m.new (.cells (smC S (.slice a1 S.E.args.length z1) (.slice a2 S.C.s.length z2) (.slice a3 S.A.s.length z3)) 32 true)).new (.cells [.int .i64 n] 3 true) := ⟨_, rfl⟩
  have x0 : Ext m m0 := by rw [hm0]; exact (Ext.new _ _).trans (Ext.new _ _)
  have n0 : m0.next = m.next + 2 := by rw [hm0]; rfl
  have g3 : m0.get m.next = some (.cells (smC S (.slice a1 S.E.args.length z1) (.slice a2 S.C.s.length z2) (.slice a3 S.A.s.length z3)) 32 true) := by rw [hm0, new_get_ne _ (by simp only [new_next]; omega), new_get]
  have g5 : m0.get (m.next + 1) = some (.cells [.int .i64 n] 3 true) := by rw [hm0]; exact new_get (m.new _) _
  rw [← hm0]
  clear hm0
  obtain ⟨b5, hb5⟩ : ∃ b, b = m.next + 1 := ⟨_, rfl⟩
  rw [← hb5] at g5 ⊢
  refine awake_ret fun m1 x1 => ?_
  have g31 := (x1.2 m.next (by omega)).trans g3
  have g51 := (x1.2 b5 (by omega)).trans g5
  have X1 := x0.trans x1
  simp only [wk6, Nat.reduceBEq, wk1, forall_eq, Nat.reduceAdd, reduceIte, Nat.reduceEqDiff, reduceCtorEq, opLen, Int.reduceLT, Int.reduceEq, opConvert, opIndexAddr, opLoad, Nat.reduceLT, undef, Nat.reduceLeDiff, Array.toList, wk4, wk5, wk0, fxC17LetterChecks, g31]
  refine light_ret ⟨_, _, _, rfl, h.pz X1.pz⟩ fun m2 x2 => ?_
  have k1 := x1.1
  have k2 := x2.1
  have g32 := (x2.2 m.next (by omega)).trans g31
  have g52 := (x2.2 b5 (by omega)).trans g51
  have X2 := X1.trans x2
  by_cases l1 : S.light
  · have d1 := decide_eq_true l1
    simp only [wk6, Nat.reduceBEq, wk1, forall_eq, Nat.reduceAdd, reduceIte, Nat.reduceEqDiff, reduceCtorEq, opLen, Int.reduceLT, Int.reduceEq, opConvert, opIndexAddr, opLoad, Nat.reduceLT, undef, Nat.reduceLeDiff, Array.toList, wk4, wk5, wk0, fxC17LetterChecks, d1, g32]
    refine all_ret ⟨_, _, _, rfl, h.pz X2.pz⟩ ok fun m3 v3 x3 f3 => ?_
    have g53 := (x3.2 b5 (by omega)).trans g52
    have X3 := X2.trans x3
    have k3 := x3.1
    obtain ⟨ea, em, vm, ca, aa, rfl, f3⟩ := f3
    obtain ⟨i1, j1, rfl⟩ := f3.ea.is
    obtain ⟨i2, j2, rfl⟩ := f3.em.is
    obtain ⟨i3, j3, rfl⟩ := f3.vm.is
    obtain ⟨i4, j4, rfl⟩ := f3.ca.is
    obtain ⟨i5, j5, rfl⟩ := f3.aa.is
    have oA := all_ok ok l1
    have rA := all_rg ok
    have kk : 0 ≤ S.all.kd ∧ S.all.kd < 8 := tm_lt ok.kd.1 (by decide)
    have eE := all_E ok l1
    have eV := all_V S
    obtain ⟨A, hA⟩ : ∃ A, A = S.all := ⟨_, rfl⟩
    rw [← hA] at f3 oA rA kk eE eV ⊢
    have w8 := tm_lt hw.1 (show (0 : Int) < 8 by decide)
    have rr : LetR m3 A (.slice i1 A.E.args.length j1) (.slice i2 A.E.mem.length j2) (.slice i3 A.vm.length j3) (.slice i4 A.C.s.length j4) (.slice i5 A.A.s.length j5) := by rw [hA]; rw [hA] at f3; exact f3
    clear hA
    simp only [wk6, Nat.reduceBEq, wk1, forall_eq, Nat.reduceAdd, reduceIte, Nat.reduceEqDiff, reduceCtorEq, opLen, Int.reduceLT, Int.reduceEq, opConvert, opIndexAddr, opLoad, Nat.reduceLT, undef, Nat.reduceLeDiff, Array.toList, wk4, wk5, wk0, fxC17LetterChecks]
    obtain ⟨b7, hb7⟩ : ∃ b, b = m3.next := ⟨_, rfl⟩
    obtain ⟨M0, hM0⟩ : ∃ M, M = (m3.new (.cells (zCells 0 0 0) 51 true)).set m3.next (.cells (letC A (.slice i1 A.E.args.length j1) (.slice i2 A.E.mem.length j2) (.slice i3 A.vm.length j3) (.slice i4 A.C.s.length j4) (.slice i5 A.A.s.length j5)) 51 true) := ⟨_, rfl⟩
    have x4 : Ext m3 M0 := by rw [hM0]; exact (Ext.new _ _).set (Nat.le_refl _)
    have X4 := X3.trans x4
    have G5 := (x4.2 b5 (by omega)).trans g53
    have G7 : M0.get b7 = some (.cells (letC A (.slice i1 A.E.args.length j1) (.slice i2 A.E.mem.length j2) (.slice i3 A.vm.length j3) (.slice i4 A.C.s.length j4) (.slice i5 A.A.s.length j5)) 51 true) := by rw [hM0, hb7, set_get]
    have hb7M0 : b7 < M0.next := by rw [hM0, hb7]; exact Nat.lt_succ_self _
    have RA := rr.pz x4.pz
    have n57 : ¬ b5 = b7 := by omega
    simp only [zCells] at hM0
    rw [← hM0]
    rw [← hb7]
    clear hM0
    have kA := oA
    obtain ⟨h1, h2, h3, h4, h5, h6⟩ := id rA
    by_cases c0 : what.tmod 8 = 0
    · have d0 := decide_eq_true c0
      simp only [wk6, Nat.reduceBEq, wk1, forall_eq, Nat.reduceAdd, reduceIte, Nat.reduceEqDiff, reduceCtorEq, opLen, Int.reduceLT, Int.reduceEq, opConvert, opIndexAddr, opLoad, Nat.reduceLT, undef, Nat.reduceLeDiff, Array.toList, wk4, wk5, wk0, fxC17LetterChecks, d0, G7]
      obtain ⟨L2, hL2⟩ : ∃ L : Let, L = { A with kd := 8 } := ⟨_, rfl⟩
      have ok2 : Ok L2 ∧ Ty L2 := by
        rw [hL2]
        exact ⟨⟨kA.1.ek, kA.1.em, kA.1.vm, kA.1.cp, kA.1.cs, kA.1.ae, kA.1.aq, kA.1.al⟩, ⟨⟨by show (0 : Int) ≤ 8; decide, by show (8 : Int) < 256; decide⟩, kA.2.et, kA.2.en, kA.2.eb, kA.2.ct, kA.2.cn, kA.2.cb, kA.2.it, kA.2.nn, kA.2.ab⟩⟩
      have eW : lck L2 = 5 := by
        rw [hL2, lck, if_pos (by show (8 : Int) ≤ 8; decide)]
      obtain ⟨M, hM⟩ : ∃ M, M = M0.set b7 (.cells (letC ({ A with kd := 8 }) (.slice i1 A.E.args.length j1) (.slice i2 A.E.mem.length j2) (.slice i3 A.vm.length j3) (.slice i4 A.C.s.length j4) (.slice i5 A.A.s.length j5)) 51 true) := ⟨_, rfl⟩
      rw [← hM]
      have RM : LetR M L2 (.slice i1 A.E.args.length j1) (.slice i2 A.E.mem.length j2) (.slice i3 A.vm.length j3) (.slice i4 A.C.s.length j4) (.slice i5 A.A.s.length j5) := by rw [hM, hL2]; exact ⟨RA.ea.pz (Pz.set G7 _), RA.em.pz (Pz.set G7 _), RA.vm.pz (Pz.set G7 _), RA.ca.pz (Pz.set G7 _), RA.aa.pz (Pz.set G7 _)⟩
      have hb7M0 : b7 < M.next := by rw [hM]; exact hb7M0
      have G7 : M.get b7 = some (.cells (letC L2 (.slice i1 A.E.args.length j1) (.slice i2 A.E.mem.length j2) (.slice i3 A.vm.length j3) (.slice i4 A.C.s.length j4) (.slice i5 A.A.s.length j5)) 51 true) := by rw [hM, set_get, hL2]
      rw [hL2] at ok2 eW RM G7
      have hb7M : b7 < M.next := hb7M0
      refine lput_ret ⟨_, _, _, _, _, rfl, RM⟩ ok2.1 ok2.2 (fun hc M' x' => ?_) (fun hc M' r' x' y' z' g' => ?_)
      · have G7' := (x'.2 b7 hb7M).trans G7
        simp only [wk6, Nat.reduceBEq, wk1, forall_eq, Nat.reduceAdd, reduceIte, Nat.reduceEqDiff, reduceCtorEq, opLen, Int.reduceLT, Int.reduceEq, opConvert, opIndexAddr, opLoad, Nat.reduceLT, undef, Nat.reduceLeDiff, Array.toList, wk4, wk5, wk0, fxC17LetterChecks, G7']
        refine lcheck_ret ⟨_, _, _, _, _, rfl, RM.pz x'.pz⟩ ok2.1 fun M'' x'' => ?_
        rw [eW]
        simp only [wk6, Nat.reduceBEq, wk1, forall_eq, Nat.reduceAdd, reduceIte, Nat.reduceEqDiff, reduceCtorEq, opLen, Int.reduceLT, Int.reduceEq, opConvert, opIndexAddr, opLoad, Nat.reduceLT, undef, Nat.reduceLeDiff, Array.toList, wk4, wk5, optV_some, guardV_true, guardV_false, condV_true, condV_false, wpc_skip, wpc_label, wpc_exit, wpc_ret, wpc_region, wpc_seq, wpc_cond, wpc_block, wpc_scope, wpc_loop, wpo_nil, wpo_cons, wps_open, put_get, put_none, keep_some, bin_add, bin_sub, bin_mul, bin_quo, bin_rem, bin_and, bin_or, bin_xor, bin_shl, bin_shr, bin_lss, bin_leq, bin_gtr, bin_geq, bin_eql, bin_neq, bin_seql, un_neg, un_xor, un_not, oneOf_one, fxC17LetterChecks, beqb, hz]
      · rw [eW] at hc
        exact absurd hc (by decide)
    have d0 := decide_eq_false c0
    by_cases c1 : what.tmod 8 = 1
    · have d1 := decide_eq_true c1
      simp only [wk6, Nat.reduceBEq, wk1, forall_eq, Nat.reduceAdd, reduceIte, Nat.reduceEqDiff, reduceCtorEq, opLen, Int.reduceLT, Int.reduceEq, opConvert, opIndexAddr, opLoad, Nat.reduceLT, undef, Nat.reduceLeDiff, Array.toList, wk4, wk5, wk0, fxC17LetterChecks, d0, d1]
      refine Loose.by (fun y => y = b5) ?_
      simp only [wk6, Nat.reduceBEq, wk1, forall_eq, Nat.reduceAdd, reduceIte, Nat.reduceEqDiff, reduceCtorEq, opLen, Int.reduceLT, Int.reduceEq, opConvert, opIndexAddr, opLoad, Nat.reduceLT, undef, Nat.reduceLeDiff, Array.toList, wk4, wk5, wk0, fxC17LetterChecks, G5]
      refine out_ret G5 ?_
      simp only [wk6, Nat.reduceBEq, wk1, forall_eq, Nat.reduceAdd, reduceIte, Nat.reduceEqDiff, reduceCtorEq, opLen, Int.reduceLT, Int.reduceEq, opConvert, opIndexAddr, opLoad, Nat.reduceLT, undef, Nat.reduceLeDiff, Array.toList, wk4, wk5, wk0, fxC17LetterChecks, G5, G7, n57]
      obtain ⟨W, hW⟩ : ∃ W, W = outI n 15 := ⟨_, rfl⟩
      rw [← hW]
      obtain ⟨L2, hL2⟩ : ∃ L : Let, L = { A with fr := n } := ⟨_, rfl⟩
      have ok2 : Ok L2 ∧ Ty L2 := by
        rw [hL2]
        exact ⟨⟨kA.1.ek, kA.1.em, kA.1.vm, kA.1.cp, kA.1.cs, kA.1.ae, kA.1.aq, kA.1.al⟩, ⟨kA.2.kd, kA.2.et, kA.2.en, kA.2.eb, kA.2.ct, kA.2.cn, kA.2.cb, kA.2.it, kA.2.nn, kA.2.ab⟩⟩
      have eW : lck L2 = W := by
        rw [hL2, hW]
        refine lck_out kk eE eV ⟨fun r => ?_, fun r => ?_⟩
        · obtain ⟨r1, r2, r3, r4, r5, r6⟩ := r
          have : 0 ≤ n ∧ n < 16 := r1; omega
        · exact ⟨by show 0 ≤ n ∧ n < 16; omega, h2, h3, h4, h5, h6⟩
      obtain ⟨M, hM⟩ : ∃ M, M = M0.set b7 (.cells (letC ({ A with fr := n }) (.slice i1 A.E.args.length j1) (.slice i2 A.E.mem.length j2) (.slice i3 A.vm.length j3) (.slice i4 A.C.s.length j4) (.slice i5 A.A.s.length j5)) 51 true) := ⟨_, rfl⟩
      rw [← hM]
      have RM : LetR M L2 (.slice i1 A.E.args.length j1) (.slice i2 A.E.mem.length j2) (.slice i3 A.vm.length j3) (.slice i4 A.C.s.length j4) (.slice i5 A.A.s.length j5) := by rw [hM, hL2]; exact ⟨RA.ea.pz (Pz.set G7 _), RA.em.pz (Pz.set G7 _), RA.vm.pz (Pz.set G7 _), RA.ca.pz (Pz.set G7 _), RA.aa.pz (Pz.set G7 _)⟩
      have hb7M0 : b7 < M.next := by rw [hM]; exact hb7M0
      have G7 : M.get b7 = some (.cells (letC L2 (.slice i1 A.E.args.length j1) (.slice i2 A.E.mem.length j2) (.slice i3 A.vm.length j3) (.slice i4 A.C.s.length j4) (.slice i5 A.A.s.length j5)) 51 true) := by rw [hM, set_get, hL2]
      rw [hL2] at ok2 eW RM G7
      have hb7M : b7 < M.next := hb7M0
      refine lput_ret ⟨_, _, _, _, _, rfl, RM⟩ ok2.1 ok2.2 (fun hc M' x' => ?_) (fun hc M' r' x' y' z' g' => ?_)
      · rw [eW] at hc
        have G7' := (x'.2 b7 hb7M).trans G7
        simp only [wk6, Nat.reduceBEq, wk1, forall_eq, Nat.reduceAdd, reduceIte, Nat.reduceEqDiff, reduceCtorEq, opLen, Int.reduceLT, Int.reduceEq, opConvert, opIndexAddr, opLoad, Nat.reduceLT, undef, Nat.reduceLeDiff, Array.toList, wk4, wk5, wk0, fxC17LetterChecks, G7']
        refine lcheck_ret ⟨_, _, _, _, _, rfl, RM.pz x'.pz⟩ ok2.1 fun M'' x'' => ?_
        rw [eW]
        simp only [wk6, Nat.reduceBEq, wk1, forall_eq, Nat.reduceAdd, reduceIte, Nat.reduceEqDiff, reduceCtorEq, opLen, Int.reduceLT, Int.reduceEq, opConvert, opIndexAddr, opLoad, Nat.reduceLT, undef, Nat.reduceLeDiff, Array.toList, wk4, wk5, optV_some, guardV_true, guardV_false, condV_true, condV_false, wpc_skip, wpc_label, wpc_exit, wpc_ret, wpc_region, wpc_seq, wpc_cond, wpc_block, wpc_scope, wpc_loop, wpo_nil, wpo_cons, wps_open, put_get, put_none, keep_some, bin_add, bin_sub, bin_mul, bin_quo, bin_rem, bin_and, bin_or, bin_xor, bin_shl, bin_shr, bin_lss, bin_leq, bin_gtr, bin_geq, bin_eql, bin_neq, bin_seql, un_neg, un_xor, un_not, oneOf_one, fxC17LetterChecks, beqb, hc, hz]
      · rw [eW] at hc
        have G7' := (x'.2 b7 hb7M).trans G7
        simp only [wk6, Nat.reduceBEq, wk1, forall_eq, Nat.reduceAdd, reduceIte, Nat.reduceEqDiff, reduceCtorEq, opLen, Int.reduceLT, Int.reduceEq, opConvert, opIndexAddr, opLoad, Nat.reduceLT, undef, Nat.reduceLeDiff, Array.toList, wk4, wk5, wk0, fxC17LetterChecks, G7']
        refine lcheck_ret ⟨_, _, _, _, _, rfl, RM.pz x'.pz⟩ ok2.1 fun M'' x'' => ?_
        rw [eW]
        have hp : (0 : Int) < ((letB ({ A with fr := n })).length : Int) := by have := letB_pos ({ A with fr := n }); omega
        simp only [wk6, Nat.reduceBEq, wk1, forall_eq, Nat.reduceAdd, reduceIte, Nat.reduceEqDiff, reduceCtorEq, opLen, Int.reduceLT, Int.reduceEq, opConvert, opIndexAddr, opLoad, Nat.reduceLT, undef, Nat.reduceLeDiff, Array.toList, wk4, wk5, optV_some, guardV_true, guardV_false, condV_true, condV_false, wpc_skip, wpc_label, wpc_exit, wpc_ret, wpc_region, wpc_seq, wpc_cond, wpc_block, wpc_scope, wpc_loop, wpo_nil, wpo_cons, wps_open, put_get, put_none, keep_some, bin_add, bin_sub, bin_mul, bin_quo, bin_rem, bin_and, bin_or, bin_xor, bin_shl, bin_shr, bin_lss, bin_leq, bin_gtr, bin_geq, bin_eql, bin_neq, bin_seql, un_neg, un_xor, un_not, oneOf_one, fxC17LetterChecks, beqb, hc, hp]
    have d1 := decide_eq_false c1
    by_cases c2 : what.tmod 8 = 2
    · have d2 := decide_eq_true c2
      simp only [wk6, Nat.reduceBEq, wk1, forall_eq, Nat.reduceAdd, reduceIte, Nat.reduceEqDiff, reduceCtorEq, opLen, Int.reduceLT, Int.reduceEq, opConvert, opIndexAddr, opLoad, Nat.reduceLT, undef, Nat.reduceLeDiff, Array.toList, wk4, wk5, wk0, fxC17LetterChecks, d0, d1, d2]
      refine Loose.by (fun y => y = b5) ?_
      simp only [wk6, Nat.reduceBEq, wk1, forall_eq, Nat.reduceAdd, reduceIte, Nat.reduceEqDiff, reduceCtorEq, opLen, Int.reduceLT, Int.reduceEq, opConvert, opIndexAddr, opLoad, Nat.reduceLT, undef, Nat.reduceLeDiff, Array.toList, wk4, wk5, wk0, fxC17LetterChecks, G5]
      refine out_ret G5 ?_
      simp only [wk6, Nat.reduceBEq, wk1, forall_eq, Nat.reduceAdd, reduceIte, Nat.reduceEqDiff, reduceCtorEq, opLen, Int.reduceLT, Int.reduceEq, opConvert, opIndexAddr, opLoad, Nat.reduceLT, undef, Nat.reduceLeDiff, Array.toList, wk4, wk5, wk0, fxC17LetterChecks, G5, G7, n57]
      obtain ⟨W, hW⟩ : ∃ W, W = outI n 15 := ⟨_, rfl⟩
      rw [← hW]
      obtain ⟨L2, hL2⟩ : ∃ L : Let, L = { A with to := n } := ⟨_, rfl⟩
      have ok2 : Ok L2 ∧ Ty L2 := by
        rw [hL2]
        exact ⟨⟨kA.1.ek, kA.1.em, kA.1.vm, kA.1.cp, kA.1.cs, kA.1.ae, kA.1.aq, kA.1.al⟩, ⟨kA.2.kd, kA.2.et, kA.2.en, kA.2.eb, kA.2.ct, kA.2.cn, kA.2.cb, kA.2.it, kA.2.nn, kA.2.ab⟩⟩
      have eW : lck L2 = W := by
        rw [hL2, hW]
        refine lck_out kk eE eV ⟨fun r => ?_, fun r => ?_⟩
        · obtain ⟨r1, r2, r3, r4, r5, r6⟩ := r
          have : 0 ≤ n ∧ n < 16 := r2; omega
        · exact ⟨h1, by show 0 ≤ n ∧ n < 16; omega, h3, h4, h5, h6⟩
      obtain ⟨M, hM⟩ : ∃ M, M = M0.set b7 (.cells (letC ({ A with to := n }) (.slice i1 A.E.args.length j1) (.slice i2 A.E.mem.length j2) (.slice i3 A.vm.length j3) (.slice i4 A.C.s.length j4) (.slice i5 A.A.s.length j5)) 51 true) := ⟨_, rfl⟩
      rw [← hM]
      have RM : LetR M L2 (.slice i1 A.E.args.length j1) (.slice i2 A.E.mem.length j2) (.slice i3 A.vm.length j3) (.slice i4 A.C.s.length j4) (.slice i5 A.A.s.length j5) := by rw [hM, hL2]; exact ⟨RA.ea.pz (Pz.set G7 _), RA.em.pz (Pz.set G7 _), RA.vm.pz (Pz.set G7 _), RA.ca.pz (Pz.set G7 _), RA.aa.pz (Pz.set G7 _)⟩
      have hb7M0 : b7 < M.next := by rw [hM]; exact hb7M0
      have G7 : M.get b7 = some (.cells (letC L2 (.slice i1 A.E.args.length j1) (.slice i2 A.E.mem.length j2) (.slice i3 A.vm.length j3) (.slice i4 A.C.s.length j4) (.slice i5 A.A.s.length j5)) 51 true) := by rw [hM, set_get, hL2]
      rw [hL2] at ok2 eW RM G7
      have hb7M : b7 < M.next := hb7M0
      refine lput_ret ⟨_, _, _, _, _, rfl, RM⟩ ok2.1 ok2.2 (fun hc M' x' => ?_) (fun hc M' r' x' y' z' g' => ?_)
      · rw [eW] at hc
        have G7' := (x'.2 b7 hb7M).trans G7
        simp only [wk6, Nat.reduceBEq, wk1, forall_eq, Nat.reduceAdd, reduceIte, Nat.reduceEqDiff, reduceCtorEq, opLen, Int.reduceLT, Int.reduceEq, opConvert, opIndexAddr, opLoad, Nat.reduceLT, undef, Nat.reduceLeDiff, Array.toList, wk4, wk5, wk0, fxC17LetterChecks, G7']
        refine lcheck_ret ⟨_, _, _, _, _, rfl, RM.pz x'.pz⟩ ok2.1 fun M'' x'' => ?_
        rw [eW]
        simp only [wk6, Nat.reduceBEq, wk1, forall_eq, Nat.reduceAdd, reduceIte, Nat.reduceEqDiff, reduceCtorEq, opLen, Int.reduceLT, Int.reduceEq, opConvert, opIndexAddr, opLoad, Nat.reduceLT, undef, Nat.reduceLeDiff, Array.toList, wk4, wk5, optV_some, guardV_true, guardV_false, condV_true, condV_false, wpc_skip, wpc_label, wpc_exit, wpc_ret, wpc_region, wpc_seq, wpc_cond, wpc_block, wpc_scope, wpc_loop, wpo_nil, wpo_cons, wps_open, put_get, put_none, keep_some, bin_add, bin_sub, bin_mul, bin_quo, bin_rem, bin_and, bin_or, bin_xor, bin_shl, bin_shr, bin_lss, bin_leq, bin_gtr, bin_geq, bin_eql, bin_neq, bin_seql, un_neg, un_xor, un_not, oneOf_one, fxC17LetterChecks, beqb, hc, hz]
      · rw [eW] at hc
        have G7' := (x'.2 b7 hb7M).trans G7
        simp only [wk6, Nat.reduceBEq, wk1, forall_eq, Nat.reduceAdd, reduceIte, Nat.reduceEqDiff, reduceCtorEq, opLen, Int.reduceLT, Int.reduceEq, opConvert, opIndexAddr, opLoad, Nat.reduceLT, undef, Nat.reduceLeDiff, Array.toList, wk4, wk5, wk0, fxC17LetterChecks, G7']
        refine lcheck_ret ⟨_, _, _, _, _, rfl, RM.pz x'.pz⟩ ok2.1 fun M'' x'' => ?_
        rw [eW]
        have hp : (0 : Int) < ((letB ({ A with to := n })).length : Int) := by have := letB_pos ({ A with to := n }); omega
        simp only [wk6, Nat.reduceBEq, wk1, forall_eq, Nat.reduceAdd, reduceIte, Nat.reduceEqDiff, reduceCtorEq, opLen, Int.reduceLT, Int.reduceEq, opConvert, opIndexAddr, opLoad, Nat.reduceLT, undef, Nat.reduceLeDiff, Array.toList, wk4, wk5, optV_some, guardV_true, guardV_false, condV_true, condV_false, wpc_skip, wpc_label, wpc_exit, wpc_ret, wpc_region, wpc_seq, wpc_cond, wpc_block, wpc_scope, wpc_loop, wpo_nil, wpo_cons, wps_open, put_get, put_none, keep_some, bin_add, bin_sub, bin_mul, bin_quo, bin_rem, bin_and, bin_or, bin_xor, bin_shl, bin_shr, bin_lss, bin_leq, bin_gtr, bin_geq, bin_eql, bin_neq, bin_seql, un_neg, un_xor, un_not, oneOf_one, fxC17LetterChecks, beqb, hc, hp]
    have d2 := decide_eq_false c2
    by_cases c3 : what.tmod 8 = 3
    · have d3 := decide_eq_true c3
      by_cases kc : A.kd < 6
      · have dk := decide_eq_true kc
        simp only [wk6, Nat.reduceBEq, wk1, forall_eq, Nat.reduceAdd, reduceIte, Nat.reduceEqDiff, reduceCtorEq, opLen, Int.reduceLT, Int.reduceEq, opConvert, opIndexAddr, opLoad, Nat.reduceLT, undef, Nat.reduceLeDiff, Array.toList, wk4, wk5, wk0, fxC17LetterChecks, d0, d1, d2, d3, G5, G7, dk, n57]
        refine out_ret (by rw [set_get_ne _ n57]; exact G5) ?_
        simp only [wk6, Nat.reduceBEq, wk1, forall_eq, Nat.reduceAdd, reduceIte, Nat.reduceEqDiff, reduceCtorEq, opLen, Int.reduceLT, Int.reduceEq, opConvert, opIndexAddr, opLoad, Nat.reduceLT, undef, Nat.reduceLeDiff, Array.toList, wk4, wk5, wk0, fxC17LetterChecks]
        obtain ⟨W, hW⟩ : ∃ W, W = outI n 4294967295 := ⟨_, rfl⟩
        rw [← hW]
        obtain ⟨L2, hL2⟩ : ∃ L : Let, L = { A with pl := n } := ⟨_, rfl⟩
        have ok2 : Ok L2 ∧ Ty L2 := by
          rw [hL2]
          exact ⟨⟨kA.1.ek, kA.1.em, kA.1.vm, kA.1.cp, kA.1.cs, kA.1.ae, kA.1.aq, kA.1.al⟩, ⟨kA.2.kd, kA.2.et, kA.2.en, kA.2.eb, kA.2.ct, kA.2.cn, kA.2.cb, kA.2.it, kA.2.nn, kA.2.ab⟩⟩
        have eW : lck L2 = W := by
          rw [hL2, hW]
          refine lck_out kk eE eV ⟨fun r => ?_, fun r => ?_⟩
          · obtain ⟨r1, r2, r3, r4, r5, r6⟩ := r
            have : 0 ≤ n ∧ n < 4294967296 := r3 (by show A.kd ≤ 5; omega); omega
          · exact ⟨h1, h2, fun _ => by show 0 ≤ n ∧ n < 4294967296; omega, h4, h5, h6⟩
        obtain ⟨M, hM⟩ : ∃ M, M = M0.set b7 (.cells (letC ({ A with pl := n }) (.slice i1 A.E.args.length j1) (.slice i2 A.E.mem.length j2) (.slice i3 A.vm.length j3) (.slice i4 A.C.s.length j4) (.slice i5 A.A.s.length j5)) 51 true) := ⟨_, rfl⟩
        rw [← hM]
        have RM : LetR M L2 (.slice i1 A.E.args.length j1) (.slice i2 A.E.mem.length j2) (.slice i3 A.vm.length j3) (.slice i4 A.C.s.length j4) (.slice i5 A.A.s.length j5) := by rw [hM, hL2]; exact ⟨RA.ea.pz (Pz.set G7 _), RA.em.pz (Pz.set G7 _), RA.vm.pz (Pz.set G7 _), RA.ca.pz (Pz.set G7 _), RA.aa.pz (Pz.set G7 _)⟩
        have hb7M0 : b7 < M.next := by rw [hM]; exact hb7M0
        have G7 : M.get b7 = some (.cells (letC L2 (.slice i1 A.E.args.length j1) (.slice i2 A.E.mem.length j2) (.slice i3 A.vm.length j3) (.slice i4 A.C.s.length j4) (.slice i5 A.A.s.length j5)) 51 true) := by rw [hM, set_get, hL2]
        rw [hL2] at ok2 eW RM G7
        have hb7M : b7 < M.next := hb7M0
        refine lput_ret ⟨_, _, _, _, _, rfl, RM⟩ ok2.1 ok2.2 (fun hc M' x' => ?_) (fun hc M' r' x' y' z' g' => ?_)
        · rw [eW] at hc
          have G7' := (x'.2 b7 hb7M).trans G7
          simp only [wk6, Nat.reduceBEq, wk1, forall_eq, Nat.reduceAdd, reduceIte, Nat.reduceEqDiff, reduceCtorEq, opLen, Int.reduceLT, Int.reduceEq, opConvert, opIndexAddr, opLoad, Nat.reduceLT, undef, Nat.reduceLeDiff, Array.toList, wk4, wk5, wk0, fxC17LetterChecks, G7']
          refine lcheck_ret ⟨_, _, _, _, _, rfl, RM.pz x'.pz⟩ ok2.1 fun M'' x'' => ?_
          rw [eW]
          simp only [wk6, Nat.reduceBEq, wk1, forall_eq, Nat.reduceAdd, reduceIte, Nat.reduceEqDiff, reduceCtorEq, opLen, Int.reduceLT, Int.reduceEq, opConvert, opIndexAddr, opLoad, Nat.reduceLT, undef, Nat.reduceLeDiff, Array.toList, wk4, wk5, optV_some, guardV_true, guardV_false, condV_true, condV_false, wpc_skip, wpc_label, wpc_exit, wpc_ret, wpc_region, wpc_seq, wpc_cond, wpc_block, wpc_scope, wpc_loop, wpo_nil, wpo_cons, wps_open, put_get, put_none, keep_some, bin_add, bin_sub, bin_mul, bin_quo, bin_rem, bin_and, bin_or, bin_xor, bin_shl, bin_shr, bin_lss, bin_leq, bin_gtr, bin_geq, bin_eql, bin_neq, bin_seql, un_neg, un_xor, un_not, oneOf_one, fxC17LetterChecks, beqb, hc, hz]
        · rw [eW] at hc
          have G7' := (x'.2 b7 hb7M).trans G7
          simp only [wk6, Nat.reduceBEq, wk1, forall_eq, Nat.reduceAdd, reduceIte, Nat.reduceEqDiff, reduceCtorEq, opLen, Int.reduceLT, Int.reduceEq, opConvert, opIndexAddr, opLoad, Nat.reduceLT, undef, Nat.reduceLeDiff, Array.toList, wk4, wk5, wk0, fxC17LetterChecks, G7']
          refine lcheck_ret ⟨_, _, _, _, _, rfl, RM.pz x'.pz⟩ ok2.1 fun M'' x'' => ?_
          rw [eW]
          have hp : (0 : Int) < ((letB ({ A with pl := n })).length : Int) := by have := letB_pos ({ A with pl := n }); omega
          simp only [wk6, Nat.reduceBEq, wk1, forall_eq, Nat.reduceAdd, reduceIte, Nat.reduceEqDiff, reduceCtorEq, opLen, Int.reduceLT, Int.reduceEq, opConvert, opIndexAddr, opLoad, Nat.reduceLT, undef, Nat.reduceLeDiff, Array.toList, wk4, wk5, optV_some, guardV_true, guardV_false, condV_true, condV_false, wpc_skip, wpc_label, wpc_exit, wpc_ret, wpc_region, wpc_seq, wpc_cond, wpc_block, wpc_scope, wpc_loop, wpo_nil, wpo_cons, wps_open, put_get, put_none, keep_some, bin_add, bin_sub, bin_mul, bin_quo, bin_rem, bin_and, bin_or, bin_xor, bin_shl, bin_shr, bin_lss, bin_leq, bin_gtr, bin_geq, bin_eql, bin_neq, bin_seql, un_neg, un_xor, un_not, oneOf_one, fxC17LetterChecks, beqb, hc, hp]
      · have dk := decide_eq_false kc
        simp only [wk6, Nat.reduceBEq, wk1, forall_eq, Nat.reduceAdd, reduceIte, Nat.reduceEqDiff, reduceCtorEq, opLen, Int.reduceLT, Int.reduceEq, opConvert, opIndexAddr, opLoad, Nat.reduceLT, undef, Nat.reduceLeDiff, Array.toList, wk4, wk5, wk0, fxC17LetterChecks, d0, d1, d2, d3, G5, G7, dk, n57]
        obtain ⟨L2, hL2⟩ : ∃ L : Let, L = { A with pl := n } := ⟨_, rfl⟩
        have ok2 : Ok L2 ∧ Ty L2 := by
          rw [hL2]
          exact ⟨⟨kA.1.ek, kA.1.em, kA.1.vm, kA.1.cp, kA.1.cs, kA.1.ae, kA.1.aq, kA.1.al⟩, ⟨kA.2.kd, kA.2.et, kA.2.en, kA.2.eb, kA.2.ct, kA.2.cn, kA.2.cb, kA.2.it, kA.2.nn, kA.2.ab⟩⟩
        have eW : lck L2 = 0 := by
          rw [hL2]
          exact (lck_rg (L := { A with pl := n }) kk eE eV).1 ⟨h1, h2, fun q => by exact absurd (show A.kd ≤ 5 from q) (by omega), h4, h5, h6⟩
        obtain ⟨M, hM⟩ : ∃ M, M = M0.set b7 (.cells (letC ({ A with pl := n }) (.slice i1 A.E.args.length j1) (.slice i2 A.E.mem.length j2) (.slice i3 A.vm.length j3) (.slice i4 A.C.s.length j4) (.slice i5 A.A.s.length j5)) 51 true) := ⟨_, rfl⟩
        rw [← hM]
        have RM : LetR M L2 (.slice i1 A.E.args.length j1) (.slice i2 A.E.mem.length j2) (.slice i3 A.vm.length j3) (.slice i4 A.C.s.length j4) (.slice i5 A.A.s.length j5) := by rw [hM, hL2]; exact ⟨RA.ea.pz (Pz.set G7 _), RA.em.pz (Pz.set G7 _), RA.vm.pz (Pz.set G7 _), RA.ca.pz (Pz.set G7 _), RA.aa.pz (Pz.set G7 _)⟩
        have hb7M0 : b7 < M.next := by rw [hM]; exact hb7M0
        have G7 : M.get b7 = some (.cells (letC L2 (.slice i1 A.E.args.length j1) (.slice i2 A.E.mem.length j2) (.slice i3 A.vm.length j3) (.slice i4 A.C.s.length j4) (.slice i5 A.A.s.length j5)) 51 true) := by rw [hM, set_get, hL2]
        rw [hL2] at ok2 eW RM G7
        have hb7M : b7 < M.next := hb7M0
        refine lput_ret ⟨_, _, _, _, _, rfl, RM⟩ ok2.1 ok2.2 (fun hc M' x' => ?_) (fun hc M' r' x' y' z' g' => ?_)
        · exact absurd eW hc
        · have G7' := (x'.2 b7 hb7M).trans G7
          simp only [wk6, Nat.reduceBEq, wk1, forall_eq, Nat.reduceAdd, reduceIte, Nat.reduceEqDiff, reduceCtorEq, opLen, Int.reduceLT, Int.reduceEq, opConvert, opIndexAddr, opLoad, Nat.reduceLT, undef, Nat.reduceLeDiff, Array.toList, wk4, wk5, wk0, fxC17LetterChecks, G7']
          refine lcheck_ret ⟨_, _, _, _, _, rfl, RM.pz x'.pz⟩ ok2.1 fun M'' x'' => ?_
          rw [eW]
          have hp : (0 : Int) < ((letB ({ A with pl := n })).length : Int) := by have := letB_pos ({ A with pl := n }); omega
          simp only [wk6, Nat.reduceBEq, wk1, forall_eq, Nat.reduceAdd, reduceIte, Nat.reduceEqDiff, reduceCtorEq, opLen, Int.reduceLT, Int.reduceEq, opConvert, opIndexAddr, opLoad, Nat.reduceLT, undef, Nat.reduceLeDiff, Array.toList, wk4, wk5, optV_some, guardV_true, guardV_false, condV_true, condV_false, wpc_skip, wpc_label, wpc_exit, wpc_ret, wpc_region, wpc_seq, wpc_cond, wpc_block, wpc_scope, wpc_loop, wpo_nil, wpo_cons, wps_open, put_get, put_none, keep_some, bin_add, bin_sub, bin_mul, bin_quo, bin_rem, bin_and, bin_or, bin_xor, bin_shl, bin_shr, bin_lss, bin_leq, bin_gtr, bin_geq, bin_eql, bin_neq, bin_seql, un_neg, un_xor, un_not, oneOf_one, fxC17LetterChecks, beqb, hp]
    have d3 := decide_eq_false c3
    by_cases c4 : what.tmod 8 = 4
    · have d4 := decide_eq_true c4
      by_cases kc : A.kd < 4
      · have dk := decide_eq_true kc
        simp only [wk6, Nat.reduceBEq, wk1, forall_eq, Nat.reduceAdd, reduceIte, Nat.reduceEqDiff, reduceCtorEq, opLen, Int.reduceLT, Int.reduceEq, opConvert, opIndexAddr, opLoad, Nat.reduceLT, undef, Nat.reduceLeDiff, Array.toList, wk4, wk5, wk0, fxC17LetterChecks, d0, d1, d2, d3, d4, G5, G7, dk, n57]
        refine out_ret (by rw [set_get_ne _ n57]; exact G5) ?_
        simp only [wk6, Nat.reduceBEq, wk1, forall_eq, Nat.reduceAdd, reduceIte, Nat.reduceEqDiff, reduceCtorEq, opLen, Int.reduceLT, Int.reduceEq, opConvert, opIndexAddr, opLoad, Nat.reduceLT, undef, Nat.reduceLeDiff, Array.toList, wk4, wk5, wk0, fxC17LetterChecks]
        obtain ⟨W, hW⟩ : ∃ W, W = outI n 4294967295 := ⟨_, rfl⟩
        rw [← hW]
        obtain ⟨L2, hL2⟩ : ∃ L : Let, L = { A with br := n } := ⟨_, rfl⟩
        have ok2 : Ok L2 ∧ Ty L2 := by
          rw [hL2]
          exact ⟨⟨kA.1.ek, kA.1.em, kA.1.vm, kA.1.cp, kA.1.cs, kA.1.ae, kA.1.aq, kA.1.al⟩, ⟨kA.2.kd, kA.2.et, kA.2.en, kA.2.eb, kA.2.ct, kA.2.cn, kA.2.cb, kA.2.it, kA.2.nn, kA.2.ab⟩⟩
        have eW : lck L2 = W := by
          rw [hL2, hW]
          refine lck_out kk eE eV ⟨fun r => ?_, fun r => ?_⟩
          · obtain ⟨r1, r2, r3, r4, r5, r6⟩ := r
            have : 0 ≤ n ∧ n < 4294967296 := (r4 kc).1; omega
          · exact ⟨h1, h2, h3, fun _ => ⟨by show 0 ≤ n ∧ n < 4294967296; omega, (h4 kc).2⟩, h5, h6⟩
        obtain ⟨M, hM⟩ : ∃ M, M = M0.set b7 (.cells (letC ({ A with br := n }) (.slice i1 A.E.args.length j1) (.slice i2 A.E.mem.length j2) (.slice i3 A.vm.length j3) (.slice i4 A.C.s.length j4) (.slice i5 A.A.s.length j5)) 51 true) := ⟨_, rfl⟩
        rw [← hM]
        have RM : LetR M L2 (.slice i1 A.E.args.length j1) (.slice i2 A.E.mem.length j2) (.slice i3 A.vm.length j3) (.slice i4 A.C.s.length j4) (.slice i5 A.A.s.length j5) := by rw [hM, hL2]; exact ⟨RA.ea.pz (Pz.set G7 _), RA.em.pz (Pz.set G7 _), RA.vm.pz (Pz.set G7 _), RA.ca.pz (Pz.set G7 _), RA.aa.pz (Pz.set G7 _)⟩
        have hb7M0 : b7 < M.next := by rw [hM]; exact hb7M0
        have G7 : M.get b7 = some (.cells (letC L2 (.slice i1 A.E.args.length j1) (.slice i2 A.E.mem.length j2) (.slice i3 A.vm.length j3) (.slice i4 A.C.s.length j4) (.slice i5 A.A.s.length j5)) 51 true) := by rw [hM, set_get, hL2]
        rw [hL2] at ok2 eW RM G7
        have hb7M : b7 < M.next := hb7M0
        refine lput_ret ⟨_, _, _, _, _, rfl, RM⟩ ok2.1 ok2.2 (fun hc M' x' => ?_) (fun hc M' r' x' y' z' g' => ?_)
        · rw [eW] at hc
          have G7' := (x'.2 b7 hb7M).trans G7
          simp only [wk6, Nat.reduceBEq, wk1, forall_eq, Nat.reduceAdd, reduceIte, Nat.reduceEqDiff, reduceCtorEq, opLen, Int.reduceLT, Int.reduceEq, opConvert, opIndexAddr, opLoad, Nat.reduceLT, undef, Nat.reduceLeDiff, Array.toList, wk4, wk5, wk0, fxC17LetterChecks, G7']
          refine lcheck_ret ⟨_, _, _, _, _, rfl, RM.pz x'.pz⟩ ok2.1 fun M'' x'' => ?_
          rw [eW]
          simp only [wk6, Nat.reduceBEq, wk1, forall_eq, Nat.reduceAdd, reduceIte, Nat.reduceEqDiff, reduceCtorEq, opLen, Int.reduceLT, Int.reduceEq, opConvert, opIndexAddr, opLoad, Nat.reduceLT, undef, Nat.reduceLeDiff, Array.toList, wk4, wk5, optV_some, guardV_true, guardV_false, condV_true, condV_false, wpc_skip, wpc_label, wpc_exit, wpc_ret, wpc_region, wpc_seq, wpc_cond, wpc_block, wpc_scope, wpc_loop, wpo_nil, wpo_cons, wps_open, put_get, put_none, keep_some, bin_add, bin_sub, bin_mul, bin_quo, bin_rem, bin_and, bin_or, bin_xor, bin_shl, bin_shr, bin_lss, bin_leq, bin_gtr, bin_geq, bin_eql, bin_neq, bin_seql, un_neg, un_xor, un_not, oneOf_one, fxC17LetterChecks, beqb, hc, hz]
        · rw [eW] at hc
          have G7' := (x'.2 b7 hb7M).trans G7
          simp only [wk6, Nat.reduceBEq, wk1, forall_eq, Nat.reduceAdd, reduceIte, Nat.reduceEqDiff, reduceCtorEq, opLen, Int.reduceLT, Int.reduceEq, opConvert, opIndexAddr, opLoad, Nat.reduceLT, undef, Nat.reduceLeDiff, Array.toList, wk4, wk5, wk0, fxC17LetterChecks, G7']
          refine lcheck_ret ⟨_, _, _, _, _, rfl, RM.pz x'.pz⟩ ok2.1 fun M'' x'' => ?_
          rw [eW]
          have hp : (0 : Int) < ((letB ({ A with br := n })).length : Int) := by have := letB_pos ({ A with br := n }); omega
          simp only [wk6, Nat.reduceBEq, wk1, forall_eq, Nat.reduceAdd, reduceIte, Nat.reduceEqDiff, reduceCtorEq, opLen, Int.reduceLT, Int.reduceEq, opConvert, opIndexAddr, opLoad, Nat.reduceLT, undef, Nat.reduceLeDiff, Array.toList, wk4, wk5, optV_some, guardV_true, guardV_false, condV_true, condV_false, wpc_skip, wpc_label, wpc_exit, wpc_ret, wpc_region, wpc_seq, wpc_cond, wpc_block, wpc_scope, wpc_loop, wpo_nil, wpo_cons, wps_open, put_get, put_none, keep_some, bin_add, bin_sub, bin_mul, bin_quo, bin_rem, bin_and, bin_or, bin_xor, bin_shl, bin_shr, bin_lss, bin_leq, bin_gtr, bin_geq, bin_eql, bin_neq, bin_seql, un_neg, un_xor, un_not, oneOf_one, fxC17LetterChecks, beqb, hc, hp]
      · have dk := decide_eq_false kc
        simp only [wk6, Nat.reduceBEq, wk1, forall_eq, Nat.reduceAdd, reduceIte, Nat.reduceEqDiff, reduceCtorEq, opLen, Int.reduceLT, Int.reduceEq, opConvert, opIndexAddr, opLoad, Nat.reduceLT, undef, Nat.reduceLeDiff, Array.toList, wk4, wk5, wk0, fxC17LetterChecks, d0, d1, d2, d3, d4, G5, G7, dk, n57]
        obtain ⟨L2, hL2⟩ : ∃ L : Let, L = { A with br := n } := ⟨_, rfl⟩
        have ok2 : Ok L2 ∧ Ty L2 := by
          rw [hL2]
          exact ⟨⟨kA.1.ek, kA.1.em, kA.1.vm, kA.1.cp, kA.1.cs, kA.1.ae, kA.1.aq, kA.1.al⟩, ⟨kA.2.kd, kA.2.et, kA.2.en, kA.2.eb, kA.2.ct, kA.2.cn, kA.2.cb, kA.2.it, kA.2.nn, kA.2.ab⟩⟩
        have eW : lck L2 = 0 := by
          rw [hL2]
          exact (lck_rg (L := { A with br := n }) kk eE eV).1 ⟨h1, h2, h3, fun q => absurd q kc, h5, h6⟩
        obtain ⟨M, hM⟩ : ∃ M, M = M0.set b7 (.cells (letC ({ A with br := n }) (.slice i1 A.E.args.length j1) (.slice i2 A.E.mem.length j2) (.slice i3 A.vm.length j3) (.slice i4 A.C.s.length j4) (.slice i5 A.A.s.length j5)) 51 true) := ⟨_, rfl⟩
        rw [← hM]
        have RM : LetR M L2 (.slice i1 A.E.args.length j1) (.slice i2 A.E.mem.length j2) (.slice i3 A.vm.length j3) (.slice i4 A.C.s.length j4) (.slice i5 A.A.s.length j5) := by rw [hM, hL2]; exact ⟨RA.ea.pz (Pz.set G7 _), RA.em.pz (Pz.set G7 _), RA.vm.pz (Pz.set G7 _), RA.ca.pz (Pz.set G7 _), RA.aa.pz (Pz.set G7 _)⟩
        have hb7M0 : b7 < M.next := by rw [hM]; exact hb7M0
        have G7 : M.get b7 = some (.cells (letC L2 (.slice i1 A.E.args.length j1) (.slice i2 A.E.mem.length j2) (.slice i3 A.vm.length j3) (.slice i4 A.C.s.length j4) (.slice i5 A.A.s.length j5)) 51 true) := by rw [hM, set_get, hL2]
        rw [hL2] at ok2 eW RM G7
        have hb7M : b7 < M.next := hb7M0
        refine lput_ret ⟨_, _, _, _, _, rfl, RM⟩ ok2.1 ok2.2 (fun hc M' x' => ?_) (fun hc M' r' x' y' z' g' => ?_)
        · exact absurd eW hc
        · have G7' := (x'.2 b7 hb7M).trans G7
          simp only [wk6, Nat.reduceBEq, wk1, forall_eq, Nat.reduceAdd, reduceIte, Nat.reduceEqDiff, reduceCtorEq, opLen, Int.reduceLT, Int.reduceEq, opConvert, opIndexAddr, opLoad, Nat.reduceLT, undef, Nat.reduceLeDiff, Array.toList, wk4, wk5, wk0, fxC17LetterChecks, G7']
          refine lcheck_ret ⟨_, _, _, _, _, rfl, RM.pz x'.pz⟩ ok2.1 fun M'' x'' => ?_
          rw [eW]
          have hp : (0 : Int) < ((letB ({ A with br := n })).length : Int) := by have := letB_pos ({ A with br := n }); omega
          simp only [wk6, Nat.reduceBEq, wk1, forall_eq, Nat.reduceAdd, reduceIte, Nat.reduceEqDiff, reduceCtorEq, opLen, Int.reduceLT, Int.reduceEq, opConvert, opIndexAddr, opLoad, Nat.reduceLT, undef, Nat.reduceLeDiff, Array.toList, wk4, wk5, optV_some, guardV_true, guardV_false, condV_true, condV_false, wpc_skip, wpc_label, wpc_exit, wpc_ret, wpc_region, wpc_seq, wpc_cond, wpc_block, wpc_scope, wpc_loop, wpo_nil, wpo_cons, wps_open, put_get, put_none, keep_some, bin_add, bin_sub, bin_mul, bin_quo, bin_rem, bin_and, bin_or, bin_xor, bin_shl, bin_shr, bin_lss, bin_leq, bin_gtr, bin_geq, bin_eql, bin_neq, bin_seql, un_neg, un_xor, un_not, oneOf_one, fxC17LetterChecks, beqb, hp]
    have d4 := decide_eq_false c4
    by_cases c5 : what.tmod 8 = 5
    · have d5 := decide_eq_true c5
      by_cases kc : A.kd < 4
      · have dk := decide_eq_true kc
        simp only [wk6, Nat.reduceBEq, wk1, forall_eq, Nat.reduceAdd, reduceIte, Nat.reduceEqDiff, reduceCtorEq, opLen, Int.reduceLT, Int.reduceEq, opConvert, opIndexAddr, opLoad, Nat.reduceLT, undef, Nat.reduceLeDiff, Array.toList, wk4, wk5, wk0, fxC17LetterChecks, d0, d1, d2, d3, d4, d5, G5, G7, dk, n57]
        refine out_ret (by rw [set_get_ne _ n57]; exact G5) ?_
        simp only [wk6, Nat.reduceBEq, wk1, forall_eq, Nat.reduceAdd, reduceIte, Nat.reduceEqDiff, reduceCtorEq, opLen, Int.reduceLT, Int.reduceEq, opConvert, opIndexAddr, opLoad, Nat.reduceLT, undef, Nat.reduceLeDiff, Array.toList, wk4, wk5, wk0, fxC17LetterChecks]
        obtain ⟨W, hW⟩ : ∃ W, W = outI n 15 := ⟨_, rfl⟩
        rw [← hW]
        obtain ⟨L2, hL2⟩ : ∃ L : Let, L = { A with bn := n } := ⟨_, rfl⟩
        have ok2 : Ok L2 ∧ Ty L2 := by
          rw [hL2]
          exact ⟨⟨kA.1.ek, kA.1.em, kA.1.vm, kA.1.cp, kA.1.cs, kA.1.ae, kA.1.aq, kA.1.al⟩, ⟨kA.2.kd, kA.2.et, kA.2.en, kA.2.eb, kA.2.ct, kA.2.cn, kA.2.cb, kA.2.it, kA.2.nn, kA.2.ab⟩⟩
        have eW : lck L2 = W := by
          rw [hL2, hW]
          refine lck_out kk eE eV ⟨fun r => ?_, fun r => ?_⟩
          · obtain ⟨r1, r2, r3, r4, r5, r6⟩ := r
            have : 0 ≤ n ∧ n < 16 := (r4 kc).2; omega
          · exact ⟨h1, h2, h3, fun _ => ⟨(h4 kc).1, by show 0 ≤ n ∧ n < 16; omega⟩, h5, h6⟩
        obtain ⟨M, hM⟩ : ∃ M, M = M0.set b7 (.cells (letC ({ A with bn := n }) (.slice i1 A.E.args.length j1) (.slice i2 A.E.mem.length j2) (.slice i3 A.vm.length j3) (.slice i4 A.C.s.length j4) (.slice i5 A.A.s.length j5)) 51 true) := ⟨_, rfl⟩
        rw [← hM]
        have RM : LetR M L2 (.slice i1 A.E.args.length j1) (.slice i2 A.E.mem.length j2) (.slice i3 A.vm.length j3) (.slice i4 A.C.s.length j4) (.slice i5 A.A.s.length j5) := by rw [hM, hL2]; exact ⟨RA.ea.pz (Pz.set G7 _), RA.em.pz (Pz.set G7 _), RA.vm.pz (Pz.set G7 _), RA.ca.pz (Pz.set G7 _), RA.aa.pz (Pz.set G7 _)⟩
        have hb7M0 : b7 < M.next := by rw [hM]; exact hb7M0
        have G7 : M.get b7 = some (.cells (letC L2 (.slice i1 A.E.args.length j1) (.slice i2 A.E.mem.length j2) (.slice i3 A.vm.length j3) (.slice i4 A.C.s.length j4) (.slice i5 A.A.s.length j5)) 51 true) := by rw [hM, set_get, hL2]
        rw [hL2] at ok2 eW RM G7
        have hb7M : b7 < M.next := hb7M0
        refine lput_ret ⟨_, _, _, _, _, rfl, RM⟩ ok2.1 ok2.2 (fun hc M' x' => ?_) (fun hc M' r' x' y' z' g' => ?_)
        · rw [eW] at hc
          have G7' := (x'.2 b7 hb7M).trans G7
          simp only [wk6, Nat.reduceBEq, wk1, forall_eq, Nat.reduceAdd, reduceIte, Nat.reduceEqDiff, reduceCtorEq, opLen, Int.reduceLT, Int.reduceEq, opConvert, opIndexAddr, opLoad, Nat.reduceLT, undef, Nat.reduceLeDiff, Array.toList, wk4, wk5, wk0, fxC17LetterChecks, G7']
          refine lcheck_ret ⟨_, _, _, _, _, rfl, RM.pz x'.pz⟩ ok2.1 fun M'' x'' => ?_
          rw [eW]
          simp only [wk6, Nat.reduceBEq, wk1, forall_eq, Nat.reduceAdd, reduceIte, Nat.reduceEqDiff, reduceCtorEq, opLen, Int.reduceLT, Int.reduceEq, opConvert, opIndexAddr, opLoad, Nat.reduceLT, undef, Nat.reduceLeDiff, Array.toList, wk4, wk5, optV_some, guardV_true, guardV_false, condV_true, condV_false, wpc_skip, wpc_label, wpc_exit, wpc_ret, wpc_region, wpc_seq, wpc_cond, wpc_block, wpc_scope, wpc_loop, wpo_nil, wpo_cons, wps_open, put_get, put_none, keep_some, bin_add, bin_sub, bin_mul, bin_quo, bin_rem, bin_and, bin_or, bin_xor, bin_shl, bin_shr, bin_lss, bin_leq, bin_gtr, bin_geq, bin_eql, bin_neq, bin_seql, un_neg, un_xor, un_not, oneOf_one, fxC17LetterChecks, beqb, hc, hz]
        · rw [eW] at hc
          have G7' := (x'.2 b7 hb7M).trans G7
          simp only [wk6, Nat.reduceBEq, wk1, forall_eq, Nat.reduceAdd, reduceIte, Nat.reduceEqDiff, reduceCtorEq, opLen, Int.reduceLT, Int.reduceEq, opConvert, opIndexAddr, opLoad, Nat.reduceLT, undef, Nat.reduceLeDiff, Array.toList, wk4, wk5, wk0, fxC17LetterChecks, G7']
          refine lcheck_ret ⟨_, _, _, _, _, rfl, RM.pz x'.pz⟩ ok2.1 fun M'' x'' => ?_
          rw [eW]
          have hp : (0 : Int) < ((letB ({ A with bn := n })).length : Int) := by have := letB_pos ({ A with bn := n }); omega
          simp only [wk6, Nat.reduceBEq, wk1, forall_eq, Nat.reduceAdd, reduceIte, Nat.reduceEqDiff, reduceCtorEq, opLen, Int.reduceLT, Int.reduceEq, opConvert, opIndexAddr, opLoad, Nat.reduceLT, undef, Nat.reduceLeDiff, Array.toList, wk4, wk5, optV_some, guardV_true, guardV_false, condV_true, condV_false, wpc_skip, wpc_label, wpc_exit, wpc_ret, wpc_region, wpc_seq, wpc_cond, wpc_block, wpc_scope, wpc_loop, wpo_nil, wpo_cons, wps_open, put_get, put_none, keep_some, bin_add, bin_sub, bin_mul, bin_quo, bin_rem, bin_and, bin_or, bin_xor, bin_shl, bin_shr, bin_lss, bin_leq, bin_gtr, bin_geq, bin_eql, bin_neq, bin_seql, un_neg, un_xor, un_not, oneOf_one, fxC17LetterChecks, beqb, hc, hp]
      · have dk := decide_eq_false kc
        simp only [wk6, Nat.reduceBEq, wk1, forall_eq, Nat.reduceAdd, reduceIte, Nat.reduceEqDiff, reduceCtorEq, opLen, Int.reduceLT, Int.reduceEq, opConvert, opIndexAddr, opLoad, Nat.reduceLT, undef, Nat.reduceLeDiff, Array.toList, wk4, wk5, wk0, fxC17LetterChecks, d0, d1, d2, d3, d4, d5, G5, G7, dk, n57]
        obtain ⟨L2, hL2⟩ : ∃ L : Let, L = { A with bn := n } := ⟨_, rfl⟩
        have ok2 : Ok L2 ∧ Ty L2 := by
          rw [hL2]
          exact ⟨⟨kA.1.ek, kA.1.em, kA.1.vm, kA.1.cp, kA.1.cs, kA.1.ae, kA.1.aq, kA.1.al⟩, ⟨kA.2.kd, kA.2.et, kA.2.en, kA.2.eb, kA.2.ct, kA.2.cn, kA.2.cb, kA.2.it, kA.2.nn, kA.2.ab⟩⟩
        have eW : lck L2 = 0 := by
          rw [hL2]
          exact (lck_rg (L := { A with bn := n }) kk eE eV).1 ⟨h1, h2, h3, fun q => absurd q kc, h5, h6⟩
        obtain ⟨M, hM⟩ : ∃ M, M = M0.set b7 (.cells (letC ({ A with bn := n }) (.slice i1 A.E.args.length j1) (.slice i2 A.E.mem.length j2) (.slice i3 A.vm.length j3) (.slice i4 A.C.s.length j4) (.slice i5 A.A.s.length j5)) 51 true) := ⟨_, rfl⟩
        rw [← hM]
        have RM : LetR M L2 (.slice i1 A.E.args.length j1) (.slice i2 A.E.mem.length j2) (.slice i3 A.vm.length j3) (.slice i4 A.C.s.length j4) (.slice i5 A.A.s.length j5) := by rw [hM, hL2]; exact ⟨RA.ea.pz (Pz.set G7 _), RA.em.pz (Pz.set G7 _), RA.vm.pz (Pz.set G7 _), RA.ca.pz (Pz.set G7 _), RA.aa.pz (Pz.set G7 _)⟩
        have hb7M0 : b7 < M.next := by rw [hM]; exact hb7M0
        have G7 : M.get b7 = some (.cells (letC L2 (.slice i1 A.E.args.length j1) (.slice i2 A.E.mem.length j2) (.slice i3 A.vm.length j3) (.slice i4 A.C.s.length j4) (.slice i5 A.A.s.length j5)) 51 true) := by rw [hM, set_get, hL2]
        rw [hL2] at ok2 eW RM G7
        have hb7M : b7 < M.next := hb7M0
        refine lput_ret ⟨_, _, _, _, _, rfl, RM⟩ ok2.1 ok2.2 (fun hc M' x' => ?_) (fun hc M' r' x' y' z' g' => ?_)
        · exact absurd eW hc
        · have G7' := (x'.2 b7 hb7M).trans G7
          simp only [wk6, Nat.reduceBEq, wk1, forall_eq, Nat.reduceAdd, reduceIte, Nat.reduceEqDiff, reduceCtorEq, opLen, Int.reduceLT, Int.reduceEq, opConvert, opIndexAddr, opLoad, Nat.reduceLT, undef, Nat.reduceLeDiff, Array.toList, wk4, wk5, wk0, fxC17LetterChecks, G7']
          refine lcheck_ret ⟨_, _, _, _, _, rfl, RM.pz x'.pz⟩ ok2.1 fun M'' x'' => ?_
          rw [eW]
          have hp : (0 : Int) < ((letB ({ A with bn := n })).length : Int) := by have := letB_pos ({ A with bn := n }); omega
          simp only [wk6, Nat.reduceBEq, wk1, forall_eq, Nat.reduceAdd, reduceIte, Nat.reduceEqDiff, reduceCtorEq, opLen, Int.reduceLT, Int.reduceEq, opConvert, opIndexAddr, opLoad, Nat.reduceLT, undef, Nat.reduceLeDiff, Array.toList, wk4, wk5, optV_some, guardV_true, guardV_false, condV_true, condV_false, wpc_skip, wpc_label, wpc_exit, wpc_ret, wpc_region, wpc_seq, wpc_cond, wpc_block, wpc_scope, wpc_loop, wpo_nil, wpo_cons, wps_open, put_get, put_none, keep_some, bin_add, bin_sub, bin_mul, bin_quo, bin_rem, bin_and, bin_or, bin_xor, bin_shl, bin_shr, bin_lss, bin_leq, bin_gtr, bin_geq, bin_eql, bin_neq, bin_seql, un_neg, un_xor, un_not, oneOf_one, fxC17LetterChecks, beqb, hp]
    have d5 := decide_eq_false c5
    by_cases c6 : what.tmod 8 = 6
    · have d6 := decide_eq_true c6
      by_cases kc : A.kd = 1
      · cases hs : A.sm with
        | true =>
          have dk := decide_eq_true kc
          simp only [wk6, Nat.reduceBEq, wk1, forall_eq, Nat.reduceAdd, reduceIte, Nat.reduceEqDiff, reduceCtorEq, opLen, Int.reduceLT, Int.reduceEq, opConvert, opIndexAddr, opLoad, Nat.reduceLT, undef, Nat.reduceLeDiff, Array.toList, wk4, wk5, wk0, fxC17LetterChecks, d0, d1, d2, d3, d4, d5, d6, G5, G7, dk, hs, n57]
          refine out_ret (by rw [set_get_ne _ n57]; exact G5) ?_
          simp only [wk6, Nat.reduceBEq, wk1, forall_eq, Nat.reduceAdd, reduceIte, Nat.reduceEqDiff, reduceCtorEq, opLen, Int.reduceLT, Int.reduceEq, opConvert, opIndexAddr, opLoad, Nat.reduceLT, undef, Nat.reduceLeDiff, Array.toList, wk4, wk5, wk0, fxC17LetterChecks]
          obtain ⟨W, hW⟩ : ∃ W, W = outI n 15 := ⟨_, rfl⟩
          rw [← hW]
          obtain ⟨L2, hL2⟩ : ∃ L : Let, L = { A with wn := n, sm := true } := ⟨_, rfl⟩
          have ok2 : Ok L2 ∧ Ty L2 := by
            rw [hL2]
            exact ⟨⟨kA.1.ek, kA.1.em, kA.1.vm, kA.1.cp, kA.1.cs, kA.1.ae, kA.1.aq, kA.1.al⟩, ⟨kA.2.kd, kA.2.et, kA.2.en, kA.2.eb, kA.2.ct, kA.2.cn, kA.2.cb, kA.2.it, kA.2.nn, kA.2.ab⟩⟩
          have eW : lck L2 = W := by
            rw [hL2, hW]
            refine lck_out kk eE eV ⟨fun r => ?_, fun r => ?_⟩
            · obtain ⟨r1, r2, r3, r4, r5, r6⟩ := r
              have : 0 ≤ n ∧ n < 16 := (r5 kc rfl).2; omega
            · exact ⟨h1, h2, h3, h4, fun _ _ => ⟨(h5 kc hs).1, by show 0 ≤ n ∧ n < 16; omega⟩, h6⟩
          obtain ⟨M, hM⟩ : ∃ M, M = M0.set b7 (.cells (letC ({ A with wn := n, sm := true }) (.slice i1 A.E.args.length j1) (.slice i2 A.E.mem.length j2) (.slice i3 A.vm.length j3) (.slice i4 A.C.s.length j4) (.slice i5 A.A.s.length j5)) 51 true) := ⟨_, rfl⟩
          rw [← hM]
          have RM : LetR M L2 (.slice i1 A.E.args.length j1) (.slice i2 A.E.mem.length j2) (.slice i3 A.vm.length j3) (.slice i4 A.C.s.length j4) (.slice i5 A.A.s.length j5) := by rw [hM, hL2]; exact ⟨RA.ea.pz (Pz.set G7 _), RA.em.pz (Pz.set G7 _), RA.vm.pz (Pz.set G7 _), RA.ca.pz (Pz.set G7 _), RA.aa.pz (Pz.set G7 _)⟩
          have hb7M0 : b7 < M.next := by rw [hM]; exact hb7M0
          have G7 : M.get b7 = some (.cells (letC L2 (.slice i1 A.E.args.length j1) (.slice i2 A.E.mem.length j2) (.slice i3 A.vm.length j3) (.slice i4 A.C.s.length j4) (.slice i5 A.A.s.length j5)) 51 true) := by rw [hM, set_get, hL2]
          rw [hL2] at ok2 eW RM G7
          have hb7M : b7 < M.next := hb7M0
          refine lput_ret ⟨_, _, _, _, _, rfl, RM⟩ ok2.1 ok2.2 (fun hc M' x' => ?_) (fun hc M' r' x' y' z' g' => ?_)
          · rw [eW] at hc
            have G7' := (x'.2 b7 hb7M).trans G7
            simp only [wk6, Nat.reduceBEq, wk1, forall_eq, Nat.reduceAdd, reduceIte, Nat.reduceEqDiff, reduceCtorEq, opLen, Int.reduceLT, Int.reduceEq, opConvert, opIndexAddr, opLoad, Nat.reduceLT, undef, Nat.reduceLeDiff, Array.toList, wk4, wk5, wk0, fxC17LetterChecks, G7']
            refine lcheck_ret ⟨_, _, _, _, _, rfl, RM.pz x'.pz⟩ ok2.1 fun M'' x'' => ?_
            rw [eW]
            simp only [wk6, Nat.reduceBEq, wk1, forall_eq, Nat.reduceAdd, reduceIte, Nat.reduceEqDiff, reduceCtorEq, opLen, Int.reduceLT, Int.reduceEq, opConvert, opIndexAddr, opLoad, Nat.reduceLT, undef, Nat.reduceLeDiff, Array.toList, wk4, wk5, optV_some, guardV_true, guardV_false, condV_true, condV_false, wpc_skip, wpc_label, wpc_exit, wpc_ret, wpc_region, wpc_seq, wpc_cond, wpc_block, wpc_scope, wpc_loop, wpo_nil, wpo_cons, wps_open, put_get, put_none, keep_some, bin_add, bin_sub, bin_mul, bin_quo, bin_rem, bin_and, bin_or, bin_xor, bin_shl, bin_shr, bin_lss, bin_leq, bin_gtr, bin_geq, bin_eql, bin_neq, bin_seql, un_neg, un_xor, un_not, oneOf_one, fxC17LetterChecks, beqb, hc, hz]
          · rw [eW] at hc
            have G7' := (x'.2 b7 hb7M).trans G7
            simp only [wk6, Nat.reduceBEq, wk1, forall_eq, Nat.reduceAdd, reduceIte, Nat.reduceEqDiff, reduceCtorEq, opLen, Int.reduceLT, Int.reduceEq, opConvert, opIndexAddr, opLoad, Nat.reduceLT, undef, Nat.reduceLeDiff, Array.toList, wk4, wk5, wk0, fxC17LetterChecks, G7']
            refine lcheck_ret ⟨_, _, _, _, _, rfl, RM.pz x'.pz⟩ ok2.1 fun M'' x'' => ?_
            rw [eW]
            have hp : (0 : Int) < ((letB ({ A with wn := n, sm := true })).length : Int) := by have := letB_pos ({ A with wn := n, sm := true }); omega
            simp only [wk6, Nat.reduceBEq, wk1, forall_eq, Nat.reduceAdd, reduceIte, Nat.reduceEqDiff, reduceCtorEq, opLen, Int.reduceLT, Int.reduceEq, opConvert, opIndexAddr, opLoad, Nat.reduceLT, undef, Nat.reduceLeDiff, Array.toList, wk4, wk5, optV_some, guardV_true, guardV_false, condV_true, condV_false, wpc_skip, wpc_label, wpc_exit, wpc_ret, wpc_region, wpc_seq, wpc_cond, wpc_block, wpc_scope, wpc_loop, wpo_nil, wpo_cons, wps_open, put_get, put_none, keep_some, bin_add, bin_sub, bin_mul, bin_quo, bin_rem, bin_and, bin_or, bin_xor, bin_shl, bin_shr, bin_lss, bin_leq, bin_gtr, bin_geq, bin_eql, bin_neq, bin_seql, un_neg, un_xor, un_not, oneOf_one, fxC17LetterChecks, beqb, hc, hp]
        | false =>
          have dk := decide_eq_true kc
          simp only [wk6, Nat.reduceBEq, wk1, forall_eq, Nat.reduceAdd, reduceIte, Nat.reduceEqDiff, reduceCtorEq, opLen, Int.reduceLT, Int.reduceEq, opConvert, opIndexAddr, opLoad, Nat.reduceLT, undef, Nat.reduceLeDiff, Array.toList, wk4, wk5, wk0, fxC17LetterChecks, d0, d1, d2, d3, d4, d5, d6, G5, G7, dk, hs, n57]
          obtain ⟨L2, hL2⟩ : ∃ L : Let, L = { A with wn := n, sm := false } := ⟨_, rfl⟩
          have ok2 : Ok L2 ∧ Ty L2 := by
            rw [hL2]
            exact ⟨⟨kA.1.ek, kA.1.em, kA.1.vm, kA.1.cp, kA.1.cs, kA.1.ae, kA.1.aq, kA.1.al⟩, ⟨kA.2.kd, kA.2.et, kA.2.en, kA.2.eb, kA.2.ct, kA.2.cn, kA.2.cb, kA.2.it, kA.2.nn, kA.2.ab⟩⟩
          have eW : lck L2 = 0 := by
            rw [hL2]
            exact (lck_rg (L := { A with wn := n, sm := false }) kk eE eV).1 ⟨h1, h2, h3, h4, fun _ q => Bool.noConfusion q, h6⟩
          obtain ⟨M, hM⟩ : ∃ M, M = M0.set b7 (.cells (letC ({ A with wn := n, sm := false }) (.slice i1 A.E.args.length j1) (.slice i2 A.E.mem.length j2) (.slice i3 A.vm.length j3) (.slice i4 A.C.s.length j4) (.slice i5 A.A.s.length j5)) 51 true) := ⟨_, rfl⟩
          rw [← hM]
          have RM : LetR M L2 (.slice i1 A.E.args.length j1) (.slice i2 A.E.mem.length j2) (.slice i3 A.vm.length j3) (.slice i4 A.C.s.length j4) (.slice i5 A.A.s.length j5) := by rw [hM, hL2]; exact ⟨RA.ea.pz (Pz.set G7 _), RA.em.pz (Pz.set G7 _), RA.vm.pz (Pz.set G7 _), RA.ca.pz (Pz.set G7 _), RA.aa.pz (Pz.set G7 _)⟩
          have hb7M0 : b7 < M.next := by rw [hM]; exact hb7M0
          have G7 : M.get b7 = some (.cells (letC L2 (.slice i1 A.E.args.length j1) (.slice i2 A.E.mem.length j2) (.slice i3 A.vm.length j3) (.slice i4 A.C.s.length j4) (.slice i5 A.A.s.length j5)) 51 true) := by rw [hM, set_get, hL2]
          rw [hL2] at ok2 eW RM G7
          have hb7M : b7 < M.next := hb7M0
          refine lput_ret ⟨_, _, _, _, _, rfl, RM⟩ ok2.1 ok2.2 (fun hc M' x' => ?_) (fun hc M' r' x' y' z' g' => ?_)
          · exact absurd eW hc
          · have G7' := (x'.2 b7 hb7M).trans G7
            simp only [wk6, Nat.reduceBEq, wk1, forall_eq, Nat.reduceAdd, reduceIte, Nat.reduceEqDiff, reduceCtorEq, opLen, Int.reduceLT, Int.reduceEq, opConvert, opIndexAddr, opLoad, Nat.reduceLT, undef, Nat.reduceLeDiff, Array.toList, wk4, wk5, wk0, fxC17LetterChecks, G7']
            refine lcheck_ret ⟨_, _, _, _, _, rfl, RM.pz x'.pz⟩ ok2.1 fun M'' x'' => ?_
            rw [eW]
            have hp : (0 : Int) < ((letB ({ A with wn := n, sm := false })).length : Int) := by have := letB_pos ({ A with wn := n, sm := false }); omega
            simp only [wk6, Nat.reduceBEq, wk1, forall_eq, Nat.reduceAdd, reduceIte, Nat.reduceEqDiff, reduceCtorEq, opLen, Int.reduceLT, Int.reduceEq, opConvert, opIndexAddr, opLoad, Nat.reduceLT, undef, Nat.reduceLeDiff, Array.toList, wk4, wk5, optV_some, guardV_true, guardV_false, condV_true, condV_false, wpc_skip, wpc_label, wpc_exit, wpc_ret, wpc_region, wpc_seq, wpc_cond, wpc_block, wpc_scope, wpc_loop, wpo_nil, wpo_cons, wps_open, put_get, put_none, keep_some, bin_add, bin_sub, bin_mul, bin_quo, bin_rem, bin_and, bin_or, bin_xor, bin_shl, bin_shr, bin_lss, bin_leq, bin_gtr, bin_geq, bin_eql, bin_neq, bin_seql, un_neg, un_xor, un_not, oneOf_one, fxC17LetterChecks, beqb, hp]
      · have dk := decide_eq_false kc
        simp only [wk6, Nat.reduceBEq, wk1, forall_eq, Nat.reduceAdd, reduceIte, Nat.reduceEqDiff, reduceCtorEq, opLen, Int.reduceLT, Int.reduceEq, opConvert, opIndexAddr, opLoad, Nat.reduceLT, undef, Nat.reduceLeDiff, Array.toList, wk4, wk5, wk0, fxC17LetterChecks, d0, d1, d2, d3, d4, d5, d6, G5, G7, dk, n57]
        obtain ⟨L2, hL2⟩ : ∃ L : Let, L = { A with wn := n } := ⟨_, rfl⟩
        have ok2 : Ok L2 ∧ Ty L2 := by
          rw [hL2]
          exact ⟨⟨kA.1.ek, kA.1.em, kA.1.vm, kA.1.cp, kA.1.cs, kA.1.ae, kA.1.aq, kA.1.al⟩, ⟨kA.2.kd, kA.2.et, kA.2.en, kA.2.eb, kA.2.ct, kA.2.cn, kA.2.cb, kA.2.it, kA.2.nn, kA.2.ab⟩⟩
        have eW : lck L2 = 0 := by
          rw [hL2]
          exact (lck_rg (L := { A with wn := n }) kk eE eV).1 ⟨h1, h2, h3, h4, fun q => absurd q kc, h6⟩
        obtain ⟨M, hM⟩ : ∃ M, M = M0.set b7 (.cells (letC ({ A with wn := n }) (.slice i1 A.E.args.length j1) (.slice i2 A.E.mem.length j2) (.slice i3 A.vm.length j3) (.slice i4 A.C.s.length j4) (.slice i5 A.A.s.length j5)) 51 true) := ⟨_, rfl⟩
        rw [← hM]
        have RM : LetR M L2 (.slice i1 A.E.args.length j1) (.slice i2 A.E.mem.length j2) (.slice i3 A.vm.length j3) (.slice i4 A.C.s.length j4) (.slice i5 A.A.s.length j5) := by rw [hM, hL2]; exact ⟨RA.ea.pz (Pz.set G7 _), RA.em.pz (Pz.set G7 _), RA.vm.pz (Pz.set G7 _), RA.ca.pz (Pz.set G7 _), RA.aa.pz (Pz.set G7 _)⟩
        have hb7M0 : b7 < M.next := by rw [hM]; exact hb7M0
        have G7 : M.get b7 = some (.cells (letC L2 (.slice i1 A.E.args.length j1) (.slice i2 A.E.mem.length j2) (.slice i3 A.vm.length j3) (.slice i4 A.C.s.length j4) (.slice i5 A.A.s.length j5)) 51 true) := by rw [hM, set_get, hL2]
        rw [hL2] at ok2 eW RM G7
        have hb7M : b7 < M.next := hb7M0
        refine lput_ret ⟨_, _, _, _, _, rfl, RM⟩ ok2.1 ok2.2 (fun hc M' x' => ?_) (fun hc M' r' x' y' z' g' => ?_)
        · exact absurd eW hc
        · have G7' := (x'.2 b7 hb7M).trans G7
          simp only [wk6, Nat.reduceBEq, wk1, forall_eq, Nat.reduceAdd, reduceIte, Nat.reduceEqDiff, reduceCtorEq, opLen, Int.reduceLT, Int.reduceEq, opConvert, opIndexAddr, opLoad, Nat.reduceLT, undef, Nat.reduceLeDiff, Array.toList, wk4, wk5, wk0, fxC17LetterChecks, G7']
          refine lcheck_ret ⟨_, _, _, _, _, rfl, RM.pz x'.pz⟩ ok2.1 fun M'' x'' => ?_
          rw [eW]
          have hp : (0 : Int) < ((letB ({ A with wn := n })).length : Int) := by have := letB_pos ({ A with wn := n }); omega
          simp only [wk6, Nat.reduceBEq, wk1, forall_eq, Nat.reduceAdd, reduceIte, Nat.reduceEqDiff, reduceCtorEq, opLen, Int.reduceLT, Int.reduceEq, opConvert, opIndexAddr, opLoad, Nat.reduceLT, undef, Nat.reduceLeDiff, Array.toList, wk4, wk5, optV_some, guardV_true, guardV_false, condV_true, condV_false, wpc_skip, wpc_label, wpc_exit, wpc_ret, wpc_region, wpc_seq, wpc_cond, wpc_block, wpc_scope, wpc_loop, wpo_nil, wpo_cons, wps_open, put_get, put_none, keep_some, bin_add, bin_sub, bin_mul, bin_quo, bin_rem, bin_and, bin_or, bin_xor, bin_shl, bin_shr, bin_lss, bin_leq, bin_gtr, bin_geq, bin_eql, bin_neq, bin_seql, un_neg, un_xor, un_not, oneOf_one, fxC17LetterChecks, beqb, hp]
    have d6 := decide_eq_false c6
    by_cases kc : A.kd = 7
    · have dk := decide_eq_true kc
      simp only [wk6, Nat.reduceBEq, wk1, forall_eq, Nat.reduceAdd, reduceIte, Nat.reduceEqDiff, reduceCtorEq, opLen, Int.reduceLT, Int.reduceEq, opConvert, opIndexAddr, opLoad, Nat.reduceLT, undef, Nat.reduceLeDiff, Array.toList, wk4, wk5, wk0, fxC17LetterChecks, d0, d1, d2, d3, d4, d5, d6, G5, G7, dk, n57]
      refine out_ret (by rw [set_get_ne _ n57]; exact G5) ?_
      simp only [wk6, Nat.reduceBEq, wk1, forall_eq, Nat.reduceAdd, reduceIte, Nat.reduceEqDiff, reduceCtorEq, opLen, Int.reduceLT, Int.reduceEq, opConvert, opIndexAddr, opLoad, Nat.reduceLT, undef, Nat.reduceLeDiff, Array.toList, wk4, wk5, wk0, fxC17LetterChecks]
      obtain ⟨W, hW⟩ : ∃ W, W = outI n 4294967295 := ⟨_, rfl⟩
      rw [← hW]
      obtain ⟨L2, hL2⟩ : ∃ L : Let, L = { A with vn := n } := ⟨_, rfl⟩
      have ok2 : Ok L2 ∧ Ty L2 := by
        rw [hL2]
        exact ⟨⟨kA.1.ek, kA.1.em, kA.1.vm, kA.1.cp, kA.1.cs, kA.1.ae, kA.1.aq, kA.1.al⟩, ⟨kA.2.kd, kA.2.et, kA.2.en, kA.2.eb, kA.2.ct, kA.2.cn, kA.2.cb, kA.2.it, kA.2.nn, kA.2.ab⟩⟩
      have eW : lck L2 = W := by
        rw [hL2, hW]
        refine lck_out kk eE eV ⟨fun r => ?_, fun r => ?_⟩
        · obtain ⟨r1, r2, r3, r4, r5, r6⟩ := r
          have : 0 ≤ n ∧ n < 4294967296 := r6 kc; omega
        · exact ⟨h1, h2, h3, h4, h5, fun _ => by show 0 ≤ n ∧ n < 4294967296; omega⟩
      obtain ⟨M, hM⟩ : ∃ M, M = M0.set b7 (.cells (letC ({ A with vn := n }) (.slice i1 A.E.args.length j1) (.slice i2 A.E.mem.length j2) (.slice i3 A.vm.length j3) (.slice i4 A.C.s.length j4) (.slice i5 A.A.s.length j5)) 51 true) := ⟨_, rfl⟩
      rw [← hM]
      have RM : LetR M L2 (.slice i1 A.E.args.length j1) (.slice i2 A.E.mem.length j2) (.slice i3 A.vm.length j3) (.slice i4 A.C.s.length j4) (.slice i5 A.A.s.length j5) := by rw [hM, hL2]; exact ⟨RA.ea.pz (Pz.set G7 _), RA.em.pz (Pz.set G7 _), RA.vm.pz (Pz.set G7 _), RA.ca.pz (Pz.set G7 _), RA.aa.pz (Pz.set G7 _)⟩
      have hb7M0 : b7 < M.next := by rw [hM]; exact hb7M0
      have G7 : M.get b7 = some (.cells (letC L2 (.slice i1 A.E.args.length j1) (.slice i2 A.E.mem.length j2) (.slice i3 A.vm.length j3) (.slice i4 A.C.s.length j4) (.slice i5 A.A.s.length j5)) 51 true) := by rw [hM, set_get, hL2]
      rw [hL2] at ok2 eW RM G7
      have hb7M : b7 < M.next := hb7M0
      refine lput_ret ⟨_, _, _, _, _, rfl, RM⟩ ok2.1 ok2.2 (fun hc M' x' => ?_) (fun hc M' r' x' y' z' g' => ?_)
      · rw [eW] at hc
        have G7' := (x'.2 b7 hb7M).trans G7
        simp only [wk6, Nat.reduceBEq, wk1, forall_eq, Nat.reduceAdd, reduceIte, Nat.reduceEqDiff, reduceCtorEq, opLen, Int.reduceLT, Int.reduceEq, opConvert, opIndexAddr, opLoad, Nat.reduceLT, undef, Nat.reduceLeDiff, Array.toList, wk4, wk5, wk0, fxC17LetterChecks, G7']
        refine lcheck_ret ⟨_, _, _, _, _, rfl, RM.pz x'.pz⟩ ok2.1 fun M'' x'' => ?_
        rw [eW]
        simp only [wk6, Nat.reduceBEq, wk1, forall_eq, Nat.reduceAdd, reduceIte, Nat.reduceEqDiff, reduceCtorEq, opLen, Int.reduceLT, Int.reduceEq, opConvert, opIndexAddr, opLoad, Nat.reduceLT, undef, Nat.reduceLeDiff, Array.toList, wk4, wk5, optV_some, guardV_true, guardV_false, condV_true, condV_false, wpc_skip, wpc_label, wpc_exit, wpc_ret, wpc_region, wpc_seq, wpc_cond, wpc_block, wpc_scope, wpc_loop, wpo_nil, wpo_cons, wps_open, put_get, put_none, keep_some, bin_add, bin_sub, bin_mul, bin_quo, bin_rem, bin_and, bin_or, bin_xor, bin_shl, bin_shr, bin_lss, bin_leq, bin_gtr, bin_geq, bin_eql, bin_neq, bin_seql, un_neg, un_xor, un_not, oneOf_one, fxC17LetterChecks, beqb, hc, hz]
      · rw [eW] at hc
        have G7' := (x'.2 b7 hb7M).trans G7
        simp only [wk6, Nat.reduceBEq, wk1, forall_eq, Nat.reduceAdd, reduceIte, Nat.reduceEqDiff, reduceCtorEq, opLen, Int.reduceLT, Int.reduceEq, opConvert, opIndexAddr, opLoad, Nat.reduceLT, undef, Nat.reduceLeDiff, Array.toList, wk4, wk5, wk0, fxC17LetterChecks, G7']
        refine lcheck_ret ⟨_, _, _, _, _, rfl, RM.pz x'.pz⟩ ok2.1 fun M'' x'' => ?_
        rw [eW]
        have hp : (0 : Int) < ((letB ({ A with vn := n })).length : Int) := by have := letB_pos ({ A with vn := n }); omega
        simp only [wk6, Nat.reduceBEq, wk1, forall_eq, Nat.reduceAdd, reduceIte, Nat.reduceEqDiff, reduceCtorEq, opLen, Int.reduceLT, Int.reduceEq, opConvert, opIndexAddr, opLoad, Nat.reduceLT, undef, Nat.reduceLeDiff, Array.toList, wk4, wk5, optV_some, guardV_true, guardV_false, condV_true, condV_false, wpc_skip, wpc_label, wpc_exit, wpc_ret, wpc_region, wpc_seq, wpc_cond, wpc_block, wpc_scope, wpc_loop, wpo_nil, wpo_cons, wps_open, put_get, put_none, keep_some, bin_add, bin_sub, bin_mul, bin_quo, bin_rem, bin_and, bin_or, bin_xor, bin_shl, bin_shr, bin_lss, bin_leq, bin_gtr, bin_geq, bin_eql, bin_neq, bin_seql, un_neg, un_xor, un_not, oneOf_one, fxC17LetterChecks, beqb, hc, hp]
    · have dk := decide_eq_false kc
      simp only [wk6, Nat.reduceBEq, wk1, forall_eq, Nat.reduceAdd, reduceIte, Nat.reduceEqDiff, reduceCtorEq, opLen, Int.reduceLT, Int.reduceEq, opConvert, opIndexAddr, opLoad, Nat.reduceLT, undef, Nat.reduceLeDiff, Array.toList, wk4, wk5, wk0, fxC17LetterChecks, d0, d1, d2, d3, d4, d5, d6, G5, G7, dk, n57]
      obtain ⟨L2, hL2⟩ : ∃ L : Let, L = { A with vn := n } := ⟨_, rfl⟩
      have ok2 : Ok L2 ∧ Ty L2 := by
        rw [hL2]
        exact ⟨⟨kA.1.ek, kA.1.em, kA.1.vm, kA.1.cp, kA.1.cs, kA.1.ae, kA.1.aq, kA.1.al⟩, ⟨kA.2.kd, kA.2.et, kA.2.en, kA.2.eb, kA.2.ct, kA.2.cn, kA.2.cb, kA.2.it, kA.2.nn, kA.2.ab⟩⟩
      have eW : lck L2 = 0 := by
        rw [hL2]
        exact (lck_rg (L := { A with vn := n }) kk eE eV).1 ⟨h1, h2, h3, h4, h5, fun q => absurd q kc⟩
      obtain ⟨M, hM⟩ : ∃ M, M = M0.set b7 (.cells (letC ({ A with vn := n }) (.slice i1 A.E.args.length j1) (.slice i2 A.E.mem.length j2) (.slice i3 A.vm.length j3) (.slice i4 A.C.s.length j4) (.slice i5 A.A.s.length j5)) 51 true) := ⟨_, rfl⟩
      rw [← hM]
      have RM : LetR M L2 (.slice i1 A.E.args.length j1) (.slice i2 A.E.mem.length j2) (.slice i3 A.vm.length j3) (.slice i4 A.C.s.length j4) (.slice i5 A.A.s.length j5) := by rw [hM, hL2]; exact ⟨RA.ea.pz (Pz.set G7 _), RA.em.pz (Pz.set G7 _), RA.vm.pz (Pz.set G7 _), RA.ca.pz (Pz.set G7 _), RA.aa.pz (Pz.set G7 _)⟩
      have hb7M0 : b7 < M.next := by rw [hM]; exact hb7M0
      have G7 : M.get b7 = some (.cells (letC L2 (.slice i1 A.E.args.length j1) (.slice i2 A.E.mem.length j2) (.slice i3 A.vm.length j3) (.slice i4 A.C.s.length j4) (.slice i5 A.A.s.length j5)) 51 true) := by rw [hM, set_get, hL2]
      rw [hL2] at ok2 eW RM G7
      have hb7M : b7 < M.next := hb7M0
      refine lput_ret ⟨_, _, _, _, _, rfl, RM⟩ ok2.1 ok2.2 (fun hc M' x' => ?_) (fun hc M' r' x' y' z' g' => ?_)
      · exact absurd eW hc
      · have G7' := (x'.2 b7 hb7M).trans G7
        simp only [wk6, Nat.reduceBEq, wk1, forall_eq, Nat.reduceAdd, reduceIte, Nat.reduceEqDiff, reduceCtorEq, opLen, Int.reduceLT, Int.reduceEq, opConvert, opIndexAddr, opLoad, Nat.reduceLT, undef, Nat.reduceLeDiff, Array.toList, wk4, wk5, wk0, fxC17LetterChecks, G7']
        refine lcheck_ret ⟨_, _, _, _, _, rfl, RM.pz x'.pz⟩ ok2.1 fun M'' x'' => ?_
        rw [eW]
        have hp : (0 : Int) < ((letB ({ A with vn := n })).length : Int) := by have := letB_pos ({ A with vn := n }); omega
        simp only [wk6, Nat.reduceBEq, wk1, forall_eq, Nat.reduceAdd, reduceIte, Nat.reduceEqDiff, reduceCtorEq, opLen, Int.reduceLT, Int.reduceEq, opConvert, opIndexAddr, opLoad, Nat.reduceLT, undef, Nat.reduceLeDiff, Array.toList, wk4, wk5, optV_some, guardV_true, guardV_false, condV_true, condV_false, wpc_skip, wpc_label, wpc_exit, wpc_ret, wpc_region, wpc_seq, wpc_cond, wpc_block, wpc_scope, wpc_loop, wpo_nil, wpo_cons, wps_open, put_get, put_none, keep_some, bin_add, bin_sub, bin_mul, bin_quo, bin_rem, bin_and, bin_or, bin_xor, bin_shl, bin_shr, bin_lss, bin_leq, bin_gtr, bin_geq, bin_eql, bin_neq, bin_seql, un_neg, un_xor, un_not, oneOf_one, fxC17LetterChecks, beqb, hp]
  · have d1 := decide_eq_false l1
    simp only [wk6, Nat.reduceBEq, wk1, forall_eq, Nat.reduceAdd, reduceIte, Nat.reduceEqDiff, reduceCtorEq, opLen, Int.reduceLT, Int.reduceEq, opConvert, opIndexAddr, opLoad, Nat.reduceLT, undef, Nat.reduceLeDiff, Array.toList, wk4, wk5, wk0, fxC17LetterChecks, d1]
theorem letterChecks_true {H : Type} {m : Mem} {xs : List Value} {ds : List (DataW H)} (hd : IsDs Try.prog 8 [32, 5, 3] ds) (hl : LieAll Try.prog m [32, 5, 3] ds xs) : Ret Try.prog 5 xs m fun v _ => v = .bool true := by
  obtain ⟨d0, dr, rfl, i0, hd⟩ := isDs_cons hd
  obtain ⟨d1, dr, rfl, i1, hd⟩ := isDs_cons hd
  obtain ⟨d2, dr, rfl, i2, hd⟩ := isDs_cons hd
  obtain rfl := isDs_nil hd
  obtain ⟨v0, _, rfl, l0, v1, _, rfl, l1, v2, _, rfl, l2, rfl⟩ := hl
  obtain ⟨S, h, ok⟩ := small_of (k := 1) i0 l0
  obtain ⟨w, rfl, hw⟩ := lies_int (k := 7) Try.underlying5 i1 l1
  obtain ⟨n, rfl, _⟩ := lies_int (k := 7) Try.underlying3 i2 l2
  exact checks_ret h ok (wf_u8 hw)
end Go.Proofs.Ytejgoooanapjbaa
