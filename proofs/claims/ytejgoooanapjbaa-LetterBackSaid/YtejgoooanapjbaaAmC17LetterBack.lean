/- A text of the abstract machine. -/

/- The law LetterBack, simp only [Nat.reduceAdd, reduceIte, Nat.reduceEqDiff, reduceCtorEq, opLen, Int.reduceLT, Int.reduceEq, opConvert, opIndexAddr, opLoad, Nat.reduceLT, undef, Nat.reduceLeDiff, Array.toList, wk4, wk5, wk0, fxC17LetterBack]ed. -/
import Derived.Test.YtejgoooanapjbaaAmC17z
import Derived.Test.YtejgoooanapjbaaAmBun
set_option linter.unusedSimpArgs false
set_option linter.unusedVariables false
set_option maxRecDepth 100000
set_option maxHeartbeats 4000000
namespace Go.Proofs.Ytejgoooanapjbaa
open Go Go.AM Go.AM.Crc Go.AM.Wire
theorem fxC17LetterBack : type_of% (And.intro (And.intro (And.intro (And.intro (And.intro (And.intro (And.intro (And.intro @Try.underlying3 @Try.underlying4) (And.intro @Try.underlying5 @Try.underlying9)) (And.intro (And.intro @Try.underlying42 @Try.underlying46) (And.intro @Try.underlying47 @Try.underlying123))) (And.intro (And.intro (And.intro @Try.underlying23 @Try.underlying26) (And.intro @Try.underlying28 @Try.underlying39)) (And.intro (And.intro @Try.underlying41 @Try.underlying44) (And.intro @Try.underlying24 (And.intro @Try.underlying37 @Try.underlying22))))) (And.intro (And.intro (And.intro (And.intro @Try.underlying0 @Try.underlying100) (And.intro @Try.underlying66 @Try.underlying68)) (And.intro (And.intro @Try.underlying78 @Try.underlying103) (And.intro @Try.underlying49 (And.intro @Try.underlying34 @Try.underlying36)))) (And.intro (And.intro (And.intro @Try.underlying51 @Try.underlying53) (And.intro @Try.underlying55 @Try.underlying88)) (And.intro (And.intro @Try.underlying32 @Try.underlying30) (And.intro @Try.underlying61 (And.intro @Try.underlying63 @Try.underlying90)))))) (And.intro (And.intro (And.intro (And.intro (And.intro @Try.underlying92 @Try.underlying94) (And.intro @ts3 @ts4)) (And.intro (And.intro @ts5 @ts9) (And.intro @ts42 @ts46))) (And.intro (And.intro (And.intro @ts47 @ts123) (And.intro @ts23 @ts26)) (And.intro (And.intro @ts28 @ts39) (And.intro @ts41 (And.intro @ts44 @ts24))))) (And.intro (And.intro (And.intro (And.intro @ts37 @ts22) (And.intro @ts0 @ts100)) (And.intro (And.intro @ts66 @ts68) (And.intro @ts78 (And.intro @ts103 @ts49)))) (And.intro (And.intro (And.intro @ts34 @ts36) (And.intro @ts51 @ts53)) (And.intro (And.intro @ts55 @ts88) (And.intro @ts32 (And.intro @ts30 @ts61))))))) (And.intro (And.intro (And.intro (And.intro (And.intro (And.intro @ts63 @ts90) (And.intro @ts92 @ts94)) (And.intro (And.intro @tz3 @tz4) (And.intro @tz5 @tz9))) (And.intro (And.intro (And.intro @tz42 @tz46) (And.intro @tz47 @tz123)) (And.intro (And.intro @tz23 @tz26) (And.intro @tz28 (And.intro @tz39 @tz41))))) (And.intro (And.intro (And.intro (And.intro @tz44 @tz24) (And.intro @tz37 @tz22)) (And.intro (And.intro @tz0 @tz100) (And.intro @tz66 (And.intro @tz68 @tz78)))) (And.intro (And.intro (And.intro @tz103 @tz49) (And.intro @tz34 @tz36)) (And.intro (And.intro @tz51 @tz53) (And.intro @tz55 (And.intro @tz88 @tz32)))))) (And.intro (And.intro (And.intro (And.intro (And.intro @tz30 @tz61) (And.intro @tz63 @tz90)) (And.intro (And.intro @tz92 @tz94) (And.intro @tb3 @tb4))) (And.intro (And.intro (And.intro @tb5 @tb9) (And.intro @tb42 @tb46)) (And.intro (And.intro @tb47 @tb123) (And.intro @tb23 (And.intro @tb26 @tb28))))) (And.intro (And.intro (And.intro (And.intro @tb39 @tb41) (And.intro @tb44 @tb24)) (And.intro (And.intro @tb37 @tb22) (And.intro @tb0 (And.intro @tb100 @tb66)))) (And.intro (And.intro (And.intro @tb68 @tb78) (And.intro @tb103 @tb49)) (And.intro (And.intro @tb34 @tb36) (And.intro @tb51 (And.intro @tb53 @tb55)))))))) (And.intro (And.intro (And.intro (And.intro (And.intro (And.intro (And.intro @tb88 @tb32) (And.intro @tb30 @tb61)) (And.intro (And.intro @tb63 @tb90) (And.intro @tb92 @tb94))) (And.intro (And.intro (And.intro @fr8 @fr9) (And.intro @fr10 @fr11)) (And.intro (And.intro @fr13 @fr15) (And.intro @fr16 (And.intro @fr18 @fr19))))) (And.intro (And.intro (And.intro (And.intro @fr20 @fr21) (And.intro @fr22 @fr23)) (And.intro (And.intro @fr24 @fr25) (And.intro @fr26 (And.intro @fr27 @fr28)))) (And.intro (And.intro (And.intro @fr38 @fr39) (And.intro @fr40 @fr41)) (And.intro (And.intro @fr42 @fr51) (And.intro @fr52 (And.intro @fr53 @fr54)))))) (And.intro (And.intro (And.intro (And.intro (And.intro @fr3 @fr4) (And.intro @fr5 @fr6)) (And.intro (And.intro @fr7 @fr12) (And.intro @fr14 @fr17))) (And.intro (And.intro (And.intro @bz46 @al46) (And.intro @fa46_0 @fa46_1)) (And.intro (And.intro @bz28 @bz26) (And.intro @bz41 (And.intro @bz44 @al41))))) (And.intro (And.intro (And.intro (And.intro @al44 @fa44_0) (And.intro @fa44_1 @fa44_2)) (And.intro (And.intro @fa41_0 @fa41_1) (And.intro @fa41_2 (And.intro @fa28_0 @fa28_1)))) (And.intro (And.intro (And.intro @fa28_2 @fa26_0) (And.intro @fa26_1 @fa26_2)) (And.intro (And.intro @fa26_3 @bz103) (And.intro @al68 (And.intro @al103 @fa68_0))))))) (And.intro (And.intro (And.intro (And.intro (And.intro (And.intro @fa103_0 @fa103_1) (And.intro @fa103_2 @bin_weq)) (And.intro (And.intro @bin_wneq @bin_req) (And.intro @bin_rneq @bz39))) (And.intro (And.intro (And.intro @fa39_0 @fa39_1) (And.intro @bz68 @bz49)) (And.intro (And.intro @al49 @fa49_0) (And.intro @fa49_1 (And.intro @fa49_2 @bz51))))) (And.intro (And.intro (And.intro (And.intro @al51 @fa51_0) (And.intro @fa51_1 @fa51_2)) (And.intro (And.intro @fa51_3 @fa51_4) (And.intro @fa51_5 (And.intro @fa51_6 @fa51_7)))) (And.intro (And.intro (And.intro @fa51_8 @fa51_9) (And.intro @fa51_10 @fa51_11)) (And.intro (And.intro @bz36 @al36) (And.intro @fa36_0 (And.intro @fa36_1 @oneOf_two)))))) (And.intro (And.intro (And.intro (And.intro (And.intro @al24 @al90) (And.intro @bz32 @fa32_0)) (And.intro (And.intro @fa32_1 @fa32_2) (And.intro @fa32_3 (And.intro @fa32_4 @fa32_5)))) (And.intro (And.intro (And.intro @fa32_6 @fa32_7) (And.intro @fa32_8 @fa32_9)) (And.intro (And.intro @fa32_10 @fa32_11) (And.intro @fa32_12 (And.intro @fa32_13 @fa32_14))))) (And.intro (And.intro (And.intro (And.intro @fa32_15 @al32) (And.intro @al28 @al26)) (And.intro (And.intro @fa30_0 @fa30_1) (And.intro @fa30_2 (And.intro @al30 @bldI)))) (And.intro (And.intro (And.intro @set_set @bldL3) (And.intro @bldB @vqB)) (And.intro (And.intro @vqE @vqA) (And.intro @vqC (And.intro @vqI @vqW))))))))) := (And.intro (And.intro (And.intro (And.intro (And.intro (And.intro (And.intro (And.intro @Try.underlying3 @Try.underlying4) (And.intro @Try.underlying5 @Try.underlying9)) (And.intro (And.intro @Try.underlying42 @Try.underlying46) (And.intro @Try.underlying47 @Try.underlying123))) (And.intro (And.intro (And.intro @Try.underlying23 @Try.underlying26) (And.intro @Try.underlying28 @Try.underlying39)) (And.intro (And.intro @Try.underlying41 @Try.underlying44) (And.intro @Try.underlying24 (And.intro @Try.underlying37 @Try.underlying22))))) (And.intro (And.intro (And.intro (And.intro @Try.underlying0 @Try.underlying100) (And.intro @Try.underlying66 @Try.underlying68)) (And.intro (And.intro @Try.underlying78 @Try.underlying103) (And.intro @Try.underlying49 (And.intro @Try.underlying34 @Try.underlying36)))) (And.intro (And.intro (And.intro @Try.underlying51 @Try.underlying53) (And.intro @Try.underlying55 @Try.underlying88)) (And.intro (And.intro @Try.underlying32 @Try.underlying30) (And.intro @Try.underlying61 (And.intro @Try.underlying63 @Try.underlying90)))))) (And.intro (And.intro (And.intro (And.intro (And.intro @Try.underlying92 @Try.underlying94) (And.intro @ts3 @ts4)) (And.intro (And.intro @ts5 @ts9) (And.intro @ts42 @ts46))) (And.intro (And.intro (And.intro @ts47 @ts123) (And.intro @ts23 @ts26)) (And.intro (And.intro @ts28 @ts39) (And.intro @ts41 (And.intro @ts44 @ts24))))) (And.intro (And.intro (And.intro (And.intro @ts37 @ts22) (And.intro @ts0 @ts100)) (And.intro (And.intro @ts66 @ts68) (And.intro @ts78 (And.intro @ts103 @ts49)))) (And.intro (And.intro (And.intro @ts34 @ts36) (And.intro @ts51 @ts53)) (And.intro (And.intro @ts55 @ts88) (And.intro @ts32 (And.intro @ts30 @ts61))))))) (And.intro (And.intro (And.intro (And.intro (And.intro (And.intro @ts63 @ts90) (And.intro @ts92 @ts94)) (And.intro (And.intro @tz3 @tz4) (And.intro @tz5 @tz9))) (And.intro (And.intro (And.intro @tz42 @tz46) (And.intro @tz47 @tz123)) (And.intro (And.intro @tz23 @tz26) (And.intro @tz28 (And.intro @tz39 @tz41))))) (And.intro (And.intro (And.intro (And.intro @tz44 @tz24) (And.intro @tz37 @tz22)) (And.intro (And.intro @tz0 @tz100) (And.intro @tz66 (And.intro @tz68 @tz78)))) (And.intro (And.intro (And.intro @tz103 @tz49) (And.intro @tz34 @tz36)) (And.intro (And.intro @tz51 @tz53) (And.intro @tz55 (And.intro @tz88 @tz32)))))) (And.intro (And.intro (And.intro (And.intro (And.intro @tz30 @tz61) (And.intro @tz63 @tz90)) (And.intro (And.intro @tz92 @tz94) (And.intro @tb3 @tb4))) (And.intro (And.intro (And.intro @tb5 @tb9) (And.intro @tb42 @tb46)) (And.intro (And.intro @tb47 @tb123) (And.intro @tb23 (And.intro @tb26 @tb28))))) (And.intro (And.intro (And.intro (And.intro @tb39 @tb41) (And.intro @tb44 @tb24)) (And.intro (And.intro @tb37 @tb22) (And.intro @tb0 (And.intro @tb100 @tb66)))) (And.intro (And.intro (And.intro @tb68 @tb78) (And.intro @tb103 @tb49)) (And.intro (And.intro @tb34 @tb36) (And.intro @tb51 (And.intro @tb53 @tb55)))))))) (And.intro (And.intro (And.intro (And.intro (And.intro (And.intro (And.intro @tb88 @tb32) (And.intro @tb30 @tb61)) (And.intro (And.intro @tb63 @tb90) (And.intro @tb92 @tb94))) (And.intro (And.intro (And.intro @fr8 @fr9) (And.intro @fr10 @fr11)) (And.intro (And.intro @fr13 @fr15) (And.intro @fr16 (And.intro @fr18 @fr19))))) (And.intro (And.intro (And.intro (And.intro @fr20 @fr21) (And.intro @fr22 @fr23)) (And.intro (And.intro @fr24 @fr25) (And.intro @fr26 (And.intro @fr27 @fr28)))) (And.intro (And.intro (And.intro @fr38 @fr39) (And.intro @fr40 @fr41)) (And.intro (And.intro @fr42 @fr51) (And.intro @fr52 (And.intro @fr53 @fr54)))))) (And.intro (And.intro (And.intro (And.intro (And.intro @fr3 @fr4) (And.intro @fr5 @fr6)) (And.intro (And.intro @fr7 @fr12) (And.intro @fr14 @fr17))) (And.intro (And.intro (And.intro @bz46 @al46) (And.intro @fa46_0 @fa46_1)) (And.intro (And.intro @bz28 @bz26) (And.intro @bz41 (And.intro @bz44 @al41))))) (And.intro (And.intro (And.intro (And.intro @al44 @fa44_0) (And.intro @fa44_1 @fa44_2)) (And.intro (And.intro @fa41_0 @fa41_1) (And.intro @fa41_2 (And.intro @fa28_0 @fa28_1)))) (And.intro (And.intro (And.intro @fa28_2 @fa26_0) (And.intro @fa26_1 @fa26_2)) (And.intro (And.intro @fa26_3 @bz103) (And.intro @al68 (And.intro @al103 @fa68_0))))))) (And.intro (And.intro (And.intro (And.intro (And.intro (And.intro @fa103_0 @fa103_1) (And.intro @fa103_2 @bin_weq)) (And.intro (And.intro @bin_wneq @bin_req) (And.intro @bin_rneq @bz39))) (And.intro (And.intro (And.intro @fa39_0 @fa39_1) (And.intro @bz68 @bz49)) (And.intro (And.intro @al49 @fa49_0) (And.intro @fa49_1 (And.intro @fa49_2 @bz51))))) (And.intro (And.intro (And.intro (And.intro @al51 @fa51_0) (And.intro @fa51_1 @fa51_2)) (And.intro (And.intro @fa51_3 @fa51_4) (And.intro @fa51_5 (And.intro @fa51_6 @fa51_7)))) (And.intro (And.intro (And.intro @fa51_8 @fa51_9) (And.intro @fa51_10 @fa51_11)) (And.intro (And.intro @bz36 @al36) (And.intro @fa36_0 (And.intro @fa36_1 @oneOf_two)))))) (And.intro (And.intro (And.intro (And.intro (And.intro @al24 @al90) (And.intro @bz32 @fa32_0)) (And.intro (And.intro @fa32_1 @fa32_2) (And.intro @fa32_3 (And.intro @fa32_4 @fa32_5)))) (And.intro (And.intro (And.intro @fa32_6 @fa32_7) (And.intro @fa32_8 @fa32_9)) (And.intro (And.intro @fa32_10 @fa32_11) (And.intro @fa32_12 (And.intro @fa32_13 @fa32_14))))) (And.intro (And.intro (And.intro (And.intro @fa32_15 @al32) (And.intro @al28 @al26)) (And.intro (And.intro @fa30_0 @fa30_1) (And.intro @fa30_2 (And.intro @al30 @bldI)))) (And.intro (And.intro (And.intro @set_set @bldL3) (And.intro @bldB @vqB)) (And.intro (And.intro @vqE @vqA) (And.intro @vqC (And.intro @vqI @vqW)))))))))
theorem back_ret {m : Mem} {v : Value} {S : SmL} (h : SmLF m v S) (ok : SmOk S) : Ret Try.prog 3 [v] m fun v _ => v = .bool true := by
  obtain ⟨ea, ca, aa, rfl, h⟩ := h
  obtain ⟨a1, z1, rfl⟩ := h.ea.is
  obtain ⟨a2, z2, rfl⟩ := h.ca.is
  obtain ⟨a3, z3, rfl⟩ := h.aa.is
  refine ret_wp [(9, [9, 36])] Try.func3 rfl (by decide) (by kernel_rfl) ?_
  simp only [wk6, Nat.reduceBEq, wk1, forall_eq, Nat.reduceAdd, reduceIte, Nat.reduceEqDiff, reduceCtorEq, opLen, Int.reduceLT, Int.reduceEq, opConvert, opIndexAddr, opLoad, Nat.reduceLT, undef, Nat.reduceLeDiff, Array.toList, wk4, wk5, wk0, fxC17LetterBack]
  obtain ⟨m0, hm0⟩ : ∃ m0, m0 = m.new (.cells (smC S (.slice a1 S.E.args.length z1) (.slice a2 S.C.s.length z2) (.slice a3 S.A.s.length z3)) 32 true) := ⟨_, rfl⟩
  have x0 : Ext m m0 := by rw [hm0]; exact Ext.new _ _
  have n0 : m0.next = m.next + 1 := by rw [hm0]; rfl
  have g1 : m0.get m.next = some (.cells (smC S (.slice a1 S.E.args.length z1) (.slice a2 S.C.s.length z2) (.slice a3 S.A.s.length z3)) 32 true) := by rw [hm0, new_get]
  rw [← hm0]
  clear hm0
  refine awake_ret fun m1 x1 => ?_
  have g11 := (x1.2 m.next (by omega)).trans g1
  have X1 := x0.trans x1
  simp only [wk6, Nat.reduceBEq, wk1, forall_eq, Nat.reduceAdd, reduceIte, Nat.reduceEqDiff, reduceCtorEq, opLen, Int.reduceLT, Int.reduceEq, opConvert, opIndexAddr, opLoad, Nat.reduceLT, undef, Nat.reduceLeDiff, Array.toList, wk4, wk5, wk0, fxC17LetterBack, g11]
  refine light_ret ⟨_, _, _, rfl, h.pz X1.pz⟩ fun m2 x2 => ?_
  have k1 := x1.1
  have k2 := x2.1
  have g12 := (x2.2 m.next (by omega)).trans g11
  have X2 := X1.trans x2
  by_cases l1 : S.light
  · have d1 := decide_eq_true l1
    simp only [wk6, Nat.reduceBEq, wk1, forall_eq, Nat.reduceAdd, reduceIte, Nat.reduceEqDiff, reduceCtorEq, opLen, Int.reduceLT, Int.reduceEq, opConvert, opIndexAddr, opLoad, Nat.reduceLT, undef, Nat.reduceLeDiff, Array.toList, wk4, wk5, wk0, fxC17LetterBack, d1, g12]
    refine letter_ret ⟨_, _, _, rfl, h.pz X2.pz⟩ ok fun m3 v3 x3 f3 => ?_
    have g13 := (x3.2 m.next (by omega)).trans g12
    have X3 := X2.trans x3
    have k3 := x3.1
    obtain ⟨ea, em, vm, ca, aa, rfl, f3⟩ := f3
    obtain ⟨i1, j1, rfl⟩ := f3.ea.is
    obtain ⟨i2, j2, rfl⟩ := f3.em.is
    obtain ⟨i3, j3, rfl⟩ := f3.vm.is
    obtain ⟨i4, j4, rfl⟩ := f3.ca.is
    obtain ⟨i5, j5, rfl⟩ := f3.aa.is
    have oA := all_ok ok l1
    have cS : lck S.all = 0 := all_lck ok l1
    have kk : 0 ≤ S.all.kd ∧ S.all.kd < 8 := tm_lt ok.kd.1 (by decide)
    have eSA := letB_only S.all kk
    obtain ⟨A, hA⟩ : ∃ A, A = only S.all := ⟨_, rfl⟩
    rw [← hA] at f3 eSA ⊢
    have cA : lck A = 0 := by rw [hA, lck_only]; exact cS
    have kA : Ok A := by rw [hA]; exact only_ok oA.1
    have tA : Ty A := by rw [hA]; exact only_ty oA.2
    have eA : only A = A := by rw [hA, only_only]
    have FA := lfit_of kA tA cA
    have LA := letB_len FA kA
    have tk := let_mid FA kA cA
    rw [eA] at tk
    clear hA
    have hne3 : ¬ m.next = m3.next := by omega
    simp only [wk6, Nat.reduceBEq, wk1, forall_eq, Nat.reduceAdd, reduceIte, Nat.reduceEqDiff, reduceCtorEq, opLen, Int.reduceLT, Int.reduceEq, opConvert, opIndexAddr, opLoad, Nat.reduceLT, undef, Nat.reduceLeDiff, Array.toList, wk4, wk5, wk0, fxC17LetterBack]
    obtain ⟨b3, hb3⟩ : ∃ b, b = m3.next := ⟨_, rfl⟩
    obtain ⟨m4, hm4⟩ : ∃ M, M = (m3.new (.cells (zCells 0 0 0) 51 true)).set m3.next (.cells (letC A (.slice i1 A.E.args.length j1) (.slice i2 A.E.mem.length j2) (.slice i3 A.vm.length j3) (.slice i4 A.C.s.length j4) (.slice i5 A.A.s.length j5)) 51 true) := ⟨_, rfl⟩
    have x4 : Ext m3 m4 := by rw [hm4]; exact (Ext.new _ _).set (Nat.le_refl _)
    have g3 : m4.get b3 = some (.cells (letC A (.slice i1 A.E.args.length j1) (.slice i2 A.E.mem.length j2) (.slice i3 A.vm.length j3) (.slice i4 A.C.s.length j4) (.slice i5 A.A.s.length j5)) 51 true) := by rw [hm4, hb3, set_get]
    have hb34 : b3 < m4.next := by rw [hm4, hb3]; exact Nat.lt_succ_self _
    have g14 := (x4.2 m.next (by omega)).trans g13
    have X4 := X3.trans x4
    simp only [zCells] at hm4
    rw [← hm4]
    rw [← hb3]
    clear hm4
    refine lput_ret ⟨_, _, _, _, _, rfl, f3.pz x4.pz⟩ kA tA (fun h => (h cA).elim) (fun _ m5 r5 x5 y5 z5 q5 => ?_)
    have k4 := x4.1
    have k5 := x5.1
    have g15 := (x5.2 m.next (by omega)).trans g14
    have g35 := (x5.2 b3 hb34).trans g3
    have X5 := X4.trans x5
    simp only [wk6, Nat.reduceBEq, wk1, forall_eq, Nat.reduceAdd, reduceIte, Nat.reduceEqDiff, reduceCtorEq, opLen, Int.reduceLT, Int.reduceEq, opConvert, opIndexAddr, opLoad, Nat.reduceLT, undef, Nat.reduceLeDiff, Array.toList, wk4, wk5, wk0, fxC17LetterBack, g15]
    refine all_ret ⟨_, _, _, rfl, h.pz X5.pz⟩ ok fun m6 v6 x6 f6 => ?_
    simp only [wk6, Nat.reduceBEq, wk1, forall_eq, Nat.reduceAdd, reduceIte, Nat.reduceEqDiff, reduceCtorEq, opLen, Int.reduceLT, Int.reduceEq, opConvert, opIndexAddr, opLoad, Nat.reduceLT, undef, Nat.reduceLeDiff, Array.toList, wk4, wk5, wk0, fxC17LetterBack]
    refine lput_ret f6 oA.1 oA.2 (fun h => (h cS).elim) (fun _ m7 r7 x7 y7 z7 q7 => ?_)
    rw [← eSA] at q7 ⊢
    have k6 := x6.1
    have k7 := x7.1
    have x67 := x6.trans x7
    have g37 := (x67.2 b3 (by omega)).trans g35
    have q57 := (x67.2 r5 (by omega)).trans q5
    have X7 := X5.trans x67
    simp only [wk6, Nat.reduceBEq, wk1, forall_eq, Nat.reduceAdd, reduceIte, Nat.reduceEqDiff, reduceCtorEq, opLen, Int.reduceLT, Int.reduceEq, opConvert, opIndexAddr, opLoad, Nat.reduceLT, undef, Nat.reduceLeDiff, Array.toList, wk4, wk5, wk0, fxC17LetterBack]
    have B5 : Byr m7 r5 (letB A) := ⟨by omega, q57⟩
    refine ltake_ret (all := letB A) (fun M x => (B5.ext x).shows) (by omega) (letB_bytes FA kA tA) fun m8 v8 x8 f8 => ?_
    rw [tk] at f8 ⊢
    obtain ⟨ea, em, vm, ca, aa, rfl, f8⟩ := f8
    obtain ⟨s1, t1, rfl⟩ := f8.ea.is
    obtain ⟨s2, t2, rfl⟩ := f8.em.is
    obtain ⟨s3, t3, rfl⟩ := f8.vm.is
    obtain ⟨s4, t4, rfl⟩ := f8.ca.is
    obtain ⟨s5, t5, rfl⟩ := f8.aa.is
    have k8 := x8.1
    have g38 := (x8.2 b3 (by omega)).trans g37
    have q58 := (x8.2 r5 (by omega)).trans q57
    have q78 := (x8.2 r7 (by omega)).trans q7
    have X8 := X7.trans x8
    have hne8 : ¬ b3 = m8.next := by omega
    simp only [wk6, Nat.reduceBEq, wk1, forall_eq, Nat.reduceAdd, reduceIte, Nat.reduceEqDiff, reduceCtorEq, opLen, Int.reduceLT, Int.reduceEq, opConvert, opIndexAddr, opLoad, Nat.reduceLT, undef, Nat.reduceLeDiff, Array.toList, wk4, wk5, wk0, fxC17LetterBack]
    obtain ⟨b8, hb8⟩ : ∃ b, b = m8.next := ⟨_, rfl⟩
    obtain ⟨m9, hm9⟩ : ∃ M, M = (m8.new (.cells (zCells 0 0 0) 51 true)).set m8.next (.cells (letC A (.slice s1 A.E.args.length t1) (.slice s2 A.E.mem.length t2) (.slice s3 A.vm.length t3) (.slice s4 A.C.s.length t4) (.slice s5 A.A.s.length t5)) 51 true) := ⟨_, rfl⟩
    have x9 : Ext m8 m9 := by rw [hm9]; exact (Ext.new _ _).set (Nat.le_refl _)
    have g8 : m9.get b8 = some (.cells (letC A (.slice s1 A.E.args.length t1) (.slice s2 A.E.mem.length t2) (.slice s3 A.vm.length t3) (.slice s4 A.C.s.length t4) (.slice s5 A.A.s.length t5)) 51 true) := by rw [hm9, hb8, set_get]
    have hb89 : b8 < m9.next := by rw [hm9, hb8]; exact Nat.lt_succ_self _
    have g39 := (x9.2 b3 (by omega)).trans g38
    have q59 := (x9.2 r5 (by omega)).trans q58
    have q79 := (x9.2 r7 (by omega)).trans q78
    simp only [zCells] at hm9
    rw [← hm9]
    rw [← hb8]
    clear hm9
    have X9 := X8.trans x9
    have k9 := x9.1
    refine Loose.by (fun y => y = b3 ∨ y = r5) ?_
    simp only [wk6, Nat.reduceBEq, wk1, forall_eq, Nat.reduceAdd, reduceIte, Nat.reduceEqDiff, reduceCtorEq, opLen, Int.reduceLT, Int.reduceEq, opConvert, opIndexAddr, opLoad, Nat.reduceLT, undef, Nat.reduceLeDiff, Array.toList, wk4, wk5, wk0, fxC17LetterBack, g39, q59]
    have z39 := (((((x4.trans x5).trans x67).trans x8).trans x9)).pz
    have f39 := f3.pz z39
    have f89 : LetR m9 A (.slice s1 A.E.args.length t1) (.slice s2 A.E.mem.length t2) (.slice s3 A.vm.length t3) (.slice s4 A.C.s.length t4) (.slice s5 A.A.s.length t5) := LetR.pz f8 x9.pz
    refine lcheck_ret ⟨_, _, _, _, _, rfl, f39⟩ kA fun m10 x10 => ?_
    rw [cA]
    have k10 := x10.1
    have g310 := (x10.2 b3 (by omega)).trans g39
    have q510 := (x10.2 r5 (by omega)).trans q59
    have cv9 := conv_row q59
    have cv10 := conv_row q510
    simp only [wk6, Nat.reduceBEq, wk1, forall_eq, Nat.reduceAdd, reduceIte, Nat.reduceEqDiff, reduceCtorEq, opLen, Int.reduceLT, Int.reduceEq, opIndexAddr, opLoad, Nat.reduceLT, undef, Nat.reduceLeDiff, Array.toList, wk4, wk5, wk0, fxC17LetterBack, cv9, cv10, g39, q59, g310, q510]
    refine ⟨.inr trivial, meant_ret ⟨_, _, _, _, _, rfl, f39.pz x10.pz⟩ FA kA tA fun m11 r11 x11 y11 B11 => ?_⟩
    have k11 := x11.1
    have x1011 := x10.trans x11
    have g311 := (x1011.2 b3 (by omega)).trans g39
    have g811 := (x1011.2 b8 (by omega)).trans g8
    have q511 := (x1011.2 r5 (by omega)).trans q59
    have q711 := (x1011.2 r7 (by omega)).trans q79
    have cv511 := conv_row q511
    have cv711 := conv_row q711
    have cvB := conv_row B11.2
    have rw1 : rowV r11 (letB A) = .slice (some ⟨r11, 0, none⟩) (letB A).length 1 := rfl
    simp only [wk6, Nat.reduceBEq, wk1, forall_eq, Nat.reduceAdd, reduceIte, Nat.reduceEqDiff, reduceCtorEq, opLen, Int.reduceLT, Int.reduceEq, opIndexAddr, opLoad, Nat.reduceLT, undef, Nat.reduceLeDiff, Array.toList, wk4, wk5, wk0, fxC17LetterBack, rw1, cv9, cv10, cv511, cv711, cvB, g39, q59, g310, q510, g311, g811, q511, q711]
    refine lsame_ret ⟨_, _, _, _, _, rfl, f39.pz x1011.pz⟩ ⟨_, _, _, _, _, rfl, f89.pz x1011.pz⟩ kA fun m12 x12 => ?_
    rw [sameL_self]
    have k12 := x12.1
    have g312 := (x12.2 b3 (by omega)).trans g311
    have q512 := (x12.2 r5 (by omega)).trans q511
    have cv512 := conv_row q512
    simp only [wk6, Nat.reduceBEq, wk1, forall_eq, Nat.reduceAdd, reduceIte, Nat.reduceEqDiff, reduceCtorEq, opLen, Int.reduceLT, Int.reduceEq, opIndexAddr, opLoad, Nat.reduceLT, undef, Nat.reduceLeDiff, Array.toList, wk4, wk5, wk0, fxC17LetterBack, cv512, g39, q59, g310, q510, g311, q511, g312, q512]
    have x1012 := x1011.trans x12
    refine ⟨.inl trivial, by simp [veq, veqList, veqCell], only_ret ⟨_, _, _, _, _, rfl, f39.pz x1012.pz⟩ fun m13 v13 x13 f13 => ?_⟩
    rw [eA] at f13
    obtain ⟨ea, em, vm, ca, aa, rfl, f13⟩ := f13
    obtain ⟨o1, u1, rfl⟩ := f13.ea.is
    obtain ⟨o2, u2, rfl⟩ := f13.em.is
    obtain ⟨o3, u3, rfl⟩ := f13.vm.is
    obtain ⟨o4, u4, rfl⟩ := f13.ca.is
    obtain ⟨o5, u5, rfl⟩ := f13.aa.is
    have k13 := x13.1
    have g313 := (x13.2 b3 (by omega)).trans g312
    have q513 := (x13.2 r5 (by omega)).trans q512
    have x1013 := x1012.trans x13
    simp only [wk6, Nat.reduceBEq, wk1, forall_eq, Nat.reduceAdd, reduceIte, Nat.reduceEqDiff, reduceCtorEq, opLen, Int.reduceLT, Int.reduceEq, opIndexAddr, opLoad, Nat.reduceLT, undef, Nat.reduceLeDiff, Array.toList, wk4, wk5, wk0, fxC17LetterBack, g39, q59, g312, q512, g313, q513]
    refine lsame_ret ⟨_, _, _, _, _, rfl, f39.pz x1013.pz⟩ ⟨_, _, _, _, _, rfl, f13⟩ kA fun m14 x14 => ?_
    rw [sameL_self]
    have g314 := (x14.2 b3 (by omega)).trans g313
    have q514 := (x14.2 r5 (by omega)).trans q513
    simp only [wk6, Nat.reduceBEq, wk1, forall_eq, Nat.reduceAdd, reduceIte, Nat.reduceEqDiff, reduceCtorEq, opLen, Int.reduceLT, Int.reduceEq, opIndexAddr, opLoad, Nat.reduceLT, undef, Nat.reduceLeDiff, Array.toList, wk4, wk5, wk0, fxC17LetterBack, g39, q59, g312, q512, g313, q513, g314, q514]
  · have d1 := decide_eq_false l1
    simp only [wk6, Nat.reduceBEq, wk1, forall_eq, Nat.reduceAdd, reduceIte, Nat.reduceEqDiff, reduceCtorEq, opLen, Int.reduceLT, Int.reduceEq, opConvert, opIndexAddr, opLoad, Nat.reduceLT, undef, Nat.reduceLeDiff, Array.toList, wk4, wk5, wk0, fxC17LetterBack, d1]
theorem letterBack_true {H : Type} {m : Mem} {xs : List Value} {ds : List (DataW H)} (hd : IsDs Try.prog 8 [32] ds) (hl : LieAll Try.prog m [32] ds xs) : Ret Try.prog 3 xs m fun v _ => v = .bool true := by
  match ds, hd with
  | [d0], hd =>
    obtain ⟨i0, _⟩ := hd
    obtain ⟨v0, _, rfl, l0, rfl⟩ := hl
    obtain ⟨S, h, ok⟩ := small_of (k := 1) i0 l0
    exact back_ret h ok
end Go.Proofs.Ytejgoooanapjbaa
