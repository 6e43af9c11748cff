/- A text of the abstract machine. -/






/- Letters: put. -/
/- Letters: put, simp only [Nat.reduceAdd, reduceIte, Nat.reduceEqDiff, reduceCtorEq, opLen, Int.reduceLT, Int.reduceEq, opConvert, opIndexAddr, opLoad, Nat.reduceLT, undef, Nat.reduceLeDiff, Array.toList, wk4, wk5, wk0, fxC17p]ed. -/
import Derived.Test.YtejgoooanapjbaaAmC17l
import Derived.Test.YtejgoooanapjbaaAmBun
set_option linter.unusedSimpArgs false
set_option linter.unusedVariables false
set_option maxRecDepth 100000
set_option maxHeartbeats 4000000
namespace Go.Proofs.Ytejgoooanapjbaa
open Go Go.AM Go.AM.Crc Go.AM.Wire
theorem fxC17p : type_of% (And.intro (And.intro (And.intro (And.intro (And.intro (And.intro (And.intro @Try.underlying3 (And.intro @Try.underlying4 @Try.underlying5)) (And.intro (And.intro @Try.underlying9 @Try.underlying42) (And.intro @Try.underlying46 @Try.underlying47))) (And.intro (And.intro (And.intro @Try.underlying123 @Try.underlying23) (And.intro @Try.underlying26 @Try.underlying28)) (And.intro (And.intro @Try.underlying39 @Try.underlying41) (And.intro @Try.underlying44 @Try.underlying24)))) (And.intro (And.intro (And.intro (And.intro @Try.underlying37 @Try.underlying22) (And.intro @Try.underlying0 @Try.underlying100)) (And.intro (And.intro @Try.underlying66 @Try.underlying68) (And.intro @Try.underlying78 @Try.underlying103))) (And.intro (And.intro (And.intro @Try.underlying49 @Try.underlying34) (And.intro @Try.underlying36 @Try.underlying51)) (And.intro (And.intro @Try.underlying53 @Try.underlying55) (And.intro @Try.underlying88 @Try.underlying32))))) (And.intro (And.intro (And.intro (And.intro @Try.underlying30 (And.intro @Try.underlying61 @Try.underlying63)) (And.intro (And.intro @Try.underlying90 @Try.underlying92) (And.intro @Try.underlying94 @ts3))) (And.intro (And.intro (And.intro @ts4 @ts5) (And.intro @ts9 @ts42)) (And.intro (And.intro @ts46 @ts47) (And.intro @ts123 @ts23)))) (And.intro (And.intro (And.intro (And.intro @ts26 @ts28) (And.intro @ts39 @ts41)) (And.intro (And.intro @ts44 @ts24) (And.intro @ts37 @ts22))) (And.intro (And.intro (And.intro @ts0 @ts100) (And.intro @ts66 @ts68)) (And.intro (And.intro @ts78 @ts103) (And.intro @ts49 @ts34)))))) (And.intro (And.intro (And.intro (And.intro (And.intro @ts36 (And.intro @ts51 @ts53)) (And.intro (And.intro @ts55 @ts88) (And.intro @ts32 @ts30))) (And.intro (And.intro (And.intro @ts61 @ts63) (And.intro @ts90 @ts92)) (And.intro (And.intro @ts94 @tz3) (And.intro @tz4 @tz5)))) (And.intro (And.intro (And.intro (And.intro @tz9 @tz42) (And.intro @tz46 @tz47)) (And.intro (And.intro @tz123 @tz23) (And.intro @tz26 @tz28))) (And.intro (And.intro (And.intro @tz39 @tz41) (And.intro @tz44 @tz24)) (And.intro (And.intro @tz37 @tz22) (And.intro @tz0 @tz100))))) (And.intro (And.intro (And.intro (And.intro @tz66 (And.intro @tz68 @tz78)) (And.intro (And.intro @tz103 @tz49) (And.intro @tz34 @tz36))) (And.intro (And.intro (And.intro @tz51 @tz53) (And.intro @tz55 @tz88)) (And.intro (And.intro @tz32 @tz30) (And.intro @tz61 @tz63)))) (And.intro (And.intro (And.intro (And.intro @tz90 @tz92) (And.intro @tz94 @tb3)) (And.intro (And.intro @tb4 @tb5) (And.intro @tb9 @tb42))) (And.intro (And.intro (And.intro @tb46 @tb47) (And.intro @tb123 @tb23)) (And.intro (And.intro @tb26 @tb28) (And.intro @tb39 @tb41))))))) (And.intro (And.intro (And.intro (And.intro (And.intro (And.intro @tb44 (And.intro @tb24 @tb37)) (And.intro (And.intro @tb22 @tb0) (And.intro @tb100 @tb66))) (And.intro (And.intro (And.intro @tb68 @tb78) (And.intro @tb103 @tb49)) (And.intro (And.intro @tb34 @tb36) (And.intro @tb51 @tb53)))) (And.intro (And.intro (And.intro (And.intro @tb55 @tb88) (And.intro @tb32 @tb30)) (And.intro (And.intro @tb61 @tb63) (And.intro @tb90 @tb92))) (And.intro (And.intro (And.intro @tb94 @fr8) (And.intro @fr9 @fr10)) (And.intro (And.intro @fr11 @fr13) (And.intro @fr15 @fr16))))) (And.intro (And.intro (And.intro (And.intro @fr18 (And.intro @fr19 @fr20)) (And.intro (And.intro @fr21 @fr22) (And.intro @fr23 @fr24))) (And.intro (And.intro (And.intro @fr25 @fr26) (And.intro @fr27 @fr28)) (And.intro (And.intro @fr38 @fr39) (And.intro @fr40 @fr41)))) (And.intro (And.intro (And.intro (And.intro @fr42 @fr51) (And.intro @fr52 @fr53)) (And.intro (And.intro @fr54 @bz46) (And.intro @al46 @fa46_0))) (And.intro (And.intro (And.intro @fa46_1 @bz28) (And.intro @bz26 @bz41)) (And.intro (And.intro @bz44 @al41) (And.intro @al44 @fa44_0)))))) (And.intro (And.intro (And.intro (And.intro (And.intro @fa44_1 (And.intro @fa44_2 @fa41_0)) (And.intro (And.intro @fa41_1 @fa41_2) (And.intro @fa28_0 @fa28_1))) (And.intro (And.intro (And.intro @fa28_2 @fa26_0) (And.intro @fa26_1 @fa26_2)) (And.intro (And.intro @fa26_3 @bz103) (And.intro @al68 @al103)))) (And.intro (And.intro (And.intro (And.intro @fa68_0 @fa103_0) (And.intro @fa103_1 @fa103_2)) (And.intro (And.intro @bin_weq @bin_wneq) (And.intro @bin_req @bin_rneq))) (And.intro (And.intro (And.intro @bz39 @fa39_0) (And.intro @fa39_1 @bz68)) (And.intro (And.intro @bz49 @al49) (And.intro @fa49_0 @fa49_1))))) (And.intro (And.intro (And.intro (And.intro (And.intro @fa49_2 @bz51) (And.intro @al51 @fa51_0)) (And.intro (And.intro @fa51_1 @fa51_2) (And.intro @fa51_3 @fa51_4))) (And.intro (And.intro (And.intro @fa51_5 @fa51_6) (And.intro @fa51_7 @fa51_8)) (And.intro (And.intro @fa51_9 @fa51_10) (And.intro @fa51_11 @bz36)))) (And.intro (And.intro (And.intro (And.intro @al36 @fa36_0) (And.intro @fa36_1 @oneOf_two)) (And.intro (And.intro @al24 @al90) (And.intro @bz32 @set_set))) (And.intro (And.intro (And.intro @bldL3 @bldB) (And.intro @vqB @vqE)) (And.intro (And.intro @vqA @vqC) (And.intro @vqI @vqW)))))))) := (And.intro (And.intro (And.intro (And.intro (And.intro (And.intro (And.intro @Try.underlying3 (And.intro @Try.underlying4 @Try.underlying5)) (And.intro (And.intro @Try.underlying9 @Try.underlying42) (And.intro @Try.underlying46 @Try.underlying47))) (And.intro (And.intro (And.intro @Try.underlying123 @Try.underlying23) (And.intro @Try.underlying26 @Try.underlying28)) (And.intro (And.intro @Try.underlying39 @Try.underlying41) (And.intro @Try.underlying44 @Try.underlying24)))) (And.intro (And.intro (And.intro (And.intro @Try.underlying37 @Try.underlying22) (And.intro @Try.underlying0 @Try.underlying100)) (And.intro (And.intro @Try.underlying66 @Try.underlying68) (And.intro @Try.underlying78 @Try.underlying103))) (And.intro (And.intro (And.intro @Try.underlying49 @Try.underlying34) (And.intro @Try.underlying36 @Try.underlying51)) (And.intro (And.intro @Try.underlying53 @Try.underlying55) (And.intro @Try.underlying88 @Try.underlying32))))) (And.intro (And.intro (And.intro (And.intro @Try.underlying30 (And.intro @Try.underlying61 @Try.underlying63)) (And.intro (And.intro @Try.underlying90 @Try.underlying92) (And.intro @Try.underlying94 @ts3))) (And.intro (And.intro (And.intro @ts4 @ts5) (And.intro @ts9 @ts42)) (And.intro (And.intro @ts46 @ts47) (And.intro @ts123 @ts23)))) (And.intro (And.intro (And.intro (And.intro @ts26 @ts28) (And.intro @ts39 @ts41)) (And.intro (And.intro @ts44 @ts24) (And.intro @ts37 @ts22))) (And.intro (And.intro (And.intro @ts0 @ts100) (And.intro @ts66 @ts68)) (And.intro (And.intro @ts78 @ts103) (And.intro @ts49 @ts34)))))) (And.intro (And.intro (And.intro (And.intro (And.intro @ts36 (And.intro @ts51 @ts53)) (And.intro (And.intro @ts55 @ts88) (And.intro @ts32 @ts30))) (And.intro (And.intro (And.intro @ts61 @ts63) (And.intro @ts90 @ts92)) (And.intro (And.intro @ts94 @tz3) (And.intro @tz4 @tz5)))) (And.intro (And.intro (And.intro (And.intro @tz9 @tz42) (And.intro @tz46 @tz47)) (And.intro (And.intro @tz123 @tz23) (And.intro @tz26 @tz28))) (And.intro (And.intro (And.intro @tz39 @tz41) (And.intro @tz44 @tz24)) (And.intro (And.intro @tz37 @tz22) (And.intro @tz0 @tz100))))) (And.intro (And.intro (And.intro (And.intro @tz66 (And.intro @tz68 @tz78)) (And.intro (And.intro @tz103 @tz49) (And.intro @tz34 @tz36))) (And.intro (And.intro (And.intro @tz51 @tz53) (And.intro @tz55 @tz88)) (And.intro (And.intro @tz32 @tz30) (And.intro @tz61 @tz63)))) (And.intro (And.intro (And.intro (And.intro @tz90 @tz92) (And.intro @tz94 @tb3)) (And.intro (And.intro @tb4 @tb5) (And.intro @tb9 @tb42))) (And.intro (And.intro (And.intro @tb46 @tb47) (And.intro @tb123 @tb23)) (And.intro (And.intro @tb26 @tb28) (And.intro @tb39 @tb41))))))) (And.intro (And.intro (And.intro (And.intro (And.intro (And.intro @tb44 (And.intro @tb24 @tb37)) (And.intro (And.intro @tb22 @tb0) (And.intro @tb100 @tb66))) (And.intro (And.intro (And.intro @tb68 @tb78) (And.intro @tb103 @tb49)) (And.intro (And.intro @tb34 @tb36) (And.intro @tb51 @tb53)))) (And.intro (And.intro (And.intro (And.intro @tb55 @tb88) (And.intro @tb32 @tb30)) (And.intro (And.intro @tb61 @tb63) (And.intro @tb90 @tb92))) (And.intro (And.intro (And.intro @tb94 @fr8) (And.intro @fr9 @fr10)) (And.intro (And.intro @fr11 @fr13) (And.intro @fr15 @fr16))))) (And.intro (And.intro (And.intro (And.intro @fr18 (And.intro @fr19 @fr20)) (And.intro (And.intro @fr21 @fr22) (And.intro @fr23 @fr24))) (And.intro (And.intro (And.intro @fr25 @fr26) (And.intro @fr27 @fr28)) (And.intro (And.intro @fr38 @fr39) (And.intro @fr40 @fr41)))) (And.intro (And.intro (And.intro (And.intro @fr42 @fr51) (And.intro @fr52 @fr53)) (And.intro (And.intro @fr54 @bz46) (And.intro @al46 @fa46_0))) (And.intro (And.intro (And.intro @fa46_1 @bz28) (And.intro @bz26 @bz41)) (And.intro (And.intro @bz44 @al41) (And.intro @al44 @fa44_0)))))) (And.intro (And.intro (And.intro (And.intro (And.intro @fa44_1 (And.intro @fa44_2 @fa41_0)) (And.intro (And.intro @fa41_1 @fa41_2) (And.intro @fa28_0 @fa28_1))) (And.intro (And.intro (And.intro @fa28_2 @fa26_0) (And.intro @fa26_1 @fa26_2)) (And.intro (And.intro @fa26_3 @bz103) (And.intro @al68 @al103)))) (And.intro (And.intro (And.intro (And.intro @fa68_0 @fa103_0) (And.intro @fa103_1 @fa103_2)) (And.intro (And.intro @bin_weq @bin_wneq) (And.intro @bin_req @bin_rneq))) (And.intro (And.intro (And.intro @bz39 @fa39_0) (And.intro @fa39_1 @bz68)) (And.intro (And.intro @bz49 @al49) (And.intro @fa49_0 @fa49_1))))) (And.intro (And.intro (And.intro (And.intro (And.intro @fa49_2 @bz51) (And.intro @al51 @fa51_0)) (And.intro (And.intro @fa51_1 @fa51_2) (And.intro @fa51_3 @fa51_4))) (And.intro (And.intro (And.intro @fa51_5 @fa51_6) (And.intro @fa51_7 @fa51_8)) (And.intro (And.intro @fa51_9 @fa51_10) (And.intro @fa51_11 @bz36)))) (And.intro (And.intro (And.intro (And.intro @al36 @fa36_0) (And.intro @fa36_1 @oneOf_two)) (And.intro (And.intro @al24 @al90) (And.intro @bz32 @set_set))) (And.intro (And.intro (And.intro @bldL3 @bldB) (And.intro @vqB @vqE)) (And.intro (And.intro @vqA @vqC) (And.intro @vqI @vqW))))))))
theorem lput_ret {m : Mem} {v : Value} {L : Let} (h : LetF m v L) (ok : Ok L) (ty : Ty L) {K : Value → Mem → Prop} (hK0 : lck L ≠ 0 → ∀ m', Ext m m' → K (.tuple #[.slice none 0 0, .int .i64 (lck L)]) m')
    (hK1 : lck L = 0 → ∀ m' r', Ext m m' → m.next ≤ r' → r' < m'.next → m'.get r' = some (.cells (byteCells (letB L)) 5 true) → K (.tuple #[.slice (some ⟨r', 0, none⟩) (letB L).length 1, .int .i64 0]) m') : Ret Try.prog 10 [v] m K := by
  obtain ⟨ea, em, vm, ca, aa, rfl, h⟩ := h
  obtain ⟨a1, z1, rfl⟩ := h.ea.is
  obtain ⟨a2, z2, rfl⟩ := h.em.is
  obtain ⟨a3, z3, rfl⟩ := h.vm.is
  obtain ⟨a4, z4, rfl⟩ := h.ca.is
  obtain ⟨a5, z5, rfl⟩ := h.aa.is
  refine ret_wp [] Try.func10 rfl (by decide) (by kernel_rfl) ?_
  simp only [Nat.reduceAdd, reduceIte, Nat.reduceEqDiff, reduceCtorEq, opLen, Int.reduceLT, Int.reduceEq, opConvert, opIndexAddr, opLoad, Nat.reduceLT, undef, Nat.reduceLeDiff, Array.toList, wk4, wk5, wk0, fxC17p]
  obtain ⟨Z, hZ⟩ : ∃ Z, Z = letC L (.slice a1 L.E.args.length z1) (.slice a2 L.E.mem.length z2) (.slice a3 L.vm.length z3) (.slice a4 L.C.s.length z4) (.slice a5 L.A.s.length z5) := ⟨_, rfl⟩
  obtain ⟨m0, hm0⟩ : ∃ m0, m0 = m.new (.cells Z 51 true) := ⟨_, rfl⟩
  have x0 : Ext m m0 := by rw [hm0]; exact Ext.new _ _
  have g0 : m0.get m.next = some (.cells Z 51 true) := by rw [hm0, new_get]
  have n0 : m0.next = m.next + 1 := by rw [hm0]; rfl
  rw [hZ] at hm0
  rw [← hm0]
  clear hm0
  refine lcheck_ret ⟨_, _, _, _, _, rfl, h.pz x0.pz⟩ ok fun m1 x1 => ?_
  have X1 := x0.trans x1
  have g1 := (x1.2 m.next (by omega)).trans g0
  have n1 := x1.1
  by_cases e : lck L = 0
  · have F := lfit_of ok ty e
    rw [e] at hK1 ⊢
    obtain ⟨ck, cf, ct, cp, cb, cw, cE, cvn, cvm⟩ := id F
    have hne : ¬ m.next = m1.next := by omega
    have ek := u16_id (x := L.kd) (by omega)
    rw [hZ] at g1
    simp only [Nat.reduceAdd, reduceIte, Nat.reduceEqDiff, reduceCtorEq, opLen, Int.reduceLT, Int.reduceEq, opConvert, opIndexAddr, opLoad, Nat.reduceLT, undef, Nat.reduceLeDiff, Array.toList, wk4, wk5, wk0, fxC17p, g1, hne, ek]
    obtain ⟨i, hi0⟩ : ∃ i, i = m1.next := ⟨_, rfl⟩
    obtain ⟨m2, hm2⟩ : ∃ m2, m2 = m1.new (.cells [.slice none 0 0] 68 true) := ⟨_, rfl⟩
    have W : WS m2 i m2 [] := by rw [hm2, hi0]; exact ⟨m1.next, Wr.made, .inl rfl, Fr2.refl⟩
    have x2 : Ext m1 m2 := by rw [hm2]; exact Ext.new _ _
    have g2 : m2.get m.next = some (.cells Z 51 true) := (x2.2 m.next (by omega)).trans (by rw [hZ]; exact g1)
    have xm := X1.trans x2
    have hi : m.next ≤ i := by omega
    have n2 : m.next < m2.next := by have := x2.1; omega
    rw [← hm2, ← hi0]
    clear hm2
    have G : ∀ {M bs}, WS m2 i M bs → M.get m.next = some (.cells Z 51 true) := fun W => (W.at n2 (by omega)).trans g2
    have H : ∀ {M bs}, WS m2 i M bs → Ext m M := fun W => W.ext xm hi
    rw [hZ] at G
    have ef := u16_id (x := L.fr) (by omega)
    have et := u16_id (x := L.to) (by omega)
    refine ws_word W (by omega) (by simp) fun M W => ?_
    have g := G W
    simp only [Nat.reduceAdd, reduceIte, Nat.reduceEqDiff, reduceCtorEq, opLen, Int.reduceLT, Int.reduceEq, opConvert, opIndexAddr, opLoad, Nat.reduceLT, undef, Nat.reduceLeDiff, Array.toList, wk4, wk5, wk0, fxC17p, g, ef]
    refine ws_word W (by omega) (by simp [wordB_length]) fun M W => ?_
    have g := G W
    simp only [Nat.reduceAdd, reduceIte, Nat.reduceEqDiff, reduceCtorEq, opLen, Int.reduceLT, Int.reduceEq, opConvert, opIndexAddr, opLoad, Nat.reduceLT, undef, Nat.reduceLeDiff, Array.toList, wk4, wk5, wk0, fxC17p, g, et]
    refine ws_word W (by omega) (by simp [wordB_length]) fun M W => ?_
    have g := G W
    have e0 : letB L = [] ++ wordB L.kd ++ wordB L.fr ++ wordB L.to ++ bodyB L := by simp only [letB, List.append_assoc, List.nil_append]
    have k8 : L.kd = 0 ∨ L.kd = 3 ∨ L.kd = 1 ∨ L.kd = 2 ∨ L.kd = 4 ∨ L.kd = 5 ∨ L.kd = 6 ∨ L.kd = 7 := by omega
    obtain ⟨B, hB⟩ : ∃ B, B = [] ++ wordB L.kd ++ wordB L.fr ++ wordB L.to := ⟨_, rfl⟩
    have hBl : B.length = 6 := by rw [hB]; rfl
    rw [← hB] at W e0
    clear hB
    unfold bodyB at e0
    rcases k8 with k | k | k | k | k | k | k | k
    · rw [if_pos (.inl k)] at e0
      have ep := u32_id (cp (by omega))
      simp only [Nat.reduceAdd, reduceIte, Nat.reduceEqDiff, reduceCtorEq, opLen, Int.reduceLT, Int.reduceEq, opConvert, opIndexAddr, opLoad, Nat.reduceLT, undef, Nat.reduceLeDiff, Array.toList, wk4, wk5, wk0, fxC17p, g, k, ep]
      refine ws_long W (cp (by omega)) (by omega) fun M W => ?_
      have g := G W
      simp only [Nat.reduceAdd, reduceIte, Nat.reduceEqDiff, reduceCtorEq, opLen, Int.reduceLT, Int.reduceEq, opConvert, opIndexAddr, opLoad, Nat.reduceLT, undef, Nat.reduceLeDiff, Array.toList, wk4, wk5, wk0, fxC17p, g]
      refine ws_bal W (cb (by omega)) (by simp only [List.length_append, longB_length]; omega) fun M W => ?_
      simp only [Nat.reduceAdd, reduceIte, Nat.reduceEqDiff, reduceCtorEq, opLen, Int.reduceLT, Int.reduceEq, opConvert, opIndexAddr, opLoad, Nat.reduceLT, undef, Nat.reduceLeDiff, Array.toList, wk4, wk5, wk0, fxC17p]
      have eB : letB L = B ++ longB L.pl ++ balB L.br L.bn := by rw [e0]; simp only [List.append_assoc]
      obtain ⟨r, w, y, f⟩ := W
      have X := WS.ext ⟨r, w, y, f⟩ xm hi
      refine bytes_ret w (by have := letB_len F ok; rw [eB] at this; omega) fun M' r' x' y' z' g' => ?_
      rw [← eB] at g' ⊢
      simp only [Nat.reduceAdd, reduceIte, Nat.reduceEqDiff, reduceCtorEq, opLen, Int.reduceLT, Int.reduceEq, opConvert, opIndexAddr, opLoad, Nat.reduceLT, undef, Nat.reduceLeDiff, Array.toList, wk4, wk5, wk0, fxC17p]
      exact hK1 rfl _ r' (X.trans x') (Nat.le_trans X.1 y') z' g'
    · rw [if_pos (.inr k)] at e0
      have ep := u32_id (cp (by omega))
      simp only [Nat.reduceAdd, reduceIte, Nat.reduceEqDiff, reduceCtorEq, opLen, Int.reduceLT, Int.reduceEq, opConvert, opIndexAddr, opLoad, Nat.reduceLT, undef, Nat.reduceLeDiff, Array.toList, wk4, wk5, wk0, fxC17p, g, k, ep]
      refine ws_long W (cp (by omega)) (by omega) fun M W => ?_
      have g := G W
      simp only [Nat.reduceAdd, reduceIte, Nat.reduceEqDiff, reduceCtorEq, opLen, Int.reduceLT, Int.reduceEq, opConvert, opIndexAddr, opLoad, Nat.reduceLT, undef, Nat.reduceLeDiff, Array.toList, wk4, wk5, wk0, fxC17p, g]
      refine ws_bal W (cb (by omega)) (by simp only [List.length_append, longB_length]; omega) fun M W => ?_
      simp only [Nat.reduceAdd, reduceIte, Nat.reduceEqDiff, reduceCtorEq, opLen, Int.reduceLT, Int.reduceEq, opConvert, opIndexAddr, opLoad, Nat.reduceLT, undef, Nat.reduceLeDiff, Array.toList, wk4, wk5, wk0, fxC17p]
      have eB : letB L = B ++ longB L.pl ++ balB L.br L.bn := by rw [e0]; simp only [List.append_assoc]
      obtain ⟨r, w, y, f⟩ := W
      have X := WS.ext ⟨r, w, y, f⟩ xm hi
      refine bytes_ret w (by have := letB_len F ok; rw [eB] at this; omega) fun M' r' x' y' z' g' => ?_
      rw [← eB] at g' ⊢
      simp only [Nat.reduceAdd, reduceIte, Nat.reduceEqDiff, reduceCtorEq, opLen, Int.reduceLT, Int.reduceEq, opConvert, opIndexAddr, opLoad, Nat.reduceLT, undef, Nat.reduceLeDiff, Array.toList, wk4, wk5, wk0, fxC17p]
      exact hK1 rfl _ r' (X.trans x') (Nat.le_trans X.1 y') z' g'
    · rw [if_neg (by omega), if_pos k] at e0
      have ep := u32_id (cp (by omega))
      simp only [Nat.reduceAdd, reduceIte, Nat.reduceEqDiff, reduceCtorEq, opLen, Int.reduceLT, Int.reduceEq, opConvert, opIndexAddr, opLoad, Nat.reduceLT, undef, Nat.reduceLeDiff, Array.toList, wk4, wk5, wk0, fxC17p, g, k, ep]
      refine ws_long W (cp (by omega)) (by omega) fun M W => ?_
      have g := G W
      simp only [Nat.reduceAdd, reduceIte, Nat.reduceEqDiff, reduceCtorEq, opLen, Int.reduceLT, Int.reduceEq, opConvert, opIndexAddr, opLoad, Nat.reduceLT, undef, Nat.reduceLeDiff, Array.toList, wk4, wk5, wk0, fxC17p, g]
      refine ws_bal W (cb (by omega)) (by simp only [List.length_append, longB_length]; omega) fun M W => ?_
      have g := G W
      cases hs : L.sm with
      | false =>
        rw [if_neg (by rw [hs]; decide)] at e0
        simp only [Nat.reduceAdd, reduceIte, Nat.reduceEqDiff, reduceCtorEq, opLen, Int.reduceLT, Int.reduceEq, opConvert, opIndexAddr, opLoad, Nat.reduceLT, undef, Nat.reduceLeDiff, Array.toList, wk4, wk5, wk0, fxC17p, g, hs]
        refine ws_word W (by omega) (by simp only [List.length_append, longB_length, balB_length]; omega) fun M W => ?_
        simp only [Nat.reduceAdd, reduceIte, Nat.reduceEqDiff, reduceCtorEq, opLen, Int.reduceLT, Int.reduceEq, opConvert, opIndexAddr, opLoad, Nat.reduceLT, undef, Nat.reduceLeDiff, Array.toList, wk4, wk5, wk0, fxC17p]
        have eB : letB L = B ++ longB L.pl ++ balB L.br L.bn ++ wordB 0 := by rw [e0]; simp only [List.append_assoc]
        obtain ⟨r, w, y, f⟩ := W
        have X := WS.ext ⟨r, w, y, f⟩ xm hi
        refine bytes_ret w (by have := letB_len F ok; rw [eB] at this; omega) fun M' r' x' y' z' g' => ?_
        rw [← eB] at g' ⊢
        simp only [Nat.reduceAdd, reduceIte, Nat.reduceEqDiff, reduceCtorEq, opLen, Int.reduceLT, Int.reduceEq, opConvert, opIndexAddr, opLoad, Nat.reduceLT, undef, Nat.reduceLeDiff, Array.toList, wk4, wk5, wk0, fxC17p]
        exact hK1 rfl _ r' (X.trans x') (Nat.le_trans X.1 y') z' g'
      | true =>
        rw [if_pos hs] at e0
        simp only [Nat.reduceAdd, reduceIte, Nat.reduceEqDiff, reduceCtorEq, opLen, Int.reduceLT, Int.reduceEq, opConvert, opIndexAddr, opLoad, Nat.reduceLT, undef, Nat.reduceLeDiff, Array.toList, wk4, wk5, wk0, fxC17p, g, hs]
        refine ws_word W (by omega) (by simp only [List.length_append, longB_length, balB_length]; omega) fun M W => ?_
        have g := G W
        simp only [Nat.reduceAdd, reduceIte, Nat.reduceEqDiff, reduceCtorEq, opLen, Int.reduceLT, Int.reduceEq, opConvert, opIndexAddr, opLoad, Nat.reduceLT, undef, Nat.reduceLeDiff, Array.toList, wk4, wk5, wk0, fxC17p, g]
        refine ws_bal W (cw k hs) (by simp only [List.length_append, longB_length, balB_length, wordB_length]; omega) fun M W => ?_
        have g := G W
        simp only [Nat.reduceAdd, reduceIte, Nat.reduceEqDiff, reduceCtorEq, opLen, Int.reduceLT, Int.reduceEq, opConvert, opIndexAddr, opLoad, Nat.reduceLT, undef, Nat.reduceLeDiff, Array.toList, wk4, wk5, wk0, fxC17p, g]
        refine ws_ent W (cE (.inl ⟨k, hs⟩)) ⟨_, _, rfl, h.ea.pz (H W).pz, h.em.pz (H W).pz⟩ (by simp only [List.length_append, longB_length, balB_length, wordB_length]; omega) fun M W => ?_
        simp only [Nat.reduceAdd, reduceIte, Nat.reduceEqDiff, reduceCtorEq, opLen, Int.reduceLT, Int.reduceEq, opConvert, opIndexAddr, opLoad, Nat.reduceLT, undef, Nat.reduceLeDiff, Array.toList, wk4, wk5, wk0, fxC17p]
        have eB : letB L = B ++ longB L.pl ++ balB L.br L.bn ++ wordB 1 ++ balB L.wr L.wn ++ entB L.E := by rw [e0]; simp only [List.append_assoc]
        obtain ⟨r, w, y, f⟩ := W
        have X := WS.ext ⟨r, w, y, f⟩ xm hi
        refine bytes_ret w (by have := letB_len F ok; rw [eB] at this; omega) fun M' r' x' y' z' g' => ?_
        rw [← eB] at g' ⊢
        simp only [Nat.reduceAdd, reduceIte, Nat.reduceEqDiff, reduceCtorEq, opLen, Int.reduceLT, Int.reduceEq, opConvert, opIndexAddr, opLoad, Nat.reduceLT, undef, Nat.reduceLeDiff, Array.toList, wk4, wk5, wk0, fxC17p]
        exact hK1 rfl _ r' (X.trans x') (Nat.le_trans X.1 y') z' g'
    · rw [if_neg (by omega), if_neg (by omega), if_pos k] at e0
      have ep := u32_id (cp (by omega))
      simp only [Nat.reduceAdd, reduceIte, Nat.reduceEqDiff, reduceCtorEq, opLen, Int.reduceLT, Int.reduceEq, opConvert, opIndexAddr, opLoad, Nat.reduceLT, undef, Nat.reduceLeDiff, Array.toList, wk4, wk5, wk0, fxC17p, g, k, ep]
      refine ws_long W (cp (by omega)) (by omega) fun M W => ?_
      have g := G W
      simp only [Nat.reduceAdd, reduceIte, Nat.reduceEqDiff, reduceCtorEq, opLen, Int.reduceLT, Int.reduceEq, opConvert, opIndexAddr, opLoad, Nat.reduceLT, undef, Nat.reduceLeDiff, Array.toList, wk4, wk5, wk0, fxC17p, g]
      refine ws_bal W (cb (by omega)) (by simp only [List.length_append, longB_length]; omega) fun M W => ?_
      have g := G W
      simp only [Nat.reduceAdd, reduceIte, Nat.reduceEqDiff, reduceCtorEq, opLen, Int.reduceLT, Int.reduceEq, opConvert, opIndexAddr, opLoad, Nat.reduceLT, undef, Nat.reduceLeDiff, Array.toList, wk4, wk5, wk0, fxC17p, g]
      refine ws_ent W (cE (.inr (.inl k))) ⟨_, _, rfl, h.ea.pz (H W).pz, h.em.pz (H W).pz⟩ (by simp only [List.length_append, longB_length, balB_length, wordB_length]; omega) fun M W => ?_
      simp only [Nat.reduceAdd, reduceIte, Nat.reduceEqDiff, reduceCtorEq, opLen, Int.reduceLT, Int.reduceEq, opConvert, opIndexAddr, opLoad, Nat.reduceLT, undef, Nat.reduceLeDiff, Array.toList, wk4, wk5, wk0, fxC17p]
      have eB : letB L = B ++ longB L.pl ++ balB L.br L.bn ++ entB L.E := by rw [e0]; simp only [List.append_assoc]
      obtain ⟨r, w, y, f⟩ := W
      have X := WS.ext ⟨r, w, y, f⟩ xm hi
      refine bytes_ret w (by have := letB_len F ok; rw [eB] at this; omega) fun M' r' x' y' z' g' => ?_
      rw [← eB] at g' ⊢
      simp only [Nat.reduceAdd, reduceIte, Nat.reduceEqDiff, reduceCtorEq, opLen, Int.reduceLT, Int.reduceEq, opConvert, opIndexAddr, opLoad, Nat.reduceLT, undef, Nat.reduceLeDiff, Array.toList, wk4, wk5, wk0, fxC17p]
      exact hK1 rfl _ r' (X.trans x') (Nat.le_trans X.1 y') z' g'
    · rw [if_neg (by omega), if_neg (by omega), if_neg (by omega), if_pos k] at e0
      have ep := u32_id (cp (by omega))
      simp only [Nat.reduceAdd, reduceIte, Nat.reduceEqDiff, reduceCtorEq, opLen, Int.reduceLT, Int.reduceEq, opConvert, opIndexAddr, opLoad, Nat.reduceLT, undef, Nat.reduceLeDiff, Array.toList, wk4, wk5, wk0, fxC17p, g, k, ep]
      refine ws_long W (cp (by omega)) (by omega) fun M W => ?_
      have g := G W
      simp only [Nat.reduceAdd, reduceIte, Nat.reduceEqDiff, reduceCtorEq, opLen, Int.reduceLT, Int.reduceEq, opConvert, opIndexAddr, opLoad, Nat.reduceLT, undef, Nat.reduceLeDiff, Array.toList, wk4, wk5, wk0, fxC17p, g]
      refine ws_ent W (cE (.inr (.inr k))) ⟨_, _, rfl, h.ea.pz (H W).pz, h.em.pz (H W).pz⟩ (by simp only [List.length_append, longB_length, balB_length, wordB_length]; omega) fun M W => ?_
      simp only [Nat.reduceAdd, reduceIte, Nat.reduceEqDiff, reduceCtorEq, opLen, Int.reduceLT, Int.reduceEq, opConvert, opIndexAddr, opLoad, Nat.reduceLT, undef, Nat.reduceLeDiff, Array.toList, wk4, wk5, wk0, fxC17p]
      have eB : letB L = B ++ longB L.pl ++ entB L.E := by rw [e0]; simp only [List.append_assoc]
      obtain ⟨r, w, y, f⟩ := W
      have X := WS.ext ⟨r, w, y, f⟩ xm hi
      refine bytes_ret w (by have := letB_len F ok; rw [eB] at this; omega) fun M' r' x' y' z' g' => ?_
      rw [← eB] at g' ⊢
      simp only [Nat.reduceAdd, reduceIte, Nat.reduceEqDiff, reduceCtorEq, opLen, Int.reduceLT, Int.reduceEq, opConvert, opIndexAddr, opLoad, Nat.reduceLT, undef, Nat.reduceLeDiff, Array.toList, wk4, wk5, wk0, fxC17p]
      exact hK1 rfl _ r' (X.trans x') (Nat.le_trans X.1 y') z' g'
    · rw [if_neg (by omega), if_neg (by omega), if_neg (by omega), if_neg (by omega), if_pos k] at e0
      have ep := u32_id (cp (by omega))
      simp only [Nat.reduceAdd, reduceIte, Nat.reduceEqDiff, reduceCtorEq, opLen, Int.reduceLT, Int.reduceEq, opConvert, opIndexAddr, opLoad, Nat.reduceLT, undef, Nat.reduceLeDiff, Array.toList, wk4, wk5, wk0, fxC17p, g, k, ep]
      refine ws_long W (cp (by omega)) (by omega) fun M W => ?_
      simp only [Nat.reduceAdd, reduceIte, Nat.reduceEqDiff, reduceCtorEq, opLen, Int.reduceLT, Int.reduceEq, opConvert, opIndexAddr, opLoad, Nat.reduceLT, undef, Nat.reduceLeDiff, Array.toList, wk4, wk5, wk0, fxC17p]
      have eB : letB L = B ++ longB L.pl := by rw [e0]
      obtain ⟨r, w, y, f⟩ := W
      have X := WS.ext ⟨r, w, y, f⟩ xm hi
      refine bytes_ret w (by have := letB_len F ok; rw [eB] at this; omega) fun M' r' x' y' z' g' => ?_
      rw [← eB] at g' ⊢
      simp only [Nat.reduceAdd, reduceIte, Nat.reduceEqDiff, reduceCtorEq, opLen, Int.reduceLT, Int.reduceEq, opConvert, opIndexAddr, opLoad, Nat.reduceLT, undef, Nat.reduceLeDiff, Array.toList, wk4, wk5, wk0, fxC17p]
      exact hK1 rfl _ r' (X.trans x') (Nat.le_trans X.1 y') z' g'
    · rw [if_neg (by omega), if_neg (by omega), if_neg (by omega), if_neg (by omega), if_neg (by omega), if_pos k] at e0
      simp only [Nat.reduceAdd, reduceIte, Nat.reduceEqDiff, reduceCtorEq, opLen, Int.reduceLT, Int.reduceEq, opConvert, opIndexAddr, opLoad, Nat.reduceLT, undef, Nat.reduceLeDiff, Array.toList, wk4, wk5, wk0, fxC17p, g, k]
      refine ws_call W (h.ca.pz (H W).pz) ty.ct ty.cn ok.cp ty.cb (by omega) ok.cs fun M W => ?_
      simp only [Nat.reduceAdd, reduceIte, Nat.reduceEqDiff, reduceCtorEq, opLen, Int.reduceLT, Int.reduceEq, opConvert, opIndexAddr, opLoad, Nat.reduceLT, undef, Nat.reduceLeDiff, Array.toList, wk4, wk5, wk0, fxC17p]
      have eB : letB L = B ++ callB L.C.t L.C.n L.C.p L.C.s := by rw [e0]
      obtain ⟨r, w, y, f⟩ := W
      have X := WS.ext ⟨r, w, y, f⟩ xm hi
      refine bytes_ret w (by have := letB_len F ok; rw [eB] at this; omega) fun M' r' x' y' z' g' => ?_
      rw [← eB] at g' ⊢
      simp only [Nat.reduceAdd, reduceIte, Nat.reduceEqDiff, reduceCtorEq, opLen, Int.reduceLT, Int.reduceEq, opConvert, opIndexAddr, opLoad, Nat.reduceLT, undef, Nat.reduceLeDiff, Array.toList, wk4, wk5, wk0, fxC17p]
      exact hK1 rfl _ r' (X.trans x') (Nat.le_trans X.1 y') z' g'
    · rw [if_neg (by omega), if_neg (by omega), if_neg (by omega), if_neg (by omega), if_neg (by omega), if_neg (by omega)] at e0
      have hm := memCk_fit (cvm k)
      have ev := u32_id (cvn k)
      have el : IntKind.u16.wrap (L.vm.length : Int) = L.vm.length := u16_id (by omega)
      simp only [Nat.reduceAdd, reduceIte, Nat.reduceEqDiff, reduceCtorEq, opLen, Int.reduceLT, Int.reduceEq, opConvert, opIndexAddr, opLoad, Nat.reduceLT, undef, Nat.reduceLeDiff, Array.toList, wk4, wk5, wk0, fxC17p, g, k]
      refine ws_word W ty.it (by omega) fun M W => ?_
      have g := G W
      simp only [Nat.reduceAdd, reduceIte, Nat.reduceEqDiff, reduceCtorEq, opLen, Int.reduceLT, Int.reduceEq, opConvert, opIndexAddr, opLoad, Nat.reduceLT, undef, Nat.reduceLeDiff, Array.toList, wk4, wk5, wk0, fxC17p, g]
      refine ws_word W ty.nn (by simp only [List.length_append, wordB_length]; omega) fun M W => ?_
      have g := G W
      simp only [Nat.reduceAdd, reduceIte, Nat.reduceEqDiff, reduceCtorEq, opLen, Int.reduceLT, Int.reduceEq, opConvert, opIndexAddr, opLoad, Nat.reduceLT, undef, Nat.reduceLeDiff, Array.toList, wk4, wk5, wk0, fxC17p, g, ev]
      refine ws_long W (cvn k) (by simp only [List.length_append, wordB_length]; omega) fun M W => ?_
      have g := G W
      have lv : opLen Try.prog (some 42) (.slice a3 L.vm.length z3) = some (.int .i64 L.vm.length) := h.vm.len Try.underlying42
      simp only [Nat.reduceAdd, reduceIte, Nat.reduceEqDiff, reduceCtorEq, Int.reduceLT, Int.reduceEq, opConvert, opIndexAddr, opLoad, Nat.reduceLT, undef, Nat.reduceLeDiff, Array.toList, wk4, wk5, wk0, fxC17p, g, lv, el]
      refine ws_word W (by omega) (by simp only [List.length_append, wordB_length, longB_length]; omega) fun M W => ?_
      have g := G W
      simp only [Nat.reduceAdd, reduceIte, Nat.reduceEqDiff, reduceCtorEq, Int.reduceLT, Int.reduceEq, opConvert, opIndexAddr, opLoad, Nat.reduceLT, undef, Nat.reduceLeDiff, Array.toList, wk4, wk5, wk0, fxC17p, g, lv]
      obtain ⟨C, hC⟩ : ∃ C, C = B ++ wordB L.it ++ wordB L.nn ++ longB L.vn ++ wordB L.vm.length := ⟨_, rfl⟩
      have hCl : C.length = 16 := by rw [hC]; simp only [List.length_append, wordB_length, longB_length]; omega
      rw [← hC] at W
      refine loop_wp [] (by kernel_rfl) (fun k env μ => ∃ (j : Nat) (bs : List Int), k + j = L.vm.length ∧ bs = C ++ (L.vm.take j).flatMap wordB ∧ bs.length = C.length + j * 2 ∧ WS m2 i μ bs ∧ env 1 = some (.pointer (some ⟨m.next, 0, none⟩)) ∧ env 5 = some (.pointer (some ⟨i, 0, none⟩)) ∧ env 136 = some (.slice a3 L.vm.length z3) ∧ env 137 = some (.int .i64 L.vm.length) ∧ env 138 = some (.int .i64 j)) ?_ L.vm.length
        ⟨0, C, rfl, by simp, by omega, W, rfl, rfl, rfl, rfl, rfl⟩
      rintro k env μ ⟨j, bs, hk, hbs, hbl, W, e1, e5, e136, e137, e138⟩
      simp only [Nat.reduceAdd, reduceIte, Nat.reduceEqDiff, reduceCtorEq, opLen, Int.reduceLT, Int.reduceEq, opConvert, opIndexAddr, opLoad, Nat.reduceLT, undef, Nat.reduceLeDiff, Array.toList, wk4, wk5, wk0, fxC17p, e137, e138]
      refine cond_by (fun hlt => ?_) (fun hge => ?_)
      · have hj' : j < L.vm.length := by omega
        have hj : j < (intCells L.vm).length := by simp only [intCells, List.length_map]; omega
        obtain ⟨p1, q1, s1, _⟩ := ((h.vm.pz (H W).pz).shows).at (P := Try.prog) Try.underlying42 ts3 (by simp only [aggOf, Try.underlying3]) hj
        have ev : (intCells L.vm)[j] = .int .i64 L.vm[j] := by simp only [intCells, List.getElem_map]
        rw [ev] at s1
        have hx := hm.2.2 L.vm[j] (List.getElem_mem _)
        have e16 : IntKind.u16.wrap L.vm[j] = L.vm[j] := u16_id (by omega)
        simp only [Nat.reduceAdd, reduceIte, Nat.reduceEqDiff, reduceCtorEq, opLen, Int.reduceLT, Int.reduceEq, opConvert, Nat.reduceLT, undef, Nat.reduceLeDiff, Array.toList, wk4, wk5, wk0, fxC17p, e1, e5, e136, e137, e138, q1, s1, e16]
        refine ws_word W (by omega) (by omega) fun M W => ?_
        have hw1 : IntKind.i64.wrap ((j : Int) + 1) = ((j + 1 : Nat) : Int) := by rw [wrap_i64 (by omega) (by omega)]; rfl
        simp only [Nat.reduceAdd, reduceIte, Nat.reduceEqDiff, reduceCtorEq, opLen, Int.reduceLT, Int.reduceEq, opConvert, Nat.reduceLT, undef, Nat.reduceLeDiff, Array.toList, wk4, wk5, wk0, fxC17p, e1, e5, e136, e137, e138, hw1]
        exact ⟨k - 1, by omega, j + 1, _, by omega, by rw [flat_succ _ hj', ← List.append_assoc, ← hbs], by rw [List.length_append, wordB_length]; omega, W, rfl⟩
      · have hj : j = L.vm.length := by omega
        subst hj
        have g := G W
        simp only [Nat.reduceAdd, reduceIte, Nat.reduceEqDiff, reduceCtorEq, opLen, Int.reduceLT, Int.reduceEq, opConvert, opIndexAddr, opLoad, Nat.reduceLT, undef, Nat.reduceLeDiff, Array.toList, wk4, wk5, wk0, fxC17p, e1, e5, e137, e138, g]
        rw [List.take_length] at hbs
        refine ws_ans W (h.aa.pz (H W).pz) ok.ae ok.aq ty.ab (by omega) ok.al fun M W => ?_
        simp only [Nat.reduceAdd, reduceIte, Nat.reduceEqDiff, reduceCtorEq, opLen, Int.reduceLT, Int.reduceEq, opConvert, opIndexAddr, opLoad, Nat.reduceLT, undef, Nat.reduceLeDiff, Array.toList, wk4, wk5, wk0, fxC17p, e5]
        have eB : letB L = bs ++ ansB L.A.e L.A.q L.A.s := by rw [e0, hbs, hC, viewB]; simp only [List.append_assoc]
        obtain ⟨r, w, y, f⟩ := W
        have X := WS.ext ⟨r, w, y, f⟩ xm hi
        refine bytes_ret w (by have := letB_len F ok; rw [eB] at this; omega) fun M' r' x' y' z' g' => ?_
        rw [← eB] at g' ⊢
        simp only [Nat.reduceAdd, reduceIte, Nat.reduceEqDiff, reduceCtorEq, opLen, Int.reduceLT, Int.reduceEq, opConvert, opIndexAddr, opLoad, Nat.reduceLT, undef, Nat.reduceLeDiff, Array.toList, wk4, wk5, wk0, fxC17p]
        exact hK1 rfl _ r' (X.trans x') (Nat.le_trans X.1 y') z' g'
  · simp only [Nat.reduceAdd, reduceIte, Nat.reduceEqDiff, reduceCtorEq, opLen, Int.reduceLT, Int.reduceEq, opConvert, opIndexAddr, opLoad, Nat.reduceLT, undef, Nat.reduceLeDiff, Array.toList, wk4, wk5, wk0, fxC17p, e]
    exact hK0 e _ X1
end Go.Proofs.Ytejgoooanapjbaa
