/- A text of the abstract machine. -/






/- Letters: put. -/
/- Letters: taken, simp only [Nat.reduceAdd, reduceIte, Nat.reduceEqDiff, reduceCtorEq, opLen, Int.reduceLT, Int.reduceEq, opConvert, opIndexAddr, opLoad, Nat.reduceLT, undef, Nat.reduceLeDiff, Array.toList, wk4, wk5, wk0, fxC17u]ed. -/
import Derived.Test.YtejgoooanapjbaaAmC17t
import Derived.Test.YtejgoooanapjbaaAmBun
set_option linter.unusedSimpArgs false
set_option linter.unusedVariables false
set_option maxRecDepth 100000
set_option maxHeartbeats 4000000
namespace Go.Proofs.Ytejgoooanapjbaa
open Go Go.AM Go.AM.Crc Go.AM.Wire
theorem fxC17u : type_of% (And.intro (And.intro (And.intro (And.intro (And.intro (And.intro (And.intro (And.intro @Try.underlying3 @Try.underlying4) (And.intro @Try.underlying5 @Try.underlying9)) (And.intro (And.intro @Try.underlying42 @Try.underlying46) (And.intro @Try.underlying47 @Try.underlying123))) (And.intro (And.intro (And.intro @Try.underlying23 @Try.underlying26) (And.intro @Try.underlying28 @Try.underlying39)) (And.intro (And.intro @Try.underlying41 @Try.underlying44) (And.intro @Try.underlying24 @Try.underlying37)))) (And.intro (And.intro (And.intro (And.intro @Try.underlying22 @Try.underlying0) (And.intro @Try.underlying100 @Try.underlying66)) (And.intro (And.intro @Try.underlying68 @Try.underlying78) (And.intro @Try.underlying103 @Try.underlying49))) (And.intro (And.intro (And.intro @Try.underlying34 @Try.underlying36) (And.intro @Try.underlying51 @Try.underlying53)) (And.intro (And.intro @Try.underlying55 @Try.underlying88) (And.intro @Try.underlying32 @Try.underlying30))))) (And.intro (And.intro (And.intro (And.intro (And.intro @Try.underlying61 @Try.underlying63) (And.intro @Try.underlying90 @Try.underlying92)) (And.intro (And.intro @Try.underlying94 @ts3) (And.intro @ts4 @ts5))) (And.intro (And.intro (And.intro @ts9 @ts42) (And.intro @ts46 @ts47)) (And.intro (And.intro @ts123 @ts23) (And.intro @ts26 @ts28)))) (And.intro (And.intro (And.intro (And.intro @ts39 @ts41) (And.intro @ts44 @ts24)) (And.intro (And.intro @ts37 @ts22) (And.intro @ts0 @ts100))) (And.intro (And.intro (And.intro @ts66 @ts68) (And.intro @ts78 @ts103)) (And.intro (And.intro @ts49 @ts34) (And.intro @ts36 (And.intro @ts51 @ts53))))))) (And.intro (And.intro (And.intro (And.intro (And.intro (And.intro @ts55 @ts88) (And.intro @ts32 @ts30)) (And.intro (And.intro @ts61 @ts63) (And.intro @ts90 @ts92))) (And.intro (And.intro (And.intro @ts94 @tz3) (And.intro @tz4 @tz5)) (And.intro (And.intro @tz9 @tz42) (And.intro @tz46 @tz47)))) (And.intro (And.intro (And.intro (And.intro @tz123 @tz23) (And.intro @tz26 @tz28)) (And.intro (And.intro @tz39 @tz41) (And.intro @tz44 @tz24))) (And.intro (And.intro (And.intro @tz37 @tz22) (And.intro @tz0 @tz100)) (And.intro (And.intro @tz66 @tz68) (And.intro @tz78 @tz103))))) (And.intro (And.intro (And.intro (And.intro (And.intro @tz49 @tz34) (And.intro @tz36 @tz51)) (And.intro (And.intro @tz53 @tz55) (And.intro @tz88 @tz32))) (And.intro (And.intro (And.intro @tz30 @tz61) (And.intro @tz63 @tz90)) (And.intro (And.intro @tz92 @tz94) (And.intro @tb3 @tb4)))) (And.intro (And.intro (And.intro (And.intro @tb5 @tb9) (And.intro @tb42 @tb46)) (And.intro (And.intro @tb47 @tb123) (And.intro @tb23 @tb26))) (And.intro (And.intro (And.intro @tb28 @tb39) (And.intro @tb41 @tb44)) (And.intro (And.intro @tb24 @tb37) (And.intro @tb22 (And.intro @tb0 @tb100)))))))) (And.intro (And.intro (And.intro (And.intro (And.intro (And.intro (And.intro @tb66 @tb68) (And.intro @tb78 @tb103)) (And.intro (And.intro @tb49 @tb34) (And.intro @tb36 @tb51))) (And.intro (And.intro (And.intro @tb53 @tb55) (And.intro @tb88 @tb32)) (And.intro (And.intro @tb30 @tb61) (And.intro @tb63 @tb90)))) (And.intro (And.intro (And.intro (And.intro @tb92 @tb94) (And.intro @fr8 @fr9)) (And.intro (And.intro @fr10 @fr11) (And.intro @fr13 @fr15))) (And.intro (And.intro (And.intro @fr16 @fr18) (And.intro @fr19 @fr20)) (And.intro (And.intro @fr21 @fr22) (And.intro @fr23 @fr24))))) (And.intro (And.intro (And.intro (And.intro (And.intro @fr25 @fr26) (And.intro @fr27 @fr28)) (And.intro (And.intro @fr38 @fr39) (And.intro @fr40 @fr41))) (And.intro (And.intro (And.intro @fr42 @fr51) (And.intro @fr52 @fr53)) (And.intro (And.intro @fr54 @fr12) (And.intro @fr29 @fr30)))) (And.intro (And.intro (And.intro (And.intro @fr31 @fr32) (And.intro @fr33 @fr34)) (And.intro (And.intro @fr35 @fr36) (And.intro @fr37 @bz46))) (And.intro (And.intro (And.intro @al46 @fa46_0) (And.intro @fa46_1 @bz28)) (And.intro (And.intro @bz26 @bz41) (And.intro @bz44 (And.intro @al41 @al44))))))) (And.intro (And.intro (And.intro (And.intro (And.intro (And.intro @fa44_0 @fa44_1) (And.intro @fa44_2 @fa41_0)) (And.intro (And.intro @fa41_1 @fa41_2) (And.intro @fa28_0 @fa28_1))) (And.intro (And.intro (And.intro @fa28_2 @fa26_0) (And.intro @fa26_1 @fa26_2)) (And.intro (And.intro @fa26_3 @bz103) (And.intro @al68 @al103)))) (And.intro (And.intro (And.intro (And.intro @fa68_0 @fa103_0) (And.intro @fa103_1 @fa103_2)) (And.intro (And.intro @bin_weq @bin_wneq) (And.intro @bin_req @bin_rneq))) (And.intro (And.intro (And.intro @bz39 @fa39_0) (And.intro @fa39_1 @bz68)) (And.intro (And.intro @bz49 @al49) (And.intro @fa49_0 @fa49_1))))) (And.intro (And.intro (And.intro (And.intro (And.intro @fa49_2 @bz51) (And.intro @al51 @fa51_0)) (And.intro (And.intro @fa51_1 @fa51_2) (And.intro @fa51_3 @fa51_4))) (And.intro (And.intro (And.intro @fa51_5 @fa51_6) (And.intro @fa51_7 @fa51_8)) (And.intro (And.intro @fa51_9 @fa51_10) (And.intro @fa51_11 @bz36)))) (And.intro (And.intro (And.intro (And.intro @al36 @fa36_0) (And.intro @fa36_1 @oneOf_two)) (And.intro (And.intro @al24 @al90) (And.intro @bz32 @bldI))) (And.intro (And.intro (And.intro @set_set @bldL3) (And.intro @bldB @vqB)) (And.intro (And.intro @vqE @vqA) (And.intro @vqC (And.intro @vqI @vqW))))))))) := (And.intro (And.intro (And.intro (And.intro (And.intro (And.intro (And.intro (And.intro @Try.underlying3 @Try.underlying4) (And.intro @Try.underlying5 @Try.underlying9)) (And.intro (And.intro @Try.underlying42 @Try.underlying46) (And.intro @Try.underlying47 @Try.underlying123))) (And.intro (And.intro (And.intro @Try.underlying23 @Try.underlying26) (And.intro @Try.underlying28 @Try.underlying39)) (And.intro (And.intro @Try.underlying41 @Try.underlying44) (And.intro @Try.underlying24 @Try.underlying37)))) (And.intro (And.intro (And.intro (And.intro @Try.underlying22 @Try.underlying0) (And.intro @Try.underlying100 @Try.underlying66)) (And.intro (And.intro @Try.underlying68 @Try.underlying78) (And.intro @Try.underlying103 @Try.underlying49))) (And.intro (And.intro (And.intro @Try.underlying34 @Try.underlying36) (And.intro @Try.underlying51 @Try.underlying53)) (And.intro (And.intro @Try.underlying55 @Try.underlying88) (And.intro @Try.underlying32 @Try.underlying30))))) (And.intro (And.intro (And.intro (And.intro (And.intro @Try.underlying61 @Try.underlying63) (And.intro @Try.underlying90 @Try.underlying92)) (And.intro (And.intro @Try.underlying94 @ts3) (And.intro @ts4 @ts5))) (And.intro (And.intro (And.intro @ts9 @ts42) (And.intro @ts46 @ts47)) (And.intro (And.intro @ts123 @ts23) (And.intro @ts26 @ts28)))) (And.intro (And.intro (And.intro (And.intro @ts39 @ts41) (And.intro @ts44 @ts24)) (And.intro (And.intro @ts37 @ts22) (And.intro @ts0 @ts100))) (And.intro (And.intro (And.intro @ts66 @ts68) (And.intro @ts78 @ts103)) (And.intro (And.intro @ts49 @ts34) (And.intro @ts36 (And.intro @ts51 @ts53))))))) (And.intro (And.intro (And.intro (And.intro (And.intro (And.intro @ts55 @ts88) (And.intro @ts32 @ts30)) (And.intro (And.intro @ts61 @ts63) (And.intro @ts90 @ts92))) (And.intro (And.intro (And.intro @ts94 @tz3) (And.intro @tz4 @tz5)) (And.intro (And.intro @tz9 @tz42) (And.intro @tz46 @tz47)))) (And.intro (And.intro (And.intro (And.intro @tz123 @tz23) (And.intro @tz26 @tz28)) (And.intro (And.intro @tz39 @tz41) (And.intro @tz44 @tz24))) (And.intro (And.intro (And.intro @tz37 @tz22) (And.intro @tz0 @tz100)) (And.intro (And.intro @tz66 @tz68) (And.intro @tz78 @tz103))))) (And.intro (And.intro (And.intro (And.intro (And.intro @tz49 @tz34) (And.intro @tz36 @tz51)) (And.intro (And.intro @tz53 @tz55) (And.intro @tz88 @tz32))) (And.intro (And.intro (And.intro @tz30 @tz61) (And.intro @tz63 @tz90)) (And.intro (And.intro @tz92 @tz94) (And.intro @tb3 @tb4)))) (And.intro (And.intro (And.intro (And.intro @tb5 @tb9) (And.intro @tb42 @tb46)) (And.intro (And.intro @tb47 @tb123) (And.intro @tb23 @tb26))) (And.intro (And.intro (And.intro @tb28 @tb39) (And.intro @tb41 @tb44)) (And.intro (And.intro @tb24 @tb37) (And.intro @tb22 (And.intro @tb0 @tb100)))))))) (And.intro (And.intro (And.intro (And.intro (And.intro (And.intro (And.intro @tb66 @tb68) (And.intro @tb78 @tb103)) (And.intro (And.intro @tb49 @tb34) (And.intro @tb36 @tb51))) (And.intro (And.intro (And.intro @tb53 @tb55) (And.intro @tb88 @tb32)) (And.intro (And.intro @tb30 @tb61) (And.intro @tb63 @tb90)))) (And.intro (And.intro (And.intro (And.intro @tb92 @tb94) (And.intro @fr8 @fr9)) (And.intro (And.intro @fr10 @fr11) (And.intro @fr13 @fr15))) (And.intro (And.intro (And.intro @fr16 @fr18) (And.intro @fr19 @fr20)) (And.intro (And.intro @fr21 @fr22) (And.intro @fr23 @fr24))))) (And.intro (And.intro (And.intro (And.intro (And.intro @fr25 @fr26) (And.intro @fr27 @fr28)) (And.intro (And.intro @fr38 @fr39) (And.intro @fr40 @fr41))) (And.intro (And.intro (And.intro @fr42 @fr51) (And.intro @fr52 @fr53)) (And.intro (And.intro @fr54 @fr12) (And.intro @fr29 @fr30)))) (And.intro (And.intro (And.intro (And.intro @fr31 @fr32) (And.intro @fr33 @fr34)) (And.intro (And.intro @fr35 @fr36) (And.intro @fr37 @bz46))) (And.intro (And.intro (And.intro @al46 @fa46_0) (And.intro @fa46_1 @bz28)) (And.intro (And.intro @bz26 @bz41) (And.intro @bz44 (And.intro @al41 @al44))))))) (And.intro (And.intro (And.intro (And.intro (And.intro (And.intro @fa44_0 @fa44_1) (And.intro @fa44_2 @fa41_0)) (And.intro (And.intro @fa41_1 @fa41_2) (And.intro @fa28_0 @fa28_1))) (And.intro (And.intro (And.intro @fa28_2 @fa26_0) (And.intro @fa26_1 @fa26_2)) (And.intro (And.intro @fa26_3 @bz103) (And.intro @al68 @al103)))) (And.intro (And.intro (And.intro (And.intro @fa68_0 @fa103_0) (And.intro @fa103_1 @fa103_2)) (And.intro (And.intro @bin_weq @bin_wneq) (And.intro @bin_req @bin_rneq))) (And.intro (And.intro (And.intro @bz39 @fa39_0) (And.intro @fa39_1 @bz68)) (And.intro (And.intro @bz49 @al49) (And.intro @fa49_0 @fa49_1))))) (And.intro (And.intro (And.intro (And.intro (And.intro @fa49_2 @bz51) (And.intro @al51 @fa51_0)) (And.intro (And.intro @fa51_1 @fa51_2) (And.intro @fa51_3 @fa51_4))) (And.intro (And.intro (And.intro @fa51_5 @fa51_6) (And.intro @fa51_7 @fa51_8)) (And.intro (And.intro @fa51_9 @fa51_10) (And.intro @fa51_11 @bz36)))) (And.intro (And.intro (And.intro (And.intro @al36 @fa36_0) (And.intro @fa36_1 @oneOf_two)) (And.intro (And.intro @al24 @al90) (And.intro @bz32 @bldI))) (And.intro (And.intro (And.intro @set_set @bldL3) (And.intro @bldB @vqB)) (And.intro (And.intro @vqE @vqA) (And.intro @vqC (And.intro @vqI @vqW)))))))))
theorem ltake_ret {m : Mem} {v : Value} {all : List Int} (hv : ∀ M, Ext m M → Shows M v (byteCells all)) (hl : all.length < 2 ^ 40) (hb : Bytes all)
    {K : Value → Mem → Prop} (hK : ∀ m' v', Ext m m' → LetF m' v' (letS all).1 → K (.tuple #[v', .int .i64 (letS all).2]) m') : Ret Try.prog 12 [v] m K := by
  refine ret_wp [(26, [2])] Try.func12 rfl (by decide) (by kernel_rfl) ?_
  simp only [wk6, Nat.reduceBEq, wk1, forall_eq, Nat.reduceAdd, reduceIte, Nat.reduceEqDiff, reduceCtorEq, opLen, Int.reduceLT, Int.reduceEq, opConvert, opIndexAddr, opLoad, Nat.reduceLT, undef, Nat.reduceLeDiff, Array.toList, wk4, wk5, wk0, fxC17u]
  obtain ⟨Z, hZ⟩ : ∃ Z, Z = Blk.cells (zCells 0 0 0) 51 true := ⟨_, rfl⟩
  have hZ' := hZ
  simp only [zCells] at hZ'
  rw [← hZ']
  clear hZ'
  have x0 : Ext m (m.new Z) := Ext.new _ _
  have gz : (m.new Z).get m.next = some Z := new_get _ _
  have n0 : (m.new Z).next = m.next + 1 := rfl
  generalize m.new Z = m0 at x0 gz n0 ⊢
  refine read_any (hv _ (x0.trans (Ext.new _ _))) hl fun m1 i r x1 R1 hi hr => ?_
  have X1 := x0.trans x1
  have g1 := (x1.2 m.next (by omega)).trans gz
  have l1 := x1.1
  simp only [wk6, Nat.reduceBEq, wk1, forall_eq, Nat.reduceAdd, reduceIte, Nat.reduceEqDiff, reduceCtorEq, opLen, Int.reduceLT, Int.reduceEq, opConvert, opIndexAddr, opLoad, Nat.reduceLT, undef, Nat.reduceLeDiff, Array.toList, wk4, wk5, wk0, fxC17u]
  have hk := within_most (most := 7) (s := (0, 0)) hb (Nat.zero_le _) (by decide)
  refine within_ret R1 hl hb fun m2 R2 f2 => ?_
  obtain ⟨k, ek⟩ : ∃ k, k = withinS all 7 (0, 0) := ⟨_, rfl⟩
  rw [← ek] at R2 hk ⊢
  have e8 : IntKind.u8.wrap k.1 = k.1 := wrap_u8 (by omega) (by omega)
  simp only [wk6, Nat.reduceBEq, wk1, forall_eq, Nat.reduceAdd, reduceIte, Nat.reduceEqDiff, reduceCtorEq, opLen, Int.reduceLT, Int.reduceEq, opConvert, opIndexAddr, opLoad, Nat.reduceLT, undef, Nat.reduceLeDiff, Array.toList, wk4, wk5, wk0, fxC17u, e8]
  refine within_ret R2 hl hb fun m3 R3 f3 => ?_
  obtain ⟨f, ef⟩ : ∃ f, f = withinS all 15 k.2 := ⟨_, rfl⟩
  rw [← ef] at R3 ⊢
  simp only [wk6, Nat.reduceBEq, wk1, forall_eq, Nat.reduceAdd, reduceIte, Nat.reduceEqDiff, reduceCtorEq, opLen, Int.reduceLT, Int.reduceEq, opConvert, opIndexAddr, opLoad, Nat.reduceLT, undef, Nat.reduceLeDiff, Array.toList, wk4, wk5, wk0, fxC17u]
  refine within_ret R3 hl hb fun m4 R4 f4 => ?_
  obtain ⟨t, et⟩ : ∃ t, t = withinS all 15 f.2 := ⟨_, rfl⟩
  rw [← et] at R4 ⊢
  have l2 := f2.1
  have l3 := f3.1
  have l4 := f4.1
  have hi1 := R1.1
  have hr1 := R1.2.1
  have f14 := (f2.trans f3).trans f4
  have g4 := (f14.2 m.next (by omega) (by omega)).trans g1
  simp only [wk6, Nat.reduceBEq, wk1, forall_eq, Nat.reduceAdd, reduceIte, Nat.reduceEqDiff, reduceCtorEq, opLen, Int.reduceLT, Int.reduceEq, opConvert, opIndexAddr, opLoad, Nat.reduceLT, undef, Nat.reduceLeDiff, Array.toList, wk4, wk5, wk0, fxC17u]
  obtain ⟨o, ho⟩ : ∃ o : Let, o = { zL with kd := k.1, fr := f.1, to := t.1 } := ⟨_, rfl⟩
  have eS : rawS all = restS all o t.2 := by rw [ho, et, ef, ek]; rfl
  obtain ⟨b2, hb2⟩ : ∃ b, b = m.next := ⟨_, rfl⟩
  obtain ⟨b5, hb5⟩ : ∃ b, b = m4.next := ⟨_, rfl⟩
  have x4 : Ext m m4 := ⟨by have := X1.1; omega, fun j hj => (f14.2 j (by omega) (by omega)).trans (X1.2 j hj)⟩
  have T : TS m ((m4.new (.cells (zCells 0 0 0) 51 true)).set b5 (.cells (letC o nilS nilS nilS nilS nilS) 51 true)) i r all t.2 b2 b5 o nilS nilS nilS nilS nilS := by
    refine ⟨(x4.trans (Ext.new _ _)).set (by omega), R4.keep (Nat.le_succ _) ?_ ?_, ⟨by omega, by omega, by omega, by omega, by omega, by simp only [set_next, new_next]; omega⟩, ?_, set_get _ _ _, ?_⟩
    · rw [set_get_ne _ (by omega), new_get_ne _ (by omega)]
    · rw [set_get_ne _ (by omega), new_get_ne _ (by omega)]
    · rw [set_get_ne _ (by omega), new_get_ne _ (by omega), hb2, g4, hZ]
    · rw [ho]; exact ⟨FRow.nil, FRow.nil, FRow.nil, FRow.nil, FRow.nil⟩
  have hkd : o.kd = k.1 := by rw [ho]
  have ec : letC o nilS nilS nilS nilS nilS = zCells k.1 f.1 t.1 := by rw [ho]; rfl
  have T0 := T
  rw [ec] at T0
  simp only [zCells] at T0
  rw [hb5] at T0
  -- BRANCHES
  obtain ⟨M, hM⟩ : ∃ M, M = (m4.new (.cells [.int .u8 0, .int .i64 0, .int .i64 0, .int .i64 0, .int .i64 0, .int .i64 0, .int .i64 0, .int .i64 0, .bool false, .int .u8 0, .int .u16 0, .int .u16 0, .int .i64 0, .slice none 0 0, .slice none 0 0, .int .i64 0, .slice none 0 0, .int .u16 0, .int .u16 0, .int .i64 0, .slice none 0 0, .int .u16 0, .int .u16 0, .int .i64 0, .int .i64 0, .slice none 0 0] 51 true)).set m4.next (.cells [.int .u8 k.1, .int .i64 f.1, .int .i64 t.1, .int .i64 0, .int .i64 0, .int .i64 0, .int .i64 0, .int .i64 0, .bool false, .int .u8 0, .int .u16 0, .int .u16 0, .int .i64 0, .slice none 0 0, .slice none 0 0, .int .i64 0, .slice none 0 0, .int .u16 0, .int .u16 0, .int .i64 0, .slice none 0 0, .int .u16 0, .int .u16 0, .int .i64 0, .int .i64 0, .slice none 0 0] 51 true) := ⟨_, rfl⟩
  rw [← hM] at T0 ⊢
  rw [← hb5] at T0 ⊢
  rw [← hb2]
  clear hM T ec
  replace T := T0
  clear T0
  have hkd0 := hkd
  have e64 : ∀ s, IntKind.i64.wrap (longS all s).1 = (longS all s).1 := fun s => by have := longS_val (s := s) hb; exact wrap_i64 (by omega) (by omega)
  have okL := restS_ok (o := o) (s := t.2) hb R4.2.2.2.1 (by rw [ho]) (by rw [ho]; show 0 ≤ k.1 ∧ k.1 < 8; omega)
  replace okL := okL.1
  have k8 : k.1 = 0 ∨ k.1 = 3 ∨ k.1 = 1 ∨ k.1 = 2 ∨ k.1 = 4 ∨ k.1 = 5 ∨ k.1 = 6 ∨ k.1 = 7 := by omega
  rcases k8 with h | h | h | h | h | h | h | h
  · skip
    simp only [wk6, Nat.reduceBEq, wk1, forall_eq, Nat.reduceAdd, reduceIte, Nat.reduceEqDiff, reduceCtorEq, opLen, Int.reduceLT, Int.reduceEq, opConvert, opIndexAddr, opLoad, Nat.reduceLT, undef, Nat.reduceLeDiff, Array.toList, wk4, wk5, wk0, fxC17u, h]
    refine rlong_ret T.R hl hb fun M1 R1 f1 => ?_
    replace T := T.rd R1 f1
    simp only [wk6, Nat.reduceBEq, wk1, forall_eq, Nat.reduceAdd, reduceIte, Nat.reduceEqDiff, reduceCtorEq, opLen, Int.reduceLT, Int.reduceEq, opConvert, opIndexAddr, opLoad, Nat.reduceLT, undef, Nat.reduceLeDiff, Array.toList, wk4, wk5, wk0, fxC17u, e64]
    refine baltake_ret T.R hl hb fun M1 R1 f1 => ?_
    replace T := T.rd R1 f1
    have g5 := T.g5
    simp only [wk6, Nat.reduceBEq, wk1, forall_eq, Nat.reduceAdd, reduceIte, Nat.reduceEqDiff, reduceCtorEq, opLen, Int.reduceLT, Int.reduceEq, opConvert, opIndexAddr, opLoad, Nat.reduceLT, undef, Nat.reduceLeDiff, Array.toList, wk4, wk5, wk0, fxC17u, g5]
    have g2p := T.g2
    replace T := T.put (L' := { o with pl := (longS all t.2).1, br := (balS all (longS all t.2).2).1.1, bn := (balS all (longS all t.2).2).1.2 }) (ea' := nilS) (em' := nilS) (vm' := nilS) (ca' := nilS) (aa' := nilS) ⟨T.lr.ea, T.lr.em, T.lr.vm, T.lr.ca, T.lr.aa⟩
    have eX : restS all o t.2 = ({ o with pl := (longS all t.2).1, br := (balS all (longS all t.2).2).1.1, bn := (balS all (longS all t.2).2).1.2 }, (balS all (longS all t.2).2).2) := by
      unfold restS
      rw [if_pos (by omega)]
    rw [eX] at eS okL
    have eL : letS all = if endS all.length (rawS all).2 ≠ 0 then (zL, endS all.length (rawS all).2) else if lck (rawS all).1 ≠ 0 then (zL, lck (rawS all).1) else ((rawS all).1, 0) := rfl
    rw [eS] at eL
    dsimp only at eL okL
    refine end_ret T.R ?_
    have g2 := T.g2
    have n25 := T.n2
    have hb25 : ¬ b2 = b5 := by omega
    by_cases he : endS all.length (balS all (longS all t.2).2).2 = 0
    · rw [if_neg (by exact fun h => h he)] at eL
      have g5 := T.g5
      simp only [wk6, Nat.reduceBEq, wk1, forall_eq, Nat.reduceAdd, reduceIte, Nat.reduceEqDiff, reduceCtorEq, opLen, Int.reduceLT, Int.reduceEq, opConvert, opIndexAddr, opLoad, Nat.reduceLT, undef, Nat.reduceLeDiff, Array.toList, wk4, wk5, wk0, fxC17u, he, g5]
      refine lcheck_ret ⟨_, _, _, _, _, rfl, T.lr⟩ okL fun M' x' => ?_
      replace T := T.ext x'
      have g2 := T.g2
      have g5 := T.g5
      by_cases hc : lck { o with pl := (longS all t.2).1, br := (balS all (longS all t.2).2).1.1, bn := (balS all (longS all t.2).2).1.2 } = 0
      · rw [if_neg (by exact fun h => h hc)] at eL
        rw [eL] at hK
        simp only [wk6, Nat.reduceBEq, wk1, forall_eq, Nat.reduceAdd, reduceIte, Nat.reduceEqDiff, reduceCtorEq, opLen, Int.reduceLT, Int.reduceEq, opConvert, opIndexAddr, opLoad, Nat.reduceLT, undef, Nat.reduceLeDiff, Array.toList, wk4, wk5, wk0, fxC17u, hc, g5, g2]
        exact hK _ _ (T.x.set (i := b2) n25.1) ⟨_, _, _, _, _, rfl, T.lr.pz (Pz.set g2 _)⟩
      · rw [if_pos hc] at eL
        rw [eL] at hK
        simp only [wk6, Nat.reduceBEq, wk1, forall_eq, Nat.reduceAdd, reduceIte, Nat.reduceEqDiff, reduceCtorEq, opLen, Int.reduceLT, Int.reduceEq, opConvert, opIndexAddr, opLoad, Nat.reduceLT, undef, Nat.reduceLeDiff, Array.toList, wk4, wk5, wk0, fxC17u, hc, g2]
        exact hK _ _ (T.x.set (i := b2) n25.1) ⟨_, _, _, _, _, rfl, FRow.nil, FRow.nil, FRow.nil, FRow.nil, FRow.nil⟩
    · rw [if_pos he] at eL
      rw [eL] at hK
      simp only [wk6, Nat.reduceBEq, wk1, forall_eq, Nat.reduceAdd, reduceIte, Nat.reduceEqDiff, reduceCtorEq, opLen, Int.reduceLT, Int.reduceEq, opConvert, opIndexAddr, opLoad, Nat.reduceLT, undef, Nat.reduceLeDiff, Array.toList, wk4, wk5, wk0, fxC17u, he, hb25, g2p]
      exact hK _ _ (T.x.set (i := b2) n25.1) ⟨_, _, _, _, _, rfl, FRow.nil, FRow.nil, FRow.nil, FRow.nil, FRow.nil⟩
  · skip
    simp only [wk6, Nat.reduceBEq, wk1, forall_eq, Nat.reduceAdd, reduceIte, Nat.reduceEqDiff, reduceCtorEq, opLen, Int.reduceLT, Int.reduceEq, opConvert, opIndexAddr, opLoad, Nat.reduceLT, undef, Nat.reduceLeDiff, Array.toList, wk4, wk5, wk0, fxC17u, h]
    refine rlong_ret T.R hl hb fun M1 R1 f1 => ?_
    replace T := T.rd R1 f1
    simp only [wk6, Nat.reduceBEq, wk1, forall_eq, Nat.reduceAdd, reduceIte, Nat.reduceEqDiff, reduceCtorEq, opLen, Int.reduceLT, Int.reduceEq, opConvert, opIndexAddr, opLoad, Nat.reduceLT, undef, Nat.reduceLeDiff, Array.toList, wk4, wk5, wk0, fxC17u, e64]
    refine baltake_ret T.R hl hb fun M1 R1 f1 => ?_
    replace T := T.rd R1 f1
    have g5 := T.g5
    simp only [wk6, Nat.reduceBEq, wk1, forall_eq, Nat.reduceAdd, reduceIte, Nat.reduceEqDiff, reduceCtorEq, opLen, Int.reduceLT, Int.reduceEq, opConvert, opIndexAddr, opLoad, Nat.reduceLT, undef, Nat.reduceLeDiff, Array.toList, wk4, wk5, wk0, fxC17u, g5]
    have g2p := T.g2
    replace T := T.put (L' := { o with pl := (longS all t.2).1, br := (balS all (longS all t.2).2).1.1, bn := (balS all (longS all t.2).2).1.2 }) (ea' := nilS) (em' := nilS) (vm' := nilS) (ca' := nilS) (aa' := nilS) ⟨T.lr.ea, T.lr.em, T.lr.vm, T.lr.ca, T.lr.aa⟩
    have eX : restS all o t.2 = ({ o with pl := (longS all t.2).1, br := (balS all (longS all t.2).2).1.1, bn := (balS all (longS all t.2).2).1.2 }, (balS all (longS all t.2).2).2) := by
      unfold restS
      rw [if_pos (by omega)]
    rw [eX] at eS okL
    have eL : letS all = if endS all.length (rawS all).2 ≠ 0 then (zL, endS all.length (rawS all).2) else if lck (rawS all).1 ≠ 0 then (zL, lck (rawS all).1) else ((rawS all).1, 0) := rfl
    rw [eS] at eL
    dsimp only at eL okL
    refine end_ret T.R ?_
    have g2 := T.g2
    have n25 := T.n2
    have hb25 : ¬ b2 = b5 := by omega
    by_cases he : endS all.length (balS all (longS all t.2).2).2 = 0
    · rw [if_neg (by exact fun h => h he)] at eL
      have g5 := T.g5
      simp only [wk6, Nat.reduceBEq, wk1, forall_eq, Nat.reduceAdd, reduceIte, Nat.reduceEqDiff, reduceCtorEq, opLen, Int.reduceLT, Int.reduceEq, opConvert, opIndexAddr, opLoad, Nat.reduceLT, undef, Nat.reduceLeDiff, Array.toList, wk4, wk5, wk0, fxC17u, he, g5]
      refine lcheck_ret ⟨_, _, _, _, _, rfl, T.lr⟩ okL fun M' x' => ?_
      replace T := T.ext x'
      have g2 := T.g2
      have g5 := T.g5
      by_cases hc : lck { o with pl := (longS all t.2).1, br := (balS all (longS all t.2).2).1.1, bn := (balS all (longS all t.2).2).1.2 } = 0
      · rw [if_neg (by exact fun h => h hc)] at eL
        rw [eL] at hK
        simp only [wk6, Nat.reduceBEq, wk1, forall_eq, Nat.reduceAdd, reduceIte, Nat.reduceEqDiff, reduceCtorEq, opLen, Int.reduceLT, Int.reduceEq, opConvert, opIndexAddr, opLoad, Nat.reduceLT, undef, Nat.reduceLeDiff, Array.toList, wk4, wk5, wk0, fxC17u, hc, g5, g2]
        exact hK _ _ (T.x.set (i := b2) n25.1) ⟨_, _, _, _, _, rfl, T.lr.pz (Pz.set g2 _)⟩
      · rw [if_pos hc] at eL
        rw [eL] at hK
        simp only [wk6, Nat.reduceBEq, wk1, forall_eq, Nat.reduceAdd, reduceIte, Nat.reduceEqDiff, reduceCtorEq, opLen, Int.reduceLT, Int.reduceEq, opConvert, opIndexAddr, opLoad, Nat.reduceLT, undef, Nat.reduceLeDiff, Array.toList, wk4, wk5, wk0, fxC17u, hc, g2]
        exact hK _ _ (T.x.set (i := b2) n25.1) ⟨_, _, _, _, _, rfl, FRow.nil, FRow.nil, FRow.nil, FRow.nil, FRow.nil⟩
    · rw [if_pos he] at eL
      rw [eL] at hK
      simp only [wk6, Nat.reduceBEq, wk1, forall_eq, Nat.reduceAdd, reduceIte, Nat.reduceEqDiff, reduceCtorEq, opLen, Int.reduceLT, Int.reduceEq, opConvert, opIndexAddr, opLoad, Nat.reduceLT, undef, Nat.reduceLeDiff, Array.toList, wk4, wk5, wk0, fxC17u, he, hb25, g2p]
      exact hK _ _ (T.x.set (i := b2) n25.1) ⟨_, _, _, _, _, rfl, FRow.nil, FRow.nil, FRow.nil, FRow.nil, FRow.nil⟩
  · skip
    simp only [wk6, Nat.reduceBEq, wk1, forall_eq, Nat.reduceAdd, reduceIte, Nat.reduceEqDiff, reduceCtorEq, opLen, Int.reduceLT, Int.reduceEq, opConvert, opIndexAddr, opLoad, Nat.reduceLT, undef, Nat.reduceLeDiff, Array.toList, wk4, wk5, wk0, fxC17u, h]
    refine rlong_ret T.R hl hb fun M1 R1 f1 => ?_
    replace T := T.rd R1 f1
    simp only [wk6, Nat.reduceBEq, wk1, forall_eq, Nat.reduceAdd, reduceIte, Nat.reduceEqDiff, reduceCtorEq, opLen, Int.reduceLT, Int.reduceEq, opConvert, opIndexAddr, opLoad, Nat.reduceLT, undef, Nat.reduceLeDiff, Array.toList, wk4, wk5, wk0, fxC17u, e64]
    refine baltake_ret T.R hl hb fun M1 R1 f1 => ?_
    replace T := T.rd R1 f1
    have g5 := T.g5
    simp only [wk6, Nat.reduceBEq, wk1, forall_eq, Nat.reduceAdd, reduceIte, Nat.reduceEqDiff, reduceCtorEq, opLen, Int.reduceLT, Int.reduceEq, opConvert, opIndexAddr, opLoad, Nat.reduceLT, undef, Nat.reduceLeDiff, Array.toList, wk4, wk5, wk0, fxC17u, g5]
    have g2p := T.g2
    replace T := T.put (L' := { o with pl := (longS all t.2).1, br := (balS all (longS all t.2).2).1.1, bn := (balS all (longS all t.2).2).1.2 }) (ea' := nilS) (em' := nilS) (vm' := nilS) (ca' := nilS) (aa' := nilS) ⟨T.lr.ea, T.lr.em, T.lr.vm, T.lr.ca, T.lr.aa⟩
    refine within_ret T.R hl hb fun M1 R1 f1 => ?_
    replace T := T.rd R1 f1
    have g5 := T.g5
    by_cases hq : (withinS all 1 (balS all (longS all t.2).2).2).1 = 1
    · have dq := decide_eq_true hq
      simp only [wk6, Nat.reduceBEq, wk1, forall_eq, Nat.reduceAdd, reduceIte, Nat.reduceEqDiff, reduceCtorEq, opLen, Int.reduceLT, Int.reduceEq, opConvert, opIndexAddr, opLoad, Nat.reduceLT, undef, Nat.reduceLeDiff, Array.toList, wk4, wk5, wk0, fxC17u, g5, dq]
      have g2p := T.g2
      replace T := T.put (L' := { o with pl := (longS all t.2).1, br := (balS all (longS all t.2).2).1.1, bn := (balS all (longS all t.2).2).1.2, sm := true }) (ea' := nilS) (em' := nilS) (vm' := nilS) (ca' := nilS) (aa' := nilS) ⟨T.lr.ea, T.lr.em, T.lr.vm, T.lr.ca, T.lr.aa⟩
      refine baltake_ret T.R hl hb fun M1 R1 f1 => ?_
      replace T := T.rd R1 f1
      simp only [wk6, Nat.reduceBEq, wk1, forall_eq, Nat.reduceAdd, reduceIte, Nat.reduceEqDiff, reduceCtorEq, opLen, Int.reduceLT, Int.reduceEq, opConvert, opIndexAddr, opLoad, Nat.reduceLT, undef, Nat.reduceLeDiff, Array.toList, wk4, wk5, wk0, fxC17u]
      refine vtake_ret T.R hl hb fun M1 v1 R1 f1 en => ?_
      obtain ⟨X, hX⟩ : ∃ X, X = (entS all (balS all (withinS all 1 (balS all (longS all t.2).2).2).2).2) := ⟨_, rfl⟩
      rw [← hX] at R1 en
      replace T := T.rd R1 f1
      obtain ⟨va, vb, rfl, s1, s2⟩ := en
      obtain ⟨c1, y1, rfl⟩ := s1.is
      obtain ⟨c2, y2, rfl⟩ := s2.is
      have g5 := T.g5
      simp only [wk6, Nat.reduceBEq, wk1, forall_eq, Nat.reduceAdd, reduceIte, Nat.reduceEqDiff, reduceCtorEq, opLen, Int.reduceLT, Int.reduceEq, opConvert, opIndexAddr, opLoad, Nat.reduceLT, undef, Nat.reduceLeDiff, Array.toList, wk4, wk5, wk0, fxC17u, g5]
      have g2p := T.g2
      replace T := T.put (L' := { o with pl := (longS all t.2).1, br := (balS all (longS all t.2).2).1.1, bn := (balS all (longS all t.2).2).1.2, sm := true, wr := (balS all (withinS all 1 (balS all (longS all t.2).2).2).2).1.1, wn := (balS all (withinS all 1 (balS all (longS all t.2).2).2).2).1.2, E := X.1 }) (vm' := nilS) (ca' := nilS) (aa' := nilS) ⟨s1, s2, T.lr.vm, T.lr.ca, T.lr.aa⟩
      have eX : restS all o t.2 = ({ o with pl := (longS all t.2).1, br := (balS all (longS all t.2).2).1.1, bn := (balS all (longS all t.2).2).1.2, sm := true, wr := (balS all (withinS all 1 (balS all (longS all t.2).2).2).2).1.1, wn := (balS all (withinS all 1 (balS all (longS all t.2).2).2).2).1.2, E := X.1 }, X.2) := by
        unfold restS
        rw [if_neg (by omega), if_pos (by omega)]
        simp only
        rw [if_pos hq, hX]
      rw [eX] at eS okL
      have eL : letS all = if endS all.length (rawS all).2 ≠ 0 then (zL, endS all.length (rawS all).2) else if lck (rawS all).1 ≠ 0 then (zL, lck (rawS all).1) else ((rawS all).1, 0) := rfl
      rw [eS] at eL
      dsimp only at eL okL
      refine end_ret T.R ?_
      have g2 := T.g2
      have n25 := T.n2
      have hb25 : ¬ b2 = b5 := by omega
      by_cases he : endS all.length X.2 = 0
      · rw [if_neg (by exact fun h => h he)] at eL
        have g5 := T.g5
        simp only [wk6, Nat.reduceBEq, wk1, forall_eq, Nat.reduceAdd, reduceIte, Nat.reduceEqDiff, reduceCtorEq, opLen, Int.reduceLT, Int.reduceEq, opConvert, opIndexAddr, opLoad, Nat.reduceLT, undef, Nat.reduceLeDiff, Array.toList, wk4, wk5, wk0, fxC17u, he, g5]
        refine lcheck_ret ⟨_, _, _, _, _, rfl, T.lr⟩ okL fun M' x' => ?_
        replace T := T.ext x'
        have g2 := T.g2
        have g5 := T.g5
        by_cases hc : lck { o with pl := (longS all t.2).1, br := (balS all (longS all t.2).2).1.1, bn := (balS all (longS all t.2).2).1.2, sm := true, wr := (balS all (withinS all 1 (balS all (longS all t.2).2).2).2).1.1, wn := (balS all (withinS all 1 (balS all (longS all t.2).2).2).2).1.2, E := X.1 } = 0
        · rw [if_neg (by exact fun h => h hc)] at eL
          rw [eL] at hK
          simp only [wk6, Nat.reduceBEq, wk1, forall_eq, Nat.reduceAdd, reduceIte, Nat.reduceEqDiff, reduceCtorEq, opLen, Int.reduceLT, Int.reduceEq, opConvert, opIndexAddr, opLoad, Nat.reduceLT, undef, Nat.reduceLeDiff, Array.toList, wk4, wk5, wk0, fxC17u, hc, g5, g2]
          exact hK _ _ (T.x.set (i := b2) n25.1) ⟨_, _, _, _, _, rfl, T.lr.pz (Pz.set g2 _)⟩
        · rw [if_pos hc] at eL
          rw [eL] at hK
          simp only [wk6, Nat.reduceBEq, wk1, forall_eq, Nat.reduceAdd, reduceIte, Nat.reduceEqDiff, reduceCtorEq, opLen, Int.reduceLT, Int.reduceEq, opConvert, opIndexAddr, opLoad, Nat.reduceLT, undef, Nat.reduceLeDiff, Array.toList, wk4, wk5, wk0, fxC17u, hc, g2]
          exact hK _ _ (T.x.set (i := b2) n25.1) ⟨_, _, _, _, _, rfl, FRow.nil, FRow.nil, FRow.nil, FRow.nil, FRow.nil⟩
      · rw [if_pos he] at eL
        rw [eL] at hK
        simp only [wk6, Nat.reduceBEq, wk1, forall_eq, Nat.reduceAdd, reduceIte, Nat.reduceEqDiff, reduceCtorEq, opLen, Int.reduceLT, Int.reduceEq, opConvert, opIndexAddr, opLoad, Nat.reduceLT, undef, Nat.reduceLeDiff, Array.toList, wk4, wk5, wk0, fxC17u, he, hb25, g2p]
        exact hK _ _ (T.x.set (i := b2) n25.1) ⟨_, _, _, _, _, rfl, FRow.nil, FRow.nil, FRow.nil, FRow.nil, FRow.nil⟩
    · have dq := decide_eq_false hq
      simp only [wk6, Nat.reduceBEq, wk1, forall_eq, Nat.reduceAdd, reduceIte, Nat.reduceEqDiff, reduceCtorEq, opLen, Int.reduceLT, Int.reduceEq, opConvert, opIndexAddr, opLoad, Nat.reduceLT, undef, Nat.reduceLeDiff, Array.toList, wk4, wk5, wk0, fxC17u, g5, dq]
      have g2p := T.g2
      replace T := T.put (L' := { o with pl := (longS all t.2).1, br := (balS all (longS all t.2).2).1.1, bn := (balS all (longS all t.2).2).1.2, sm := false }) (ea' := nilS) (em' := nilS) (vm' := nilS) (ca' := nilS) (aa' := nilS) ⟨T.lr.ea, T.lr.em, T.lr.vm, T.lr.ca, T.lr.aa⟩
      have eX : restS all o t.2 = ({ o with pl := (longS all t.2).1, br := (balS all (longS all t.2).2).1.1, bn := (balS all (longS all t.2).2).1.2, sm := false }, (withinS all 1 (balS all (longS all t.2).2).2).2) := by
        unfold restS
        rw [if_neg (by omega), if_pos (by omega)]
        simp only
        rw [if_neg hq]
      rw [eX] at eS okL
      have eL : letS all = if endS all.length (rawS all).2 ≠ 0 then (zL, endS all.length (rawS all).2) else if lck (rawS all).1 ≠ 0 then (zL, lck (rawS all).1) else ((rawS all).1, 0) := rfl
      rw [eS] at eL
      dsimp only at eL okL
      refine end_ret T.R ?_
      have g2 := T.g2
      have n25 := T.n2
      have hb25 : ¬ b2 = b5 := by omega
      by_cases he : endS all.length (withinS all 1 (balS all (longS all t.2).2).2).2 = 0
      · rw [if_neg (by exact fun h => h he)] at eL
        have g5 := T.g5
        simp only [wk6, Nat.reduceBEq, wk1, forall_eq, Nat.reduceAdd, reduceIte, Nat.reduceEqDiff, reduceCtorEq, opLen, Int.reduceLT, Int.reduceEq, opConvert, opIndexAddr, opLoad, Nat.reduceLT, undef, Nat.reduceLeDiff, Array.toList, wk4, wk5, wk0, fxC17u, he, g5]
        refine lcheck_ret ⟨_, _, _, _, _, rfl, T.lr⟩ okL fun M' x' => ?_
        replace T := T.ext x'
        have g2 := T.g2
        have g5 := T.g5
        by_cases hc : lck { o with pl := (longS all t.2).1, br := (balS all (longS all t.2).2).1.1, bn := (balS all (longS all t.2).2).1.2, sm := false } = 0
        · rw [if_neg (by exact fun h => h hc)] at eL
          rw [eL] at hK
          simp only [wk6, Nat.reduceBEq, wk1, forall_eq, Nat.reduceAdd, reduceIte, Nat.reduceEqDiff, reduceCtorEq, opLen, Int.reduceLT, Int.reduceEq, opConvert, opIndexAddr, opLoad, Nat.reduceLT, undef, Nat.reduceLeDiff, Array.toList, wk4, wk5, wk0, fxC17u, hc, g5, g2]
          exact hK _ _ (T.x.set (i := b2) n25.1) ⟨_, _, _, _, _, rfl, T.lr.pz (Pz.set g2 _)⟩
        · rw [if_pos hc] at eL
          rw [eL] at hK
          simp only [wk6, Nat.reduceBEq, wk1, forall_eq, Nat.reduceAdd, reduceIte, Nat.reduceEqDiff, reduceCtorEq, opLen, Int.reduceLT, Int.reduceEq, opConvert, opIndexAddr, opLoad, Nat.reduceLT, undef, Nat.reduceLeDiff, Array.toList, wk4, wk5, wk0, fxC17u, hc, g2]
          exact hK _ _ (T.x.set (i := b2) n25.1) ⟨_, _, _, _, _, rfl, FRow.nil, FRow.nil, FRow.nil, FRow.nil, FRow.nil⟩
      · rw [if_pos he] at eL
        rw [eL] at hK
        simp only [wk6, Nat.reduceBEq, wk1, forall_eq, Nat.reduceAdd, reduceIte, Nat.reduceEqDiff, reduceCtorEq, opLen, Int.reduceLT, Int.reduceEq, opConvert, opIndexAddr, opLoad, Nat.reduceLT, undef, Nat.reduceLeDiff, Array.toList, wk4, wk5, wk0, fxC17u, he, hb25, g2p]
        exact hK _ _ (T.x.set (i := b2) n25.1) ⟨_, _, _, _, _, rfl, FRow.nil, FRow.nil, FRow.nil, FRow.nil, FRow.nil⟩
  · skip
    simp only [wk6, Nat.reduceBEq, wk1, forall_eq, Nat.reduceAdd, reduceIte, Nat.reduceEqDiff, reduceCtorEq, opLen, Int.reduceLT, Int.reduceEq, opConvert, opIndexAddr, opLoad, Nat.reduceLT, undef, Nat.reduceLeDiff, Array.toList, wk4, wk5, wk0, fxC17u, h]
    refine rlong_ret T.R hl hb fun M1 R1 f1 => ?_
    replace T := T.rd R1 f1
    simp only [wk6, Nat.reduceBEq, wk1, forall_eq, Nat.reduceAdd, reduceIte, Nat.reduceEqDiff, reduceCtorEq, opLen, Int.reduceLT, Int.reduceEq, opConvert, opIndexAddr, opLoad, Nat.reduceLT, undef, Nat.reduceLeDiff, Array.toList, wk4, wk5, wk0, fxC17u, e64]
    refine baltake_ret T.R hl hb fun M1 R1 f1 => ?_
    replace T := T.rd R1 f1
    have g5 := T.g5
    simp only [wk6, Nat.reduceBEq, wk1, forall_eq, Nat.reduceAdd, reduceIte, Nat.reduceEqDiff, reduceCtorEq, opLen, Int.reduceLT, Int.reduceEq, opConvert, opIndexAddr, opLoad, Nat.reduceLT, undef, Nat.reduceLeDiff, Array.toList, wk4, wk5, wk0, fxC17u, g5]
    have g2p := T.g2
    replace T := T.put (L' := { o with pl := (longS all t.2).1, br := (balS all (longS all t.2).2).1.1, bn := (balS all (longS all t.2).2).1.2 }) (ea' := nilS) (em' := nilS) (vm' := nilS) (ca' := nilS) (aa' := nilS) ⟨T.lr.ea, T.lr.em, T.lr.vm, T.lr.ca, T.lr.aa⟩
    refine vtake_ret T.R hl hb fun M1 v1 R1 f1 en => ?_
    obtain ⟨X, hX⟩ : ∃ X, X = (entS all (balS all (longS all t.2).2).2) := ⟨_, rfl⟩
    rw [← hX] at R1 en
    replace T := T.rd R1 f1
    obtain ⟨va, vb, rfl, s1, s2⟩ := en
    obtain ⟨c1, y1, rfl⟩ := s1.is
    obtain ⟨c2, y2, rfl⟩ := s2.is
    have g5 := T.g5
    simp only [wk6, Nat.reduceBEq, wk1, forall_eq, Nat.reduceAdd, reduceIte, Nat.reduceEqDiff, reduceCtorEq, opLen, Int.reduceLT, Int.reduceEq, opConvert, opIndexAddr, opLoad, Nat.reduceLT, undef, Nat.reduceLeDiff, Array.toList, wk4, wk5, wk0, fxC17u, g5]
    have g2p := T.g2
    replace T := T.put (L' := { o with pl := (longS all t.2).1, br := (balS all (longS all t.2).2).1.1, bn := (balS all (longS all t.2).2).1.2, E := X.1 }) (vm' := nilS) (ca' := nilS) (aa' := nilS) ⟨s1, s2, T.lr.vm, T.lr.ca, T.lr.aa⟩
    have eX : restS all o t.2 = ({ o with pl := (longS all t.2).1, br := (balS all (longS all t.2).2).1.1, bn := (balS all (longS all t.2).2).1.2, E := X.1 }, X.2) := by
      unfold restS
      rw [if_neg (by omega), if_neg (by omega), if_pos (by omega)]
      simp only
      rw [hX]
    rw [eX] at eS okL
    have eL : letS all = if endS all.length (rawS all).2 ≠ 0 then (zL, endS all.length (rawS all).2) else if lck (rawS all).1 ≠ 0 then (zL, lck (rawS all).1) else ((rawS all).1, 0) := rfl
    rw [eS] at eL
    dsimp only at eL okL
    refine end_ret T.R ?_
    have g2 := T.g2
    have n25 := T.n2
    have hb25 : ¬ b2 = b5 := by omega
    by_cases he : endS all.length X.2 = 0
    · rw [if_neg (by exact fun h => h he)] at eL
      have g5 := T.g5
      simp only [wk6, Nat.reduceBEq, wk1, forall_eq, Nat.reduceAdd, reduceIte, Nat.reduceEqDiff, reduceCtorEq, opLen, Int.reduceLT, Int.reduceEq, opConvert, opIndexAddr, opLoad, Nat.reduceLT, undef, Nat.reduceLeDiff, Array.toList, wk4, wk5, wk0, fxC17u, he, g5]
      refine lcheck_ret ⟨_, _, _, _, _, rfl, T.lr⟩ okL fun M' x' => ?_
      replace T := T.ext x'
      have g2 := T.g2
      have g5 := T.g5
      by_cases hc : lck { o with pl := (longS all t.2).1, br := (balS all (longS all t.2).2).1.1, bn := (balS all (longS all t.2).2).1.2, E := X.1 } = 0
      · rw [if_neg (by exact fun h => h hc)] at eL
        rw [eL] at hK
        simp only [wk6, Nat.reduceBEq, wk1, forall_eq, Nat.reduceAdd, reduceIte, Nat.reduceEqDiff, reduceCtorEq, opLen, Int.reduceLT, Int.reduceEq, opConvert, opIndexAddr, opLoad, Nat.reduceLT, undef, Nat.reduceLeDiff, Array.toList, wk4, wk5, wk0, fxC17u, hc, g5, g2]
        exact hK _ _ (T.x.set (i := b2) n25.1) ⟨_, _, _, _, _, rfl, T.lr.pz (Pz.set g2 _)⟩
      · rw [if_pos hc] at eL
        rw [eL] at hK
        simp only [wk6, Nat.reduceBEq, wk1, forall_eq, Nat.reduceAdd, reduceIte, Nat.reduceEqDiff, reduceCtorEq, opLen, Int.reduceLT, Int.reduceEq, opConvert, opIndexAddr, opLoad, Nat.reduceLT, undef, Nat.reduceLeDiff, Array.toList, wk4, wk5, wk0, fxC17u, hc, g2]
        exact hK _ _ (T.x.set (i := b2) n25.1) ⟨_, _, _, _, _, rfl, FRow.nil, FRow.nil, FRow.nil, FRow.nil, FRow.nil⟩
    · rw [if_pos he] at eL
      rw [eL] at hK
      simp only [wk6, Nat.reduceBEq, wk1, forall_eq, Nat.reduceAdd, reduceIte, Nat.reduceEqDiff, reduceCtorEq, opLen, Int.reduceLT, Int.reduceEq, opConvert, opIndexAddr, opLoad, Nat.reduceLT, undef, Nat.reduceLeDiff, Array.toList, wk4, wk5, wk0, fxC17u, he, hb25, g2p]
      exact hK _ _ (T.x.set (i := b2) n25.1) ⟨_, _, _, _, _, rfl, FRow.nil, FRow.nil, FRow.nil, FRow.nil, FRow.nil⟩
  · skip
    simp only [wk6, Nat.reduceBEq, wk1, forall_eq, Nat.reduceAdd, reduceIte, Nat.reduceEqDiff, reduceCtorEq, opLen, Int.reduceLT, Int.reduceEq, opConvert, opIndexAddr, opLoad, Nat.reduceLT, undef, Nat.reduceLeDiff, Array.toList, wk4, wk5, wk0, fxC17u, h]
    refine rlong_ret T.R hl hb fun M1 R1 f1 => ?_
    replace T := T.rd R1 f1
    simp only [wk6, Nat.reduceBEq, wk1, forall_eq, Nat.reduceAdd, reduceIte, Nat.reduceEqDiff, reduceCtorEq, opLen, Int.reduceLT, Int.reduceEq, opConvert, opIndexAddr, opLoad, Nat.reduceLT, undef, Nat.reduceLeDiff, Array.toList, wk4, wk5, wk0, fxC17u, e64]
    refine vtake_ret T.R hl hb fun M1 v1 R1 f1 en => ?_
    obtain ⟨X, hX⟩ : ∃ X, X = (entS all (longS all t.2).2) := ⟨_, rfl⟩
    rw [← hX] at R1 en
    replace T := T.rd R1 f1
    obtain ⟨va, vb, rfl, s1, s2⟩ := en
    obtain ⟨c1, y1, rfl⟩ := s1.is
    obtain ⟨c2, y2, rfl⟩ := s2.is
    have g5 := T.g5
    simp only [wk6, Nat.reduceBEq, wk1, forall_eq, Nat.reduceAdd, reduceIte, Nat.reduceEqDiff, reduceCtorEq, opLen, Int.reduceLT, Int.reduceEq, opConvert, opIndexAddr, opLoad, Nat.reduceLT, undef, Nat.reduceLeDiff, Array.toList, wk4, wk5, wk0, fxC17u, g5]
    have g2p := T.g2
    replace T := T.put (L' := { o with pl := (longS all t.2).1, E := X.1 }) (vm' := nilS) (ca' := nilS) (aa' := nilS) ⟨s1, s2, T.lr.vm, T.lr.ca, T.lr.aa⟩
    have eX : restS all o t.2 = ({ o with pl := (longS all t.2).1, E := X.1 }, X.2) := by
      unfold restS
      rw [if_neg (by omega), if_neg (by omega), if_neg (by omega), if_pos (by omega)]
      simp only
      rw [hX]
    rw [eX] at eS okL
    have eL : letS all = if endS all.length (rawS all).2 ≠ 0 then (zL, endS all.length (rawS all).2) else if lck (rawS all).1 ≠ 0 then (zL, lck (rawS all).1) else ((rawS all).1, 0) := rfl
    rw [eS] at eL
    dsimp only at eL okL
    refine end_ret T.R ?_
    have g2 := T.g2
    have n25 := T.n2
    have hb25 : ¬ b2 = b5 := by omega
    by_cases he : endS all.length X.2 = 0
    · rw [if_neg (by exact fun h => h he)] at eL
      have g5 := T.g5
      simp only [wk6, Nat.reduceBEq, wk1, forall_eq, Nat.reduceAdd, reduceIte, Nat.reduceEqDiff, reduceCtorEq, opLen, Int.reduceLT, Int.reduceEq, opConvert, opIndexAddr, opLoad, Nat.reduceLT, undef, Nat.reduceLeDiff, Array.toList, wk4, wk5, wk0, fxC17u, he, g5]
      refine lcheck_ret ⟨_, _, _, _, _, rfl, T.lr⟩ okL fun M' x' => ?_
      replace T := T.ext x'
      have g2 := T.g2
      have g5 := T.g5
      by_cases hc : lck { o with pl := (longS all t.2).1, E := X.1 } = 0
      · rw [if_neg (by exact fun h => h hc)] at eL
        rw [eL] at hK
        simp only [wk6, Nat.reduceBEq, wk1, forall_eq, Nat.reduceAdd, reduceIte, Nat.reduceEqDiff, reduceCtorEq, opLen, Int.reduceLT, Int.reduceEq, opConvert, opIndexAddr, opLoad, Nat.reduceLT, undef, Nat.reduceLeDiff, Array.toList, wk4, wk5, wk0, fxC17u, hc, g5, g2]
        exact hK _ _ (T.x.set (i := b2) n25.1) ⟨_, _, _, _, _, rfl, T.lr.pz (Pz.set g2 _)⟩
      · rw [if_pos hc] at eL
        rw [eL] at hK
        simp only [wk6, Nat.reduceBEq, wk1, forall_eq, Nat.reduceAdd, reduceIte, Nat.reduceEqDiff, reduceCtorEq, opLen, Int.reduceLT, Int.reduceEq, opConvert, opIndexAddr, opLoad, Nat.reduceLT, undef, Nat.reduceLeDiff, Array.toList, wk4, wk5, wk0, fxC17u, hc, g2]
        exact hK _ _ (T.x.set (i := b2) n25.1) ⟨_, _, _, _, _, rfl, FRow.nil, FRow.nil, FRow.nil, FRow.nil, FRow.nil⟩
    · rw [if_pos he] at eL
      rw [eL] at hK
      simp only [wk6, Nat.reduceBEq, wk1, forall_eq, Nat.reduceAdd, reduceIte, Nat.reduceEqDiff, reduceCtorEq, opLen, Int.reduceLT, Int.reduceEq, opConvert, opIndexAddr, opLoad, Nat.reduceLT, undef, Nat.reduceLeDiff, Array.toList, wk4, wk5, wk0, fxC17u, he, hb25, g2p]
      exact hK _ _ (T.x.set (i := b2) n25.1) ⟨_, _, _, _, _, rfl, FRow.nil, FRow.nil, FRow.nil, FRow.nil, FRow.nil⟩
  · skip
    simp only [wk6, Nat.reduceBEq, wk1, forall_eq, Nat.reduceAdd, reduceIte, Nat.reduceEqDiff, reduceCtorEq, opLen, Int.reduceLT, Int.reduceEq, opConvert, opIndexAddr, opLoad, Nat.reduceLT, undef, Nat.reduceLeDiff, Array.toList, wk4, wk5, wk0, fxC17u, h]
    refine rlong_ret T.R hl hb fun M1 R1 f1 => ?_
    replace T := T.rd R1 f1
    have g5 := T.g5
    simp only [wk6, Nat.reduceBEq, wk1, forall_eq, Nat.reduceAdd, reduceIte, Nat.reduceEqDiff, reduceCtorEq, opLen, Int.reduceLT, Int.reduceEq, opConvert, opIndexAddr, opLoad, Nat.reduceLT, undef, Nat.reduceLeDiff, Array.toList, wk4, wk5, wk0, fxC17u, e64, g5]
    have g2p := T.g2
    replace T := T.put (L' := { o with pl := (longS all t.2).1 }) (ea' := nilS) (em' := nilS) (vm' := nilS) (ca' := nilS) (aa' := nilS) ⟨T.lr.ea, T.lr.em, T.lr.vm, T.lr.ca, T.lr.aa⟩
    have eX : restS all o t.2 = ({ o with pl := (longS all t.2).1 }, (longS all t.2).2) := by
      unfold restS
      rw [if_neg (by omega), if_neg (by omega), if_neg (by omega), if_neg (by omega), if_pos (by omega)]
    rw [eX] at eS okL
    have eL : letS all = if endS all.length (rawS all).2 ≠ 0 then (zL, endS all.length (rawS all).2) else if lck (rawS all).1 ≠ 0 then (zL, lck (rawS all).1) else ((rawS all).1, 0) := rfl
    rw [eS] at eL
    dsimp only at eL okL
    refine end_ret T.R ?_
    have g2 := T.g2
    have n25 := T.n2
    have hb25 : ¬ b2 = b5 := by omega
    by_cases he : endS all.length (longS all t.2).2 = 0
    · rw [if_neg (by exact fun h => h he)] at eL
      have g5 := T.g5
      simp only [wk6, Nat.reduceBEq, wk1, forall_eq, Nat.reduceAdd, reduceIte, Nat.reduceEqDiff, reduceCtorEq, opLen, Int.reduceLT, Int.reduceEq, opConvert, opIndexAddr, opLoad, Nat.reduceLT, undef, Nat.reduceLeDiff, Array.toList, wk4, wk5, wk0, fxC17u, he, g5]
      refine lcheck_ret ⟨_, _, _, _, _, rfl, T.lr⟩ okL fun M' x' => ?_
      replace T := T.ext x'
      have g2 := T.g2
      have g5 := T.g5
      by_cases hc : lck { o with pl := (longS all t.2).1 } = 0
      · rw [if_neg (by exact fun h => h hc)] at eL
        rw [eL] at hK
        simp only [wk6, Nat.reduceBEq, wk1, forall_eq, Nat.reduceAdd, reduceIte, Nat.reduceEqDiff, reduceCtorEq, opLen, Int.reduceLT, Int.reduceEq, opConvert, opIndexAddr, opLoad, Nat.reduceLT, undef, Nat.reduceLeDiff, Array.toList, wk4, wk5, wk0, fxC17u, hc, g5, g2]
        exact hK _ _ (T.x.set (i := b2) n25.1) ⟨_, _, _, _, _, rfl, T.lr.pz (Pz.set g2 _)⟩
      · rw [if_pos hc] at eL
        rw [eL] at hK
        simp only [wk6, Nat.reduceBEq, wk1, forall_eq, Nat.reduceAdd, reduceIte, Nat.reduceEqDiff, reduceCtorEq, opLen, Int.reduceLT, Int.reduceEq, opConvert, opIndexAddr, opLoad, Nat.reduceLT, undef, Nat.reduceLeDiff, Array.toList, wk4, wk5, wk0, fxC17u, hc, g2]
        exact hK _ _ (T.x.set (i := b2) n25.1) ⟨_, _, _, _, _, rfl, FRow.nil, FRow.nil, FRow.nil, FRow.nil, FRow.nil⟩
    · rw [if_pos he] at eL
      rw [eL] at hK
      simp only [wk6, Nat.reduceBEq, wk1, forall_eq, Nat.reduceAdd, reduceIte, Nat.reduceEqDiff, reduceCtorEq, opLen, Int.reduceLT, Int.reduceEq, opConvert, opIndexAddr, opLoad, Nat.reduceLT, undef, Nat.reduceLeDiff, Array.toList, wk4, wk5, wk0, fxC17u, he, hb25, g2p]
      exact hK _ _ (T.x.set (i := b2) n25.1) ⟨_, _, _, _, _, rfl, FRow.nil, FRow.nil, FRow.nil, FRow.nil, FRow.nil⟩
  · skip
    simp only [wk6, Nat.reduceBEq, wk1, forall_eq, Nat.reduceAdd, reduceIte, Nat.reduceEqDiff, reduceCtorEq, opLen, Int.reduceLT, Int.reduceEq, opConvert, opIndexAddr, opLoad, Nat.reduceLT, undef, Nat.reduceLeDiff, Array.toList, wk4, wk5, wk0, fxC17u, h]
    refine ctake_ret T.R hl hb fun M1 v1 R1 f1 en => ?_
    obtain ⟨X, hX⟩ : ∃ X, X = callS all t.2 := ⟨_, rfl⟩
    rw [← hX] at R1 en ⊢
    replace T := T.rd R1 f1
    obtain ⟨c1, y1, rfl⟩ := en.is
    have g5 := T.g5
    simp only [wk6, Nat.reduceBEq, wk1, forall_eq, Nat.reduceAdd, reduceIte, Nat.reduceEqDiff, reduceCtorEq, opLen, Int.reduceLT, Int.reduceEq, opConvert, opIndexAddr, opLoad, Nat.reduceLT, undef, Nat.reduceLeDiff, Array.toList, wk4, wk5, wk0, fxC17u, g5]
    have g2p := T.g2
    replace T := T.put (L' := { o with C := ⟨X.1.t, X.1.n, X.1.p, X.1.args⟩ }) (ea' := nilS) (em' := nilS) (vm' := nilS) (aa' := nilS) ⟨T.lr.ea, T.lr.em, T.lr.vm, en, T.lr.aa⟩
    have eX : restS all o t.2 = ({ o with C := ⟨X.1.t, X.1.n, X.1.p, X.1.args⟩ }, X.2) := by
      unfold restS
      rw [if_neg (by omega), if_neg (by omega), if_neg (by omega), if_neg (by omega), if_neg (by omega), if_pos (by omega)]
      simp only
      rw [hX]
    rw [eX] at eS okL
    have eL : letS all = if endS all.length (rawS all).2 ≠ 0 then (zL, endS all.length (rawS all).2) else if lck (rawS all).1 ≠ 0 then (zL, lck (rawS all).1) else ((rawS all).1, 0) := rfl
    rw [eS] at eL
    dsimp only at eL okL
    refine end_ret T.R ?_
    have g2 := T.g2
    have n25 := T.n2
    have hb25 : ¬ b2 = b5 := by omega
    by_cases he : endS all.length X.2 = 0
    · rw [if_neg (by exact fun h => h he)] at eL
      have g5 := T.g5
      simp only [wk6, Nat.reduceBEq, wk1, forall_eq, Nat.reduceAdd, reduceIte, Nat.reduceEqDiff, reduceCtorEq, opLen, Int.reduceLT, Int.reduceEq, opConvert, opIndexAddr, opLoad, Nat.reduceLT, undef, Nat.reduceLeDiff, Array.toList, wk4, wk5, wk0, fxC17u, he, g5]
      refine lcheck_ret ⟨_, _, _, _, _, rfl, T.lr⟩ okL fun M' x' => ?_
      replace T := T.ext x'
      have g2 := T.g2
      have g5 := T.g5
      by_cases hc : lck { o with C := ⟨X.1.t, X.1.n, X.1.p, X.1.args⟩ } = 0
      · rw [if_neg (by exact fun h => h hc)] at eL
        rw [eL] at hK
        simp only [wk6, Nat.reduceBEq, wk1, forall_eq, Nat.reduceAdd, reduceIte, Nat.reduceEqDiff, reduceCtorEq, opLen, Int.reduceLT, Int.reduceEq, opConvert, opIndexAddr, opLoad, Nat.reduceLT, undef, Nat.reduceLeDiff, Array.toList, wk4, wk5, wk0, fxC17u, hc, g5, g2]
        exact hK _ _ (T.x.set (i := b2) n25.1) ⟨_, _, _, _, _, rfl, T.lr.pz (Pz.set g2 _)⟩
      · rw [if_pos hc] at eL
        rw [eL] at hK
        simp only [wk6, Nat.reduceBEq, wk1, forall_eq, Nat.reduceAdd, reduceIte, Nat.reduceEqDiff, reduceCtorEq, opLen, Int.reduceLT, Int.reduceEq, opConvert, opIndexAddr, opLoad, Nat.reduceLT, undef, Nat.reduceLeDiff, Array.toList, wk4, wk5, wk0, fxC17u, hc, g2]
        exact hK _ _ (T.x.set (i := b2) n25.1) ⟨_, _, _, _, _, rfl, FRow.nil, FRow.nil, FRow.nil, FRow.nil, FRow.nil⟩
    · rw [if_pos he] at eL
      rw [eL] at hK
      simp only [wk6, Nat.reduceBEq, wk1, forall_eq, Nat.reduceAdd, reduceIte, Nat.reduceEqDiff, reduceCtorEq, opLen, Int.reduceLT, Int.reduceEq, opConvert, opIndexAddr, opLoad, Nat.reduceLT, undef, Nat.reduceLeDiff, Array.toList, wk4, wk5, wk0, fxC17u, he, hb25, g2p]
      exact hK _ _ (T.x.set (i := b2) n25.1) ⟨_, _, _, _, _, rfl, FRow.nil, FRow.nil, FRow.nil, FRow.nil, FRow.nil⟩
  · skip
    simp only [wk6, Nat.reduceBEq, wk1, forall_eq, Nat.reduceAdd, reduceIte, Nat.reduceEqDiff, reduceCtorEq, opLen, Int.reduceLT, Int.reduceEq, opConvert, opIndexAddr, opLoad, Nat.reduceLT, undef, Nat.reduceLeDiff, Array.toList, wk4, wk5, wk0, fxC17u, h]
    refine rword_ret T.R hl hb fun M1 R1 f1 => ?_
    replace T := T.rd R1 f1
    simp only [wk6, Nat.reduceBEq, wk1, forall_eq, Nat.reduceAdd, reduceIte, Nat.reduceEqDiff, reduceCtorEq, opLen, Int.reduceLT, Int.reduceEq, opConvert, opIndexAddr, opLoad, Nat.reduceLT, undef, Nat.reduceLeDiff, Array.toList, wk4, wk5, wk0, fxC17u]
    refine rword_ret T.R hl hb fun M1 R1 f1 => ?_
    replace T := T.rd R1 f1
    have g5 := T.g5
    simp only [wk6, Nat.reduceBEq, wk1, forall_eq, Nat.reduceAdd, reduceIte, Nat.reduceEqDiff, reduceCtorEq, opLen, Int.reduceLT, Int.reduceEq, opConvert, opIndexAddr, opLoad, Nat.reduceLT, undef, Nat.reduceLeDiff, Array.toList, wk4, wk5, wk0, fxC17u, g5]
    have g2p := T.g2
    replace T := T.put (L' := { o with it := (wordS all t.2).1, nn := (wordS all (wordS all t.2).2).1 }) (ea' := nilS) (em' := nilS) (vm' := nilS) (ca' := nilS) (aa' := nilS) ⟨T.lr.ea, T.lr.em, T.lr.vm, T.lr.ca, T.lr.aa⟩
    refine rlong_ret T.R hl hb fun M1 R1 f1 => ?_
    replace T := T.rd R1 f1
    have g5 := T.g5
    simp only [wk6, Nat.reduceBEq, wk1, forall_eq, Nat.reduceAdd, reduceIte, Nat.reduceEqDiff, reduceCtorEq, opLen, Int.reduceLT, Int.reduceEq, opConvert, opIndexAddr, opLoad, Nat.reduceLT, undef, Nat.reduceLeDiff, Array.toList, wk4, wk5, wk0, fxC17u, e64, g5]
    have g2p := T.g2
    replace T := T.put (L' := { o with it := (wordS all t.2).1, nn := (wordS all (wordS all t.2).2).1, vn := (longS all (wordS all (wordS all t.2).2).2).1 }) (ea' := nilS) (em' := nilS) (vm' := nilS) (ca' := nilS) (aa' := nilS) ⟨T.lr.ea, T.lr.em, T.lr.vm, T.lr.ca, T.lr.aa⟩
    have hnm := within_most (most := 16) hb T.R.2.2.2.1 (by decide)
    refine within_ret T.R hl hb fun M1 R1 f1 => ?_
    replace T := T.rd R1 f1
    obtain ⟨NN, hNN⟩ : ∃ N, N = (withinS all 16 (longS all (wordS all (wordS all t.2).2).2).2) := ⟨_, rfl⟩
    rw [← hNN] at T hnm ⊢
    obtain ⟨n, hn⟩ : ∃ n : Nat, NN.1 = (n : Int) := ⟨NN.1.toNat, by omega⟩
    rw [hn] at hnm ⊢
    obtain ⟨Lo, hLo⟩ : ∃ L : Let, L = { o with it := (wordS all t.2).1, nn := (wordS all (wordS all t.2).2).1, vn := (longS all (wordS all (wordS all t.2).2).2).1 } := ⟨_, rfl⟩
    rw [← hLo] at T
    simp only [wk6, Nat.reduceBEq, wk1, forall_eq, Nat.reduceAdd, reduceIte, Nat.reduceEqDiff, reduceCtorEq, opLen, Int.reduceLT, Int.reduceEq, opConvert, opIndexAddr, opLoad, Nat.reduceLT, undef, Nat.reduceLeDiff, Array.toList, wk4, wk5, wk0, fxC17u]
    refine loop_wp [(26, [2])] (by kernel_rfl) (fun q env μ => ∃ (j rr : Nat) (v : Value), q + j = n ∧ Ext m μ ∧ Rri μ i r all (wordsS all j NN.2).2 ∧ b5 < μ.next ∧ μ.get b2 = some (.cells (zCells 0 0 0) 51 true) ∧ μ.get b5 = some (.cells (letC Lo nilS nilS v nilS nilS) 51 true) ∧ OwnI rr 3 1 μ v j (intCells (wordsS all j NN.2).1) ∧ b5 < rr ∧ env 2 = some (.pointer (some ⟨b2, 0, none⟩)) ∧ env 4 = some (.pointer (some ⟨i, 0, none⟩)) ∧ env 5 = some (.pointer (some ⟨b5, 0, none⟩)) ∧ env 3 = some (.int .i64 0) ∧ env 97 = some (.int .i64 n) ∧ env 98 = some (.int .i64 j)) ?_ n
      ⟨0, b5 + 1, nilS, rfl, T.x, T.R, T.n2.2.2.2.2.2, T.g2, T.g5, OwnI.nil, Nat.lt_succ_self _, rfl, rfl, rfl, rfl, rfl, rfl⟩
    have N25 := T.n2
    clear T
    rintro q env μ ⟨j, rr, v, hq, X, R, hb5', gb2, gb5, ow, ov, e2, e4, e5, e3, e97, e98⟩
    simp only [wk6, Nat.reduceBEq, wk1, forall_eq, Nat.reduceAdd, reduceIte, Nat.reduceEqDiff, reduceCtorEq, opLen, Int.reduceLT, Int.reduceEq, opConvert, opIndexAddr, opLoad, Nat.reduceLT, undef, Nat.reduceLeDiff, Array.toList, wk4, wk5, wk0, fxC17u, e97, e98]
    refine cond_by (fun hlt => ?_) (fun hge => ?_)
    · have hj : j < n := by omega
      have cv := ow.cell
      simp only [wk6, Nat.reduceBEq, wk1, forall_eq, Nat.reduceAdd, reduceIte, Nat.reduceEqDiff, reduceCtorEq, opLen, Int.reduceLT, Int.reduceEq, opConvert, opIndexAddr, opLoad, Nat.reduceLT, undef, Nat.reduceLeDiff, Array.toList, wk4, wk5, wk0, fxC17u, e4, e5]
      refine Loose.freshTo [(2, 0)] 10 (by kernel_rfl) (by kernel_rfl) ?_
      simp only [wk2, wk7, Nat.reduceBEq, Nat.reduceSub, Nat.reduceAdd, reduceIte, Nat.reduceEqDiff, reduceCtorEq, opLen, Int.reduceLT, Int.reduceEq, opConvert, opIndexAddr, opLoad, Nat.reduceLT, undef, Nat.reduceLeDiff, Array.toList, wk4, wk5, wk0, fxC17u, e4, e5, gb5]
      refine ⟨cv.2.2.2, ?_⟩
      refine rword_ret R hl hb fun μ1 R4 f4 => ?_
      have wv := wordS_val (s := (wordsS all j NN.2).2) hb
      have es1 : (wordsS all (j + 1) NN.2).1 = (wordsS all j NN.2).1 ++ [(wordS all (wordsS all j NN.2).2).1] := rfl
      have es2 : (wordsS all (j + 1) NN.2).2 = (wordS all (wordsS all j NN.2).2).2 := rfl
      obtain ⟨x, hx⟩ : ∃ x, x = (wordS all (wordsS all j NN.2).2).1 := ⟨_, rfl⟩
      rw [← hx] at wv es1 ⊢
      rw [← es2] at R4
      have l4' := f4.1
      have w64 : IntKind.i64.wrap x = x := wrap_i64 (by omega) (by omega)
      have gb4 := (f4.2 b5 (by omega) (by omega)).trans gb5
      have gz4 := (f4.2 b2 (by omega) (by omega)).trans gb2
      have o4 : OwnI rr 3 1 μ1 v j (intCells (wordsS all j NN.2).1) := ow.keepN l4' fun hv hr => f4.2 rr hr (by omega)
      have on : OwnI μ1.next 3 1 (μ1.new (.cells (intCells [x]) 3 true)) (.slice (some ⟨μ1.next, 0, none⟩) 1 1) 1 (intCells [x]) := OwnI.made rfl
      obtain ⟨a5, q5, μ2, rr2, ee, o5, n5, l5, f5⟩ := (o4.ext (Ext.new μ1 (.cells (intCells [x]) 3 true))).push (P := Try.prog) (t := 42) (tx := 42) Try.underlying42 ⟨_, Try.underlying42⟩ ts3 (by decide) tz3 tb3 (by decide) rfl rfl on.rd.showsR (by omega)
      simp only [new_next] at n5 l5 f5
      have hrr2 : b5 < rr2 ∧ rr2 < μ2.next := by omega
      have f5' : ∀ k, k ≤ b5 → μ2.get k = μ1.get k := fun k hk => by
        rw [f5 k (by omega) (fun h => by omega), new_get_ne _ (by omega)]
      have gb6 := (f5' b5 (Nat.le_refl _)).trans gb4
      have hne : ¬ b5 = μ1.next := by omega
      have hw1 : IntKind.i64.wrap ((j : Int) + 1) = ((j + 1 : Nat) : Int) := by rw [wrap_i64 (by omega) (by omega)]; rfl
      have hne0 : ¬ b2 = b5 := by omega
      have gz5 := (f5' b2 (by omega)).trans gz4
      have ee : opAppend Try.prog [42, 42] [v, .slice (some ⟨μ1.next, 0, none⟩) 1 1] (μ1.new (.cells [.int .i64 x] 3 true)) = some (.slice a5 (j + 1) q5, μ2) := ee
      simp only [wk2, wk7, Nat.reduceBEq, Nat.reduceSub, Nat.reduceAdd, reduceIte, Nat.reduceEqDiff, reduceCtorEq, opLen, Int.reduceLT, Int.reduceEq, opConvert, opIndexAddr, opLoad, Nat.reduceLT, undef, Nat.reduceLeDiff, Array.toList, wk4, wk5, wk0, fxC17u, one_intM, gb4, w64, ee, gb6, hne, gb5, e2, e3, e4, e5, e97, e98, hw1, hne0, gz5]
      have X2 : Ext m μ2 := ⟨by have := X.1; omega, fun k hk => by rw [f5' k (by omega), f4.2 k (by have := X.1; omega) (by omega), X.2 k hk]⟩
      refine ⟨q - 1, by omega, j + 1, rr2, _, by omega, ?_, ?_, ?_, rfl, ?_, hrr2.1, rfl⟩
      · exact X2.set (by omega)
      · exact R4.keep (by simp only [set_next]; omega) (by rw [set_get_ne _ (by omega), f5' i (by omega)]) (by rw [set_get_ne _ (by omega), f5' r (by omega)])
      · omega
      have : intCells (wordsS all (j + 1) NN.2).1 = intCells (wordsS all j NN.2).1 ++ intCells [x] := by
        rw [es1]; simp
      rw [this]
      exact o5.keep (Nat.le_refl _) fun _ => set_get_ne _ (by omega)
    · have hj : j = n := by omega
      subst hj
      have hlen := wordsS_len all j NN.2
      have eW : wordsS all NN.1.toNat NN.2 = wordsS all j NN.2 := by rw [hn]; rfl
      obtain ⟨Ls, hLs⟩ : ∃ L, L = wordsS all j NN.2 := ⟨_, rfl⟩
      rw [← hLs] at ow R hlen eW
      obtain ⟨a5, q5, rfl⟩ := ow.is
      simp only [wk6, Nat.reduceBEq, wk1, forall_eq, Nat.reduceAdd, reduceIte, Nat.reduceEqDiff, reduceCtorEq, opLen, Int.reduceLT, Int.reduceEq, opConvert, opIndexAddr, opLoad, Nat.reduceLT, undef, Nat.reduceLeDiff, Array.toList, wk4, wk5, wk0, fxC17u, e2, e3, e4, e5, e97, e98, gb5]
      obtain ⟨μ0, zf, fr, nf, kf⟩ := ow.frz
      refine Ret.thaw zf ?_
      rw [← hlen] at fr
      have hE : Lo.E = zE := by rw [hLo]; exact congrArg Let.E ho
      have hC : Lo.C = zC := by rw [hLo]; exact congrArg Let.C ho
      have hA : Lo.A = zA := by rw [hLo]; exact congrArg Let.A ho
      have T : TS m μ0 i r all Ls.2 b2 b5 { Lo with vm := Ls.1 } nilS nilS (.slice a5 j q5) nilS nilS := by
        refine ⟨⟨by have := X.1; omega, fun k hk => (kf k (by omega)).trans (X.2 k hk)⟩, R.keep (by omega) (kf i (by omega)) (kf r (by omega)), ⟨N25.1, N25.2.1, N25.2.2.1, N25.2.2.2.1, N25.2.2.2.2.1, by omega⟩, (kf b2 (by omega)).trans gb2, (kf b5 (by omega)).trans gb5, by show FRow _ nilS 1 Lo.E.args.length (byteCells Lo.E.args); rw [hE]; exact FRow.nil, by show FRow _ nilS 1 Lo.E.mem.length (ints Lo.E.mem); rw [hE]; exact FRow.nil, ?_, by show FRow _ nilS 1 Lo.C.s.length (byteCells Lo.C.s); rw [hC]; exact FRow.nil, by show FRow _ nilS 1 Lo.A.s.length (byteCells Lo.A.s); rw [hA]; exact FRow.nil⟩
        show FRow _ _ 1 Ls.1.length (ints Ls.1)
        rw [← hlen]
        exact fr
      refine atake_ret T.R hl hb fun M1 v1 R1 f1 en => ?_
      obtain ⟨X, hX⟩ : ∃ X, X = ansS all Ls.2 := ⟨_, rfl⟩
      rw [← hX] at R1 en ⊢
      replace T := T.rd R1 f1
      obtain ⟨c1, y1, rfl⟩ := en.is
      have g5 := T.g5
      simp only [wk6, Nat.reduceBEq, wk1, forall_eq, Nat.reduceAdd, reduceIte, Nat.reduceEqDiff, reduceCtorEq, opLen, Int.reduceLT, Int.reduceEq, opConvert, opIndexAddr, opLoad, Nat.reduceLT, undef, Nat.reduceLeDiff, Array.toList, wk4, wk5, wk0, fxC17u, g5, e2, e3, e4, e5]
      have g2p := T.g2
      replace T := T.put (L' := { Lo with vm := Ls.1, A := ⟨X.1.e, X.1.r, X.1.args⟩ }) (ea' := nilS) (em' := nilS) (ca' := nilS) ⟨T.lr.ea, T.lr.em, T.lr.vm, T.lr.ca, en⟩
      have eX : restS all o t.2 = ({ Lo with vm := Ls.1, A := ⟨X.1.e, X.1.r, X.1.args⟩ }, X.2) := by
        unfold restS
        rw [if_neg (by omega), if_neg (by omega), if_neg (by omega), if_neg (by omega), if_neg (by omega), if_neg (by omega)]
        simp only
        rw [← hNN, eW, hLo, hX]
      rw [eX] at eS okL
      have eL : letS all = if endS all.length (rawS all).2 ≠ 0 then (zL, endS all.length (rawS all).2) else if lck (rawS all).1 ≠ 0 then (zL, lck (rawS all).1) else ((rawS all).1, 0) := rfl
      rw [eS] at eL
      dsimp only at eL okL
      refine end_ret T.R ?_
      have g2 := T.g2
      have n25 := T.n2
      have hb25 : ¬ b2 = b5 := by omega
      by_cases he : endS all.length X.2 = 0
      · rw [if_neg (by exact fun h => h he)] at eL
        have g5 := T.g5
        simp only [wk6, Nat.reduceBEq, wk1, forall_eq, Nat.reduceAdd, reduceIte, Nat.reduceEqDiff, reduceCtorEq, opLen, Int.reduceLT, Int.reduceEq, opConvert, opIndexAddr, opLoad, Nat.reduceLT, undef, Nat.reduceLeDiff, Array.toList, wk4, wk5, wk0, fxC17u, he, g5, e2, e3, e4, e5]
        refine lcheck_ret ⟨_, _, _, _, _, rfl, T.lr⟩ okL fun M' x' => ?_
        replace T := T.ext x'
        have g2 := T.g2
        have g5 := T.g5
        by_cases hc : lck { Lo with vm := Ls.1, A := ⟨X.1.e, X.1.r, X.1.args⟩ } = 0
        · rw [if_neg (by exact fun h => h hc)] at eL
          rw [eL] at hK
          simp only [wk6, Nat.reduceBEq, wk1, forall_eq, Nat.reduceAdd, reduceIte, Nat.reduceEqDiff, reduceCtorEq, opLen, Int.reduceLT, Int.reduceEq, opConvert, opIndexAddr, opLoad, Nat.reduceLT, undef, Nat.reduceLeDiff, Array.toList, wk4, wk5, wk0, fxC17u, hc, g5, g2, e2, e3, e4, e5]
          exact hK _ _ (T.x.set (i := b2) n25.1) ⟨_, _, _, _, _, rfl, T.lr.pz (Pz.set g2 _)⟩
        · rw [if_pos hc] at eL
          rw [eL] at hK
          simp only [wk6, Nat.reduceBEq, wk1, forall_eq, Nat.reduceAdd, reduceIte, Nat.reduceEqDiff, reduceCtorEq, opLen, Int.reduceLT, Int.reduceEq, opConvert, opIndexAddr, opLoad, Nat.reduceLT, undef, Nat.reduceLeDiff, Array.toList, wk4, wk5, wk0, fxC17u, hc, g2, e2, e3, e4, e5]
          exact hK _ _ (T.x.set (i := b2) n25.1) ⟨_, _, _, _, _, rfl, FRow.nil, FRow.nil, FRow.nil, FRow.nil, FRow.nil⟩
      · rw [if_pos he] at eL
        rw [eL] at hK
        simp only [wk6, Nat.reduceBEq, wk1, forall_eq, Nat.reduceAdd, reduceIte, Nat.reduceEqDiff, reduceCtorEq, opLen, Int.reduceLT, Int.reduceEq, opConvert, opIndexAddr, opLoad, Nat.reduceLT, undef, Nat.reduceLeDiff, Array.toList, wk4, wk5, wk0, fxC17u, he, hb25, g2p, e2, e3, e4, e5]
        exact hK _ _ (T.x.set (i := b2) n25.1) ⟨_, _, _, _, _, rfl, FRow.nil, FRow.nil, FRow.nil, FRow.nil, FRow.nil⟩
end Go.Proofs.Ytejgoooanapjbaa
