/- A text of the abstract machine. -/






/- Letters: the laws' common part. -/
import Derived.Test.YtejgoooanapjbaaAmC17x
import Derived.Test.YtejgoooanapjbaaAmArgs7
import Derived.Test.YtejgoooanapjbaaAmBun
set_option linter.unusedSimpArgs false
set_option linter.unusedVariables false
set_option maxRecDepth 100000
set_option maxHeartbeats 4000000
namespace Go.Proofs.Ytejgoooanapjbaa
open Go Go.AM Go.AM.Crc Go.AM.Wire
theorem fxC17y : type_of% (And.intro (And.intro (And.intro (And.intro (And.intro (And.intro (And.intro (And.intro @Try.underlying3 @Try.underlying4) (And.intro @Try.underlying5 @Try.underlying9)) (And.intro (And.intro @Try.underlying42 @Try.underlying46) (And.intro @Try.underlying47 @Try.underlying123))) (And.intro (And.intro (And.intro @Try.underlying23 @Try.underlying26) (And.intro @Try.underlying28 @Try.underlying39)) (And.intro (And.intro @Try.underlying41 @Try.underlying44) (And.intro @Try.underlying24 @Try.underlying37)))) (And.intro (And.intro (And.intro (And.intro @Try.underlying22 @Try.underlying0) (And.intro @Try.underlying100 @Try.underlying66)) (And.intro (And.intro @Try.underlying68 @Try.underlying78) (And.intro @Try.underlying103 @Try.underlying49))) (And.intro (And.intro (And.intro @Try.underlying34 @Try.underlying36) (And.intro @Try.underlying51 @Try.underlying53)) (And.intro (And.intro @Try.underlying55 @Try.underlying88) (And.intro @Try.underlying32 (And.intro @Try.underlying30 @Try.underlying61)))))) (And.intro (And.intro (And.intro (And.intro (And.intro @Try.underlying63 @Try.underlying90) (And.intro @Try.underlying92 @Try.underlying94)) (And.intro (And.intro @ts3 @ts4) (And.intro @ts5 @ts9))) (And.intro (And.intro (And.intro @ts42 @ts46) (And.intro @ts47 @ts123)) (And.intro (And.intro @ts23 @ts26) (And.intro @ts28 (And.intro @ts39 @ts41))))) (And.intro (And.intro (And.intro (And.intro @ts44 @ts24) (And.intro @ts37 @ts22)) (And.intro (And.intro @ts0 @ts100) (And.intro @ts66 @ts68))) (And.intro (And.intro (And.intro @ts78 @ts103) (And.intro @ts49 @ts34)) (And.intro (And.intro @ts36 @ts51) (And.intro @ts53 (And.intro @ts55 @ts88))))))) (And.intro (And.intro (And.intro (And.intro (And.intro (And.intro @ts32 @ts30) (And.intro @ts61 @ts63)) (And.intro (And.intro @ts90 @ts92) (And.intro @ts94 @tz3))) (And.intro (And.intro (And.intro @tz4 @tz5) (And.intro @tz9 @tz42)) (And.intro (And.intro @tz46 @tz47) (And.intro @tz123 (And.intro @tz23 @tz26))))) (And.intro (And.intro (And.intro (And.intro @tz28 @tz39) (And.intro @tz41 @tz44)) (And.intro (And.intro @tz24 @tz37) (And.intro @tz22 @tz0))) (And.intro (And.intro (And.intro @tz100 @tz66) (And.intro @tz68 @tz78)) (And.intro (And.intro @tz103 @tz49) (And.intro @tz34 (And.intro @tz36 @tz51)))))) (And.intro (And.intro (And.intro (And.intro (And.intro @tz53 @tz55) (And.intro @tz88 @tz32)) (And.intro (And.intro @tz30 @tz61) (And.intro @tz63 @tz90))) (And.intro (And.intro (And.intro @tz92 @tz94) (And.intro @tb3 @tb4)) (And.intro (And.intro @tb5 @tb9) (And.intro @tb42 (And.intro @tb46 @tb47))))) (And.intro (And.intro (And.intro (And.intro @tb123 @tb23) (And.intro @tb26 @tb28)) (And.intro (And.intro @tb39 @tb41) (And.intro @tb44 @tb24))) (And.intro (And.intro (And.intro @tb37 @tb22) (And.intro @tb0 @tb100)) (And.intro (And.intro @tb66 @tb68) (And.intro @tb78 (And.intro @tb103 @tb49)))))))) (And.intro (And.intro (And.intro (And.intro (And.intro (And.intro (And.intro @tb34 @tb36) (And.intro @tb51 @tb53)) (And.intro (And.intro @tb55 @tb88) (And.intro @tb32 @tb30))) (And.intro (And.intro (And.intro @tb61 @tb63) (And.intro @tb90 @tb92)) (And.intro (And.intro @tb94 @fr8) (And.intro @fr9 (And.intro @fr10 @fr11))))) (And.intro (And.intro (And.intro (And.intro @fr13 @fr15) (And.intro @fr16 @fr18)) (And.intro (And.intro @fr19 @fr20) (And.intro @fr21 @fr22))) (And.intro (And.intro (And.intro @fr23 @fr24) (And.intro @fr25 @fr26)) (And.intro (And.intro @fr27 @fr28) (And.intro @fr38 (And.intro @fr39 @fr40)))))) (And.intro (And.intro (And.intro (And.intro (And.intro @fr41 @fr42) (And.intro @fr51 @fr52)) (And.intro (And.intro @fr53 @fr54) (And.intro @fr3 @fr4))) (And.intro (And.intro (And.intro @fr5 @fr6) (And.intro @fr7 @fr12)) (And.intro (And.intro @fr14 @fr17) (And.intro @bz46 (And.intro @al46 @fa46_0))))) (And.intro (And.intro (And.intro (And.intro @fa46_1 @bz28) (And.intro @bz26 @bz41)) (And.intro (And.intro @bz44 @al41) (And.intro @al44 @fa44_0))) (And.intro (And.intro (And.intro @fa44_1 @fa44_2) (And.intro @fa41_0 @fa41_1)) (And.intro (And.intro @fa41_2 @fa28_0) (And.intro @fa28_1 (And.intro @fa28_2 @fa26_0))))))) (And.intro (And.intro (And.intro (And.intro (And.intro (And.intro @fa26_1 @fa26_2) (And.intro @fa26_3 @bz103)) (And.intro (And.intro @al68 @al103) (And.intro @fa68_0 @fa103_0))) (And.intro (And.intro (And.intro @fa103_1 @fa103_2) (And.intro @bin_weq @bin_wneq)) (And.intro (And.intro @bin_req @bin_rneq) (And.intro @bz39 (And.intro @fa39_0 @fa39_1))))) (And.intro (And.intro (And.intro (And.intro @bz68 @bz49) (And.intro @al49 @fa49_0)) (And.intro (And.intro @fa49_1 @fa49_2) (And.intro @bz51 @al51))) (And.intro (And.intro (And.intro @fa51_0 @fa51_1) (And.intro @fa51_2 @fa51_3)) (And.intro (And.intro @fa51_4 @fa51_5) (And.intro @fa51_6 (And.intro @fa51_7 @fa51_8)))))) (And.intro (And.intro (And.intro (And.intro (And.intro @fa51_9 @fa51_10) (And.intro @fa51_11 @bz36)) (And.intro (And.intro @al36 @fa36_0) (And.intro @fa36_1 @oneOf_two))) (And.intro (And.intro (And.intro @al24 @al90) (And.intro @bz32 @fa32_0)) (And.intro (And.intro @fa32_1 @fa32_2) (And.intro @fa32_3 (And.intro @fa32_4 @fa32_5))))) (And.intro (And.intro (And.intro (And.intro @fa32_6 @fa32_7) (And.intro @fa32_8 @fa32_9)) (And.intro (And.intro @fa32_10 @fa32_11) (And.intro @fa32_12 @fa32_13))) (And.intro (And.intro (And.intro @fa32_14 @fa32_15) (And.intro @al32 @al28)) (And.intro (And.intro @al26 @fa30_0) (And.intro @fa30_1 (And.intro @fa30_2 @al30))))))))) := (And.intro (And.intro (And.intro (And.intro (And.intro (And.intro (And.intro (And.intro @Try.underlying3 @Try.underlying4) (And.intro @Try.underlying5 @Try.underlying9)) (And.intro (And.intro @Try.underlying42 @Try.underlying46) (And.intro @Try.underlying47 @Try.underlying123))) (And.intro (And.intro (And.intro @Try.underlying23 @Try.underlying26) (And.intro @Try.underlying28 @Try.underlying39)) (And.intro (And.intro @Try.underlying41 @Try.underlying44) (And.intro @Try.underlying24 @Try.underlying37)))) (And.intro (And.intro (And.intro (And.intro @Try.underlying22 @Try.underlying0) (And.intro @Try.underlying100 @Try.underlying66)) (And.intro (And.intro @Try.underlying68 @Try.underlying78) (And.intro @Try.underlying103 @Try.underlying49))) (And.intro (And.intro (And.intro @Try.underlying34 @Try.underlying36) (And.intro @Try.underlying51 @Try.underlying53)) (And.intro (And.intro @Try.underlying55 @Try.underlying88) (And.intro @Try.underlying32 (And.intro @Try.underlying30 @Try.underlying61)))))) (And.intro (And.intro (And.intro (And.intro (And.intro @Try.underlying63 @Try.underlying90) (And.intro @Try.underlying92 @Try.underlying94)) (And.intro (And.intro @ts3 @ts4) (And.intro @ts5 @ts9))) (And.intro (And.intro (And.intro @ts42 @ts46) (And.intro @ts47 @ts123)) (And.intro (And.intro @ts23 @ts26) (And.intro @ts28 (And.intro @ts39 @ts41))))) (And.intro (And.intro (And.intro (And.intro @ts44 @ts24) (And.intro @ts37 @ts22)) (And.intro (And.intro @ts0 @ts100) (And.intro @ts66 @ts68))) (And.intro (And.intro (And.intro @ts78 @ts103) (And.intro @ts49 @ts34)) (And.intro (And.intro @ts36 @ts51) (And.intro @ts53 (And.intro @ts55 @ts88))))))) (And.intro (And.intro (And.intro (And.intro (And.intro (And.intro @ts32 @ts30) (And.intro @ts61 @ts63)) (And.intro (And.intro @ts90 @ts92) (And.intro @ts94 @tz3))) (And.intro (And.intro (And.intro @tz4 @tz5) (And.intro @tz9 @tz42)) (And.intro (And.intro @tz46 @tz47) (And.intro @tz123 (And.intro @tz23 @tz26))))) (And.intro (And.intro (And.intro (And.intro @tz28 @tz39) (And.intro @tz41 @tz44)) (And.intro (And.intro @tz24 @tz37) (And.intro @tz22 @tz0))) (And.intro (And.intro (And.intro @tz100 @tz66) (And.intro @tz68 @tz78)) (And.intro (And.intro @tz103 @tz49) (And.intro @tz34 (And.intro @tz36 @tz51)))))) (And.intro (And.intro (And.intro (And.intro (And.intro @tz53 @tz55) (And.intro @tz88 @tz32)) (And.intro (And.intro @tz30 @tz61) (And.intro @tz63 @tz90))) (And.intro (And.intro (And.intro @tz92 @tz94) (And.intro @tb3 @tb4)) (And.intro (And.intro @tb5 @tb9) (And.intro @tb42 (And.intro @tb46 @tb47))))) (And.intro (And.intro (And.intro (And.intro @tb123 @tb23) (And.intro @tb26 @tb28)) (And.intro (And.intro @tb39 @tb41) (And.intro @tb44 @tb24))) (And.intro (And.intro (And.intro @tb37 @tb22) (And.intro @tb0 @tb100)) (And.intro (And.intro @tb66 @tb68) (And.intro @tb78 (And.intro @tb103 @tb49)))))))) (And.intro (And.intro (And.intro (And.intro (And.intro (And.intro (And.intro @tb34 @tb36) (And.intro @tb51 @tb53)) (And.intro (And.intro @tb55 @tb88) (And.intro @tb32 @tb30))) (And.intro (And.intro (And.intro @tb61 @tb63) (And.intro @tb90 @tb92)) (And.intro (And.intro @tb94 @fr8) (And.intro @fr9 (And.intro @fr10 @fr11))))) (And.intro (And.intro (And.intro (And.intro @fr13 @fr15) (And.intro @fr16 @fr18)) (And.intro (And.intro @fr19 @fr20) (And.intro @fr21 @fr22))) (And.intro (And.intro (And.intro @fr23 @fr24) (And.intro @fr25 @fr26)) (And.intro (And.intro @fr27 @fr28) (And.intro @fr38 (And.intro @fr39 @fr40)))))) (And.intro (And.intro (And.intro (And.intro (And.intro @fr41 @fr42) (And.intro @fr51 @fr52)) (And.intro (And.intro @fr53 @fr54) (And.intro @fr3 @fr4))) (And.intro (And.intro (And.intro @fr5 @fr6) (And.intro @fr7 @fr12)) (And.intro (And.intro @fr14 @fr17) (And.intro @bz46 (And.intro @al46 @fa46_0))))) (And.intro (And.intro (And.intro (And.intro @fa46_1 @bz28) (And.intro @bz26 @bz41)) (And.intro (And.intro @bz44 @al41) (And.intro @al44 @fa44_0))) (And.intro (And.intro (And.intro @fa44_1 @fa44_2) (And.intro @fa41_0 @fa41_1)) (And.intro (And.intro @fa41_2 @fa28_0) (And.intro @fa28_1 (And.intro @fa28_2 @fa26_0))))))) (And.intro (And.intro (And.intro (And.intro (And.intro (And.intro @fa26_1 @fa26_2) (And.intro @fa26_3 @bz103)) (And.intro (And.intro @al68 @al103) (And.intro @fa68_0 @fa103_0))) (And.intro (And.intro (And.intro @fa103_1 @fa103_2) (And.intro @bin_weq @bin_wneq)) (And.intro (And.intro @bin_req @bin_rneq) (And.intro @bz39 (And.intro @fa39_0 @fa39_1))))) (And.intro (And.intro (And.intro (And.intro @bz68 @bz49) (And.intro @al49 @fa49_0)) (And.intro (And.intro @fa49_1 @fa49_2) (And.intro @bz51 @al51))) (And.intro (And.intro (And.intro @fa51_0 @fa51_1) (And.intro @fa51_2 @fa51_3)) (And.intro (And.intro @fa51_4 @fa51_5) (And.intro @fa51_6 (And.intro @fa51_7 @fa51_8)))))) (And.intro (And.intro (And.intro (And.intro (And.intro @fa51_9 @fa51_10) (And.intro @fa51_11 @bz36)) (And.intro (And.intro @al36 @fa36_0) (And.intro @fa36_1 @oneOf_two))) (And.intro (And.intro (And.intro @al24 @al90) (And.intro @bz32 @fa32_0)) (And.intro (And.intro @fa32_1 @fa32_2) (And.intro @fa32_3 (And.intro @fa32_4 @fa32_5))))) (And.intro (And.intro (And.intro (And.intro @fa32_6 @fa32_7) (And.intro @fa32_8 @fa32_9)) (And.intro (And.intro @fa32_10 @fa32_11) (And.intro @fa32_12 @fa32_13))) (And.intro (And.intro (And.intro @fa32_14 @fa32_15) (And.intro @al32 @al28)) (And.intro (And.intro @al26 @fa30_0) (And.intro @fa30_1 (And.intro @fa30_2 @al30)))))))))
theorem bld51z : opBuild Try.prog 51 [] = some (.agg (zCells 0 0 0).toArray) := by kernel_rfl
theorem zL_is (m : Mem) : LetF m (.agg (zCells 0 0 0).toArray) zL := ⟨_, _, _, _, _, rfl, FRow.nil, FRow.nil, FRow.nil, FRow.nil, FRow.nil⟩
theorem zL_ok : Ok zL := ⟨by decide, by decide, by decide, by decide, by decide, by decide, by decide, by decide⟩
theorem zL_ty : Ty zL := ⟨by decide, by decide, by decide, bytes_nil, by decide, by decide, bytes_nil, by decide, by decide, bytes_nil⟩
theorem zL_lck : lck zL = 0 := by decide
theorem zL_only : only zL = zL := by rw [only, if_pos (.inl rfl)]
theorem zL_len : (letB zL).length = 16 := by decide
theorem zL_take : letS (letB zL) = (zL, 0) := by
  have := let_mid (lfit_of zL_ok zL_ty zL_lck) zL_ok zL_lck
  rw [zL_only] at this
  exact this
theorem awake_ret {m : Mem} {K : Value → Mem → Prop} (hK : ∀ m', Ext m m' → K (.bool true) m') : Ret Try.prog 7 [] m K := by
  refine ret_wp [] Try.func7 rfl (by decide) (by kernel_rfl) ?_
  simp only [Nat.reduceAdd, reduceIte, Nat.reduceEqDiff, reduceCtorEq, opLen, Int.reduceLT, Int.reduceEq, opConvert, opIndexAddr, opLoad, Nat.reduceLT, undef, Nat.reduceLeDiff, Array.toList, wk4, wk5, wk0, fxC17y, bld51z]
  refine lput_ret (zL_is m) zL_ok zL_ty (fun h => (h zL_lck).elim) (fun _ m1 r1 x1 y1 z1 g1 => ?_)
  rw [zL_len]
  simp only [Nat.reduceAdd, reduceIte, Nat.reduceEqDiff, reduceCtorEq, opLen, Int.reduceLT, Int.reduceEq, opConvert, opIndexAddr, opLoad, Nat.reduceLT, undef, Nat.reduceLeDiff, Array.toList, wk4, wk5, wk0, fxC17y]
  have B : Byr m1 r1 (letB zL) := ⟨z1, g1⟩
  have sh : ∀ M, Ext m1 M → Shows M (.slice (some ⟨r1, 0, none⟩) 16 1) (byteCells (letB zL)) := fun M x => by
    have := (B.ext x).shows
    rw [rowV, zL_len] at this
    exact this
  refine ltake_ret sh (by rw [zL_len]; decide) (letB_bytes (lfit_of zL_ok zL_ty zL_lck) zL_ok zL_ty) fun m2 v2 x2 f2 => ?_
  rw [zL_take] at f2 ⊢
  obtain ⟨ea, em, vm, ca, aa, rfl, f2⟩ := f2
  obtain ⟨c1, y1, rfl⟩ := f2.ea.is
  obtain ⟨c2, y2, rfl⟩ := f2.em.is
  obtain ⟨c3, y3, rfl⟩ := f2.vm.is
  obtain ⟨c4, y4, rfl⟩ := f2.ca.is
  obtain ⟨c5, y5, rfl⟩ := f2.aa.is
  have X2 := x1.trans x2
  have h16 : ((16 : Nat) : Int) = 16 := rfl
  simp only [Nat.reduceAdd, reduceIte, Nat.reduceEqDiff, reduceCtorEq, opLen, Int.reduceLT, Int.reduceEq, opConvert, opIndexAddr, opLoad, Nat.reduceLT, undef, Nat.reduceLeDiff, Array.toList, wk4, wk5, wk0, fxC17y, bld51z, h16]
  obtain ⟨m3, hm3⟩ : ∃ M, M = (m2.new (.cells (zCells 0 0 0) 51 true)).set m2.next (.cells (letC zL (.slice c1 zL.E.args.length y1) (.slice c2 zL.E.mem.length y2) (.slice c3 zL.vm.length y3) (.slice c4 zL.C.s.length y4) (.slice c5 zL.A.s.length y5)) 51 true) := ⟨_, rfl⟩
  have x3 : Ext m2 m3 := by rw [hm3]; exact (Ext.new _ _).set (Nat.le_refl _)
  refine lsame_ret (a := zL) (b := zL) ⟨_, _, _, _, _, rfl, f2.pz ((Ext.new _ _).set (Nat.le_refl _)).pz⟩ (zL_is _) zL_ok fun m4 x4 => ?_
  rw [sameL_self]
  simp only [Nat.reduceAdd, reduceIte, Nat.reduceEqDiff, reduceCtorEq, opLen, Int.reduceLT, Int.reduceEq, opConvert, opIndexAddr, opLoad, Nat.reduceLT, undef, Nat.reduceLeDiff, Array.toList, wk4, wk5, wk0, fxC17y]
  exact hK _ ((X2.trans ((Ext.new _ _).set (Nat.le_refl _))).trans x4)
/-- Which letters are right. -/
def Rg (L : Let) : Prop := (0 ≤ L.fr ∧ L.fr < 16) ∧ (0 ≤ L.to ∧ L.to < 16) ∧ (L.kd ≤ 5 → 0 ≤ L.pl ∧ L.pl < 4294967296) ∧ (L.kd < 4 → (0 ≤ L.br ∧ L.br < 4294967296) ∧ 0 ≤ L.bn ∧ L.bn < 16) ∧ (L.kd = 1 → L.sm = true → (0 ≤ L.wr ∧ L.wr < 4294967296) ∧ 0 ≤ L.wn ∧ L.wn < 16) ∧ (L.kd = 7 → 0 ≤ L.vn ∧ L.vn < 4294967296)
theorem lck_rg {L : Let} (hk : 0 ≤ L.kd ∧ L.kd < 8) (hE : echk L.E = 0) (hV : memCk L.vm = 0) : (Rg L → lck L = 0) ∧ (¬ Rg L → lck L = 2) := by
  have h8 : ¬ 8 ≤ L.kd := by omega
  have z0 : echk zE = 0 := by decide
  have fin : ∀ o : Let, only L = o → L.kd ≠ 7 → o.kd = L.kd → (rangeB o = true ↔ Rg L) → echk o.E = 0 → (Rg L → lck L = 0) ∧ (¬ Rg L → lck L = 2) := by
    intro o e1 e2 e3 e4 e5
    have ev : viewE o = 0 := by rw [viewE, if_neg (by rw [e3]; exact e2)]
    constructor
    · intro h
      rw [lck, if_neg h8, e1, if_neg (by rw [e4.2 h]; decide), if_neg (by exact fun h => h ev)]
      exact e5
    · intro h
      rw [lck, if_neg h8, e1, if_pos (by
        cases hc : rangeB o with
        | false => rfl
        | true => exact (h (e4.1 hc)).elim)]
  have k8 : L.kd = 0 ∨ L.kd = 3 ∨ L.kd = 1 ∨ L.kd = 2 ∨ L.kd = 4 ∨ L.kd = 5 ∨ L.kd = 6 ∨ L.kd = 7 := by omega
  have b0 : rightB 0 0 = true := by decide
  rcases k8 with q | q | q | q | q | q | q | q
  · refine fin { zL with kd := L.kd, fr := L.fr, to := L.to, pl := L.pl, br := L.br, bn := L.bn } (by rw [only, if_pos (.inl q)]) (by omega) rfl ?_ z0
    simp only [rangeB, rightB, Bool.and_eq_true, decide_eq_true_eq, Rg, zL]
    constructor
    · intro h; exact ⟨by omega, by omega, fun _ => by omega, fun _ => by omega, fun k _ => by omega, fun k => by omega⟩
    · rintro ⟨h1, h2, h3, h4, h5, h6⟩; clear h5; repeat' apply And.intro
      all_goals first | omega | rfl
  · refine fin { zL with kd := L.kd, fr := L.fr, to := L.to, pl := L.pl, br := L.br, bn := L.bn } (by rw [only, if_pos (.inr q)]) (by omega) rfl ?_ z0
    simp only [rangeB, rightB, Bool.and_eq_true, decide_eq_true_eq, Rg, zL]
    constructor
    · intro h; exact ⟨by omega, by omega, fun _ => by omega, fun _ => by omega, fun k _ => by omega, fun k => by omega⟩
    · rintro ⟨h1, h2, h3, h4, h5, h6⟩; clear h5; repeat' apply And.intro
      all_goals first | omega | rfl
  · cases hs : L.sm with
    | true =>
      refine fin { zL with kd := L.kd, fr := L.fr, to := L.to, pl := L.pl, br := L.br, bn := L.bn, sm := true, wr := L.wr, wn := L.wn, E := L.E } (by rw [only, if_neg (by omega), if_pos q, if_pos hs]) (by omega) rfl ?_ hE
      simp only [rangeB, rightB, Bool.and_eq_true, decide_eq_true_eq, Rg, zL, hs, true_implies]
      constructor
      · intro h; exact ⟨by omega, by omega, fun _ => by omega, fun _ => by omega, fun k => by omega, fun k => by omega⟩
      · rintro ⟨h1, h2, h3, h4, h5, h6⟩; omega
    | false =>
      refine fin { zL with kd := L.kd, fr := L.fr, to := L.to, pl := L.pl, br := L.br, bn := L.bn } (by rw [only, if_neg (by omega), if_pos q, if_neg (by rw [hs]; decide)]) (by omega) rfl ?_ z0
      simp only [rangeB, rightB, Bool.and_eq_true, decide_eq_true_eq, Rg, zL]
      constructor
      · intro h; exact ⟨by omega, by omega, fun _ => by omega, fun _ => by omega, fun _ k => by rw [hs] at k; simp at k, fun k => by omega⟩
      · rintro ⟨h1, h2, h3, h4, h5, h6⟩; clear h5; repeat' apply And.intro
        all_goals first | omega | rfl
  · refine fin { zL with kd := L.kd, fr := L.fr, to := L.to, pl := L.pl, br := L.br, bn := L.bn, E := L.E } (by rw [only, if_neg (by omega), if_neg (by omega), if_pos q]) (by omega) rfl ?_ hE
    simp only [rangeB, rightB, Bool.and_eq_true, decide_eq_true_eq, Rg, zL]
    constructor
    · intro h; exact ⟨by omega, by omega, fun _ => by omega, fun _ => by omega, fun k _ => by omega, fun k => by omega⟩
    · rintro ⟨h1, h2, h3, h4, h5, h6⟩; clear h5; repeat' apply And.intro
      all_goals first | omega | rfl
  · refine fin { zL with kd := L.kd, fr := L.fr, to := L.to, pl := L.pl, E := L.E } (by rw [only, if_neg (by omega), if_neg (by omega), if_neg (by omega), if_pos q]) (by omega) rfl ?_ hE
    simp only [rangeB, rightB, Bool.and_eq_true, decide_eq_true_eq, Rg, zL]
    constructor
    · intro h; exact ⟨by omega, by omega, fun _ => by omega, fun _ => by omega, fun k _ => by omega, fun k => by omega⟩
    · rintro ⟨h1, h2, h3, h4, h5, h6⟩; clear h5; repeat' apply And.intro
      all_goals first | omega | rfl
  · refine fin { zL with kd := L.kd, fr := L.fr, to := L.to, pl := L.pl } (by rw [only, if_neg (by omega), if_neg (by omega), if_neg (by omega), if_neg (by omega), if_pos q]) (by omega) rfl ?_ z0
    simp only [rangeB, rightB, Bool.and_eq_true, decide_eq_true_eq, Rg, zL]
    constructor
    · intro h; exact ⟨by omega, by omega, fun _ => by omega, fun _ => by omega, fun k _ => by omega, fun k => by omega⟩
    · rintro ⟨h1, h2, h3, h4, h5, h6⟩; clear h5; repeat' apply And.intro
      all_goals first | omega | rfl
  · refine fin { zL with kd := L.kd, fr := L.fr, to := L.to, C := L.C } (by rw [only, if_neg (by omega), if_neg (by omega), if_neg (by omega), if_neg (by omega), if_neg (by omega), if_pos q]) (by omega) rfl ?_ z0
    simp only [rangeB, rightB, Bool.and_eq_true, decide_eq_true_eq, Rg, zL]
    constructor
    · intro h; exact ⟨by omega, by omega, fun _ => by omega, fun _ => by omega, fun k _ => by omega, fun k => by omega⟩
    · rintro ⟨h1, h2, h3, h4, h5, h6⟩; clear h5; repeat' apply And.intro
      all_goals first | omega | rfl
  · have e : only L = { zL with kd := L.kd, fr := L.fr, to := L.to, it := L.it, nn := L.nn, vn := L.vn, vm := L.vm, A := L.A } := by rw [only, if_neg (by omega), if_neg (by omega), if_neg (by omega), if_neg (by omega), if_neg (by omega), if_neg (by omega), if_pos q]
    have hr : rangeB (only L) = decide ((0 ≤ L.fr ∧ L.fr < 16) ∧ 0 ≤ L.to ∧ L.to < 16) := by
      rw [e, Bool.eq_iff_iff]
      simp only [rangeB, rightB, Bool.and_eq_true, decide_eq_true_eq, zL]
      constructor
      · rintro ⟨a, b, c, d, _⟩
        exact ⟨⟨a, b⟩, c, d⟩
      · rintro ⟨⟨a, b⟩, c, d⟩
        repeat' apply And.intro
        all_goals first | omega | rfl
    have hv : viewE (only L) = if 0 ≤ L.vn ∧ L.vn < 4294967296 then 0 else 2 := by
      rw [e, viewE, if_pos q]
      show (if 4294967296 ≤ L.vn then (2 : Int) else viewCk L.vn L.vm) = _
      rw [viewCk, hV]
      by_cases h1 : 4294967296 ≤ L.vn
      · rw [if_pos h1, if_neg (by omega)]
      · rw [if_neg h1]
        by_cases h2 : L.vn < 0
        · rw [if_pos h2, if_neg (by omega)]
        · rw [if_neg h2, if_pos (by omega)]
    have hE0 : echk (only L).E = 0 := by rw [e]; exact z0
    constructor
    · intro h
      obtain ⟨h1, h2, _, _, _, h3⟩ := h
      rw [lck, if_neg h8, hr, if_neg (by rw [decide_eq_true (show (0 ≤ L.fr ∧ L.fr < 16) ∧ 0 ≤ L.to ∧ L.to < 16 from ⟨h1, h2⟩)]; decide), hv, if_pos (h3 q), if_neg (by exact fun h => h rfl)]
      exact hE0
    · intro h
      rw [lck, if_neg h8, hr]
      by_cases h1 : (0 ≤ L.fr ∧ L.fr < 16) ∧ 0 ≤ L.to ∧ L.to < 16
      · have h2 : ¬ (0 ≤ L.vn ∧ L.vn < 4294967296) := fun h2 => h ⟨h1.1, h1.2, fun _ => by omega, fun _ => by omega, fun _ => by omega, fun _ => h2⟩
        rw [if_neg (by rw [decide_eq_true h1]; decide), hv, if_neg h2, if_pos (by decide)]
      · rw [if_pos (decide_eq_false h1)]
theorem all_rg {S : SmL} (ok : SmOk S) : Rg S.all := by
  have kf := tm_lt ok.fr.1 (show (0 : Int) < 16 by decide)
  have kt := tm_lt ok.to.1 (show (0 : Int) < 16 by decide)
  have kb := tm_lt ok.bn.1 (show (0 : Int) < 16 by decide)
  have kw := tm_lt ok.wn.1 (show (0 : Int) < 16 by decide)
  exact ⟨kf, kt, fun _ => ok.pl, fun _ => ⟨ok.br, kb⟩, fun _ _ => ⟨ok.wr, kw⟩, fun _ => ok.vn⟩
theorem all_E {S : SmL} (ok : SmOk S) (lt : S.light) : echk S.all.E = 0 := by
  show echk S.E.ent = 0
  unfold Sm.ent
  have l1 := lt.1
  have ep : IntKind.i64.wrap S.E.p = S.E.p := wrap_i64 (by have := ok.ep; omega) (by have := ok.ep; omega)
  split
  · show echeckOf 1 S.E.t S.E.n (IntKind.i64.wrap S.E.p) S.E.args [] = 0
    have p := ok.ep
    rw [ep, echeckOf, if_neg (by decide), if_neg (by exact fun h => h.elim (fun h => h.1 rfl) (fun h => by simp at h)), if_pos rfl, ccheckOf, if_neg (by omega), if_neg (by omega)]
  split
  · show echeckOf 2 0 0 0 [] (memL S.E.mm) = 0
    rw [echeckOf, if_neg (by decide), if_neg (by exact fun h => h.elim (fun h => absurd h.2 (by simp [csameB])) (fun h => h.1 rfl)), if_neg (by decide), if_pos rfl]
    have := memL_ok S.E.mm 0 (by decide)
    rw [viewCk, if_neg (by decide)] at this
    exact this
  · decide
theorem all_V (S : SmL) : memCk S.all.vm = 0 := by
  have := memL_ok S.mm 0 (by decide)
  rw [viewCk, if_neg (by decide)] at this
  exact this
theorem small_of {H : Type} {k : Nat} {m : Mem} {d : DataW H} {v : Value} (hd : IsD Try.prog (k + 7) 32 d) (h : Lies Try.prog m 32 d v) : ∃ S : SmL, SmLF m v S ∧ SmOk S := by
  obtain ⟨ps, cs, rfl, rfl, hp⟩ := lies_struct (k := k + 6) Try.underlying32 hd h
  obtain ⟨p0, pr, c0, cr, rfl, rfl, i0, l0, hp⟩ := partsC_cons hp
  obtain ⟨p1, pr, c1, cr, rfl, rfl, i1, l1, hp⟩ := partsC_cons hp
  obtain ⟨p2, pr, c2, cr, rfl, rfl, i2, l2, hp⟩ := partsC_cons hp
  obtain ⟨p3, pr, c3, cr, rfl, rfl, i3, l3, hp⟩ := partsC_cons hp
  obtain ⟨p4, pr, c4, cr, rfl, rfl, i4, l4, hp⟩ := partsC_cons hp
  obtain ⟨p5, pr, c5, cr, rfl, rfl, i5, l5, hp⟩ := partsC_cons hp
  obtain ⟨p6, pr, c6, cr, rfl, rfl, i6, l6, hp⟩ := partsC_cons hp
  obtain ⟨p7, pr, c7, cr, rfl, rfl, i7, l7, hp⟩ := partsC_cons hp
  obtain ⟨p8, pr, c8, cr, rfl, rfl, i8, l8, hp⟩ := partsC_cons hp
  obtain ⟨p9, pr, c9, cr, rfl, rfl, i9, l9, hp⟩ := partsC_cons hp
  obtain ⟨p10, pr, c10, cr, rfl, rfl, i10, l10, hp⟩ := partsC_cons hp
  obtain ⟨p11, pr, c11, cr, rfl, rfl, i11, l11, hp⟩ := partsC_cons hp
  obtain ⟨p12, pr, c12, cr, rfl, rfl, i12, l12, hp⟩ := partsC_cons hp
  obtain ⟨p13, pr, c13, cr, rfl, rfl, i13, l13, hp⟩ := partsC_cons hp
  obtain ⟨p14, pr, c14, cr, rfl, rfl, i14, l14, hp⟩ := partsC_cons hp
  obtain ⟨p15, pr, c15, cr, rfl, rfl, i15, l15, hp⟩ := partsC_cons hp
  obtain ⟨rfl, rfl⟩ := partsC_nil hp
  obtain ⟨x0, rfl, w0⟩ := liesC_int (k := k + 5) Try.underlying5 i0 l0
  obtain ⟨x1, rfl, w1⟩ := liesC_int (k := k + 5) Try.underlying5 i1 l1
  obtain ⟨x2, rfl, w2⟩ := liesC_int (k := k + 5) Try.underlying5 i2 l2
  obtain ⟨x3, rfl, w3⟩ := liesC_int (k := k + 5) Try.underlying22 i3 l3
  obtain ⟨x4, rfl, w4⟩ := liesC_int (k := k + 5) Try.underlying22 i4 l4
  obtain ⟨x5, rfl, w5⟩ := liesC_int (k := k + 5) Try.underlying22 i5 l5
  obtain ⟨x6, rfl, w6⟩ := liesC_int (k := k + 5) Try.underlying5 i6 l6
  obtain ⟨x7, rfl, w7⟩ := liesC_int (k := k + 5) Try.underlying5 i7 l7
  obtain ⟨x8, rfl⟩ := liesC_bool (k := k + 5) Try.underlying4 i8 l8
  obtain ⟨qs, rfl, hq⟩ := liesC_struct (k := k + 5) Try.underlying28 i9 l9
  obtain ⟨q0, qr, e0, er, rfl, rfl, j0, k0, hq⟩ := partsC_cons hq
  obtain ⟨q1, qr, e1, er, rfl, rfl, j1, k1, hq⟩ := partsC_cons hq
  obtain ⟨q2, qr, e2, er, rfl, rfl, j2, k2, hq⟩ := partsC_cons hq
  obtain ⟨rfl, rfl⟩ := partsC_nil hq
  obtain ⟨y0, rfl, u0⟩ := liesC_int (k := k + 4) Try.underlying5 j0 k0
  obtain ⟨y2, rfl, u2⟩ := liesC_int (k := k + 4) Try.underlying23 j2 k2
  obtain ⟨rs, rfl, hr⟩ := liesC_struct (k := k + 4) Try.underlying26 j1 k1
  obtain ⟨r0, rr, g0, gr, rfl, rfl, n0, o0, hr⟩ := partsC_cons hr
  obtain ⟨r1, rr, g1, gr, rfl, rfl, n1, o1, hr⟩ := partsC_cons hr
  obtain ⟨r2, rr, g2, gr, rfl, rfl, n2, o2, hr⟩ := partsC_cons hr
  obtain ⟨r3, rr, g3, gr, rfl, rfl, n3, o3, hr⟩ := partsC_cons hr
  obtain ⟨rfl, rfl⟩ := partsC_nil hr
  obtain ⟨t0, rfl, v0⟩ := liesC_int (k := k + 3) Try.underlying23 n0 o0
  obtain ⟨t1, rfl, v1⟩ := liesC_int (k := k + 3) Try.underlying23 n1 o1
  obtain ⟨t2, rfl, v2⟩ := liesC_int (k := k + 3) Try.underlying23 n2 o2
  obtain ⟨va, zs, rfl, z1, _, hs⟩ := liesC_nums (k := k + 2) Try.underlying24 Try.underlying5 (by kernel_rfl) n3 o3
  obtain ⟨rs, rfl, hr⟩ := liesC_struct (k := k + 5) Try.underlying26 i10 l10
  obtain ⟨r0, rr, g0, gr, rfl, rfl, n0, o0, hr⟩ := partsC_cons hr
  obtain ⟨r1, rr, g1, gr, rfl, rfl, n1, o1, hr⟩ := partsC_cons hr
  obtain ⟨r2, rr, g2, gr, rfl, rfl, n2, o2, hr⟩ := partsC_cons hr
  obtain ⟨r3, rr, g3, gr, rfl, rfl, n3, o3, hr⟩ := partsC_cons hr
  obtain ⟨rfl, rfl⟩ := partsC_nil hr
  obtain ⟨s0, rfl, b0⟩ := liesC_int (k := k + 4) Try.underlying23 n0 o0
  obtain ⟨s1, rfl, b1⟩ := liesC_int (k := k + 4) Try.underlying23 n1 o1
  obtain ⟨s2, rfl, b2⟩ := liesC_int (k := k + 4) Try.underlying23 n2 o2
  obtain ⟨vb, zt, rfl, z2, _, ht⟩ := liesC_nums (k := k + 3) Try.underlying24 Try.underlying5 (by kernel_rfl) n3 o3
  obtain ⟨x11, rfl, w11⟩ := liesC_int (k := k + 5) Try.underlying22 i11 l11
  obtain ⟨x12, rfl, w12⟩ := liesC_int (k := k + 5) Try.underlying23 i12 l12
  obtain ⟨x13, rfl, w13⟩ := liesC_int (k := k + 5) Try.underlying23 i13 l13
  obtain ⟨x14, rfl, w14⟩ := liesC_int (k := k + 5) Try.underlying23 i14 l14
  obtain ⟨rs, rfl, hr⟩ := liesC_struct (k := k + 5) Try.underlying30 i15 l15
  obtain ⟨r0, rr, g0, gr, rfl, rfl, n0, o0, hr⟩ := partsC_cons hr
  obtain ⟨r1, rr, g1, gr, rfl, rfl, n1, o1, hr⟩ := partsC_cons hr
  obtain ⟨r2, rr, g2, gr, rfl, rfl, n2, o2, hr⟩ := partsC_cons hr
  obtain ⟨rfl, rfl⟩ := partsC_nil hr
  obtain ⟨d0, rfl, a0⟩ := liesC_int (k := k + 4) Try.underlying23 n0 o0
  obtain ⟨d1, rfl, a1⟩ := liesC_int (k := k + 4) Try.underlying23 n1 o1
  obtain ⟨vc, zu, rfl, z3, _, hu⟩ := liesC_nums (k := k + 3) Try.underlying24 Try.underlying5 (by kernel_rfl) n2 o2
  refine ⟨⟨x0, x1, x2, x3, x4, x5, x6, x7, x8, ⟨y0, t0, t1, t2, zs, y2⟩, ⟨s0, s1, s2, zt⟩, x11, x12, x13, x14, ⟨d0, d1, zu⟩⟩, ⟨va, vb, vc, rfl, hs, ht, hu⟩, ?_⟩
  exact ⟨wf_u8 w0, wf_u8 w1, wf_u8 w2, wf_u32 w3, wf_u32 w4, wf_u32 w5, wf_u8 w6, wf_u8 w7, wf_u8 u0, wf_u16 v0, wf_u16 v1, wf_u16 v2, fun z hz => wf_u8 (z1 z hz), wf_u16 b0, wf_u16 b1, wf_u16 b2, fun z hz => wf_u8 (z2 z hz), wf_u32 w11, wf_u16 w12, wf_u16 w13, wf_u16 w14, wf_u16 a0, wf_u16 a1, fun z hz => wf_u8 (z3 z hz)⟩
end Go.Proofs.Ytejgoooanapjbaa
