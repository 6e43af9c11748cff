/- A text of the abstract machine. -/

/- The law LetterSame, simp only [Nat.reduceAdd, reduceIte, Nat.reduceEqDiff, reduceCtorEq, opLen, Int.reduceLT, Int.reduceEq, opConvert, opIndexAddr, opLoad, Nat.reduceLT, undef, Nat.reduceLeDiff, Array.toList, wk4, wk5, wk0, fxC17LetterSame]ed. -/
import Derived.Test.YtejgoooanapjbaaAmC17y
import Derived.Test.YtejgoooanapjbaaAmBun
set_option linter.unusedSimpArgs false
set_option linter.unusedVariables false
set_option maxRecDepth 100000
set_option maxHeartbeats 4000000
namespace Go.Proofs.Ytejgoooanapjbaa
open Go Go.AM Go.AM.Crc Go.AM.Wire
theorem fxC17LetterSame : type_of% (And.intro (And.intro (And.intro (And.intro (And.intro (And.intro (And.intro (And.intro @Try.underlying3 @Try.underlying4) (And.intro @Try.underlying5 @Try.underlying9)) (And.intro (And.intro @Try.underlying42 @Try.underlying46) (And.intro @Try.underlying47 @Try.underlying123))) (And.intro (And.intro (And.intro @Try.underlying23 @Try.underlying26) (And.intro @Try.underlying28 @Try.underlying39)) (And.intro (And.intro @Try.underlying41 @Try.underlying44) (And.intro @Try.underlying24 (And.intro @Try.underlying37 @Try.underlying22))))) (And.intro (And.intro (And.intro (And.intro @Try.underlying0 @Try.underlying100) (And.intro @Try.underlying66 @Try.underlying68)) (And.intro (And.intro @Try.underlying78 @Try.underlying103) (And.intro @Try.underlying49 (And.intro @Try.underlying34 @Try.underlying36)))) (And.intro (And.intro (And.intro @Try.underlying51 @Try.underlying53) (And.intro @Try.underlying55 @Try.underlying88)) (And.intro (And.intro @Try.underlying32 @Try.underlying30) (And.intro @Try.underlying61 (And.intro @Try.underlying63 @Try.underlying90)))))) (And.intro (And.intro (And.intro (And.intro (And.intro @Try.underlying92 @Try.underlying94) (And.intro @ts3 @ts4)) (And.intro (And.intro @ts5 @ts9) (And.intro @ts42 @ts46))) (And.intro (And.intro (And.intro @ts47 @ts123) (And.intro @ts23 @ts26)) (And.intro (And.intro @ts28 @ts39) (And.intro @ts41 (And.intro @ts44 @ts24))))) (And.intro (And.intro (And.intro (And.intro @ts37 @ts22) (And.intro @ts0 @ts100)) (And.intro (And.intro @ts66 @ts68) (And.intro @ts78 (And.intro @ts103 @ts49)))) (And.intro (And.intro (And.intro @ts34 @ts36) (And.intro @ts51 @ts53)) (And.intro (And.intro @ts55 @ts88) (And.intro @ts32 (And.intro @ts30 @ts61))))))) (And.intro (And.intro (And.intro (And.intro (And.intro (And.intro @ts63 @ts90) (And.intro @ts92 @ts94)) (And.intro (And.intro @tz3 @tz4) (And.intro @tz5 @tz9))) (And.intro (And.intro (And.intro @tz42 @tz46) (And.intro @tz47 @tz123)) (And.intro (And.intro @tz23 @tz26) (And.intro @tz28 (And.intro @tz39 @tz41))))) (And.intro (And.intro (And.intro (And.intro @tz44 @tz24) (And.intro @tz37 @tz22)) (And.intro (And.intro @tz0 @tz100) (And.intro @tz66 (And.intro @tz68 @tz78)))) (And.intro (And.intro (And.intro @tz103 @tz49) (And.intro @tz34 @tz36)) (And.intro (And.intro @tz51 @tz53) (And.intro @tz55 (And.intro @tz88 @tz32)))))) (And.intro (And.intro (And.intro (And.intro (And.intro @tz30 @tz61) (And.intro @tz63 @tz90)) (And.intro (And.intro @tz92 @tz94) (And.intro @tb3 @tb4))) (And.intro (And.intro (And.intro @tb5 @tb9) (And.intro @tb42 @tb46)) (And.intro (And.intro @tb47 @tb123) (And.intro @tb23 (And.intro @tb26 @tb28))))) (And.intro (And.intro (And.intro (And.intro @tb39 @tb41) (And.intro @tb44 @tb24)) (And.intro (And.intro @tb37 @tb22) (And.intro @tb0 (And.intro @tb100 @tb66)))) (And.intro (And.intro (And.intro @tb68 @tb78) (And.intro @tb103 @tb49)) (And.intro (And.intro @tb34 @tb36) (And.intro @tb51 (And.intro @tb53 @tb55)))))))) (And.intro (And.intro (And.intro (And.intro (And.intro (And.intro (And.intro @tb88 @tb32) (And.intro @tb30 @tb61)) (And.intro (And.intro @tb63 @tb90) (And.intro @tb92 @tb94))) (And.intro (And.intro (And.intro @fr8 @fr9) (And.intro @fr10 @fr11)) (And.intro (And.intro @fr13 @fr15) (And.intro @fr16 (And.intro @fr18 @fr19))))) (And.intro (And.intro (And.intro (And.intro @fr20 @fr21) (And.intro @fr22 @fr23)) (And.intro (And.intro @fr24 @fr25) (And.intro @fr26 (And.intro @fr27 @fr28)))) (And.intro (And.intro (And.intro @fr38 @fr39) (And.intro @fr40 @fr41)) (And.intro (And.intro @fr42 @fr51) (And.intro @fr52 (And.intro @fr53 @fr54)))))) (And.intro (And.intro (And.intro (And.intro (And.intro @fr3 @fr4) (And.intro @fr5 @fr6)) (And.intro (And.intro @fr7 @fr12) (And.intro @fr14 @fr17))) (And.intro (And.intro (And.intro @bz46 @al46) (And.intro @fa46_0 @fa46_1)) (And.intro (And.intro @bz28 @bz26) (And.intro @bz41 (And.intro @bz44 @al41))))) (And.intro (And.intro (And.intro (And.intro @al44 @fa44_0) (And.intro @fa44_1 @fa44_2)) (And.intro (And.intro @fa41_0 @fa41_1) (And.intro @fa41_2 (And.intro @fa28_0 @fa28_1)))) (And.intro (And.intro (And.intro @fa28_2 @fa26_0) (And.intro @fa26_1 @fa26_2)) (And.intro (And.intro @fa26_3 @bz103) (And.intro @al68 (And.intro @al103 @fa68_0))))))) (And.intro (And.intro (And.intro (And.intro (And.intro (And.intro @fa103_0 @fa103_1) (And.intro @fa103_2 @bin_weq)) (And.intro (And.intro @bin_wneq @bin_req) (And.intro @bin_rneq @bz39))) (And.intro (And.intro (And.intro @fa39_0 @fa39_1) (And.intro @bz68 @bz49)) (And.intro (And.intro @al49 @fa49_0) (And.intro @fa49_1 (And.intro @fa49_2 @bz51))))) (And.intro (And.intro (And.intro (And.intro @al51 @fa51_0) (And.intro @fa51_1 @fa51_2)) (And.intro (And.intro @fa51_3 @fa51_4) (And.intro @fa51_5 (And.intro @fa51_6 @fa51_7)))) (And.intro (And.intro (And.intro @fa51_8 @fa51_9) (And.intro @fa51_10 @fa51_11)) (And.intro (And.intro @bz36 @al36) (And.intro @fa36_0 (And.intro @fa36_1 @oneOf_two)))))) (And.intro (And.intro (And.intro (And.intro (And.intro @al24 @al90) (And.intro @bz32 @fa32_0)) (And.intro (And.intro @fa32_1 @fa32_2) (And.intro @fa32_3 (And.intro @fa32_4 @fa32_5)))) (And.intro (And.intro (And.intro @fa32_6 @fa32_7) (And.intro @fa32_8 @fa32_9)) (And.intro (And.intro @fa32_10 @fa32_11) (And.intro @fa32_12 (And.intro @fa32_13 @fa32_14))))) (And.intro (And.intro (And.intro (And.intro @fa32_15 @al32) (And.intro @al28 @al26)) (And.intro (And.intro @fa30_0 @fa30_1) (And.intro @fa30_2 (And.intro @al30 @bldI)))) (And.intro (And.intro (And.intro @set_set @bldL3) (And.intro @bldB @vqB)) (And.intro (And.intro @vqE @vqA) (And.intro @vqC (And.intro @vqI @vqW))))))))) := (And.intro (And.intro (And.intro (And.intro (And.intro (And.intro (And.intro (And.intro @Try.underlying3 @Try.underlying4) (And.intro @Try.underlying5 @Try.underlying9)) (And.intro (And.intro @Try.underlying42 @Try.underlying46) (And.intro @Try.underlying47 @Try.underlying123))) (And.intro (And.intro (And.intro @Try.underlying23 @Try.underlying26) (And.intro @Try.underlying28 @Try.underlying39)) (And.intro (And.intro @Try.underlying41 @Try.underlying44) (And.intro @Try.underlying24 (And.intro @Try.underlying37 @Try.underlying22))))) (And.intro (And.intro (And.intro (And.intro @Try.underlying0 @Try.underlying100) (And.intro @Try.underlying66 @Try.underlying68)) (And.intro (And.intro @Try.underlying78 @Try.underlying103) (And.intro @Try.underlying49 (And.intro @Try.underlying34 @Try.underlying36)))) (And.intro (And.intro (And.intro @Try.underlying51 @Try.underlying53) (And.intro @Try.underlying55 @Try.underlying88)) (And.intro (And.intro @Try.underlying32 @Try.underlying30) (And.intro @Try.underlying61 (And.intro @Try.underlying63 @Try.underlying90)))))) (And.intro (And.intro (And.intro (And.intro (And.intro @Try.underlying92 @Try.underlying94) (And.intro @ts3 @ts4)) (And.intro (And.intro @ts5 @ts9) (And.intro @ts42 @ts46))) (And.intro (And.intro (And.intro @ts47 @ts123) (And.intro @ts23 @ts26)) (And.intro (And.intro @ts28 @ts39) (And.intro @ts41 (And.intro @ts44 @ts24))))) (And.intro (And.intro (And.intro (And.intro @ts37 @ts22) (And.intro @ts0 @ts100)) (And.intro (And.intro @ts66 @ts68) (And.intro @ts78 (And.intro @ts103 @ts49)))) (And.intro (And.intro (And.intro @ts34 @ts36) (And.intro @ts51 @ts53)) (And.intro (And.intro @ts55 @ts88) (And.intro @ts32 (And.intro @ts30 @ts61))))))) (And.intro (And.intro (And.intro (And.intro (And.intro (And.intro @ts63 @ts90) (And.intro @ts92 @ts94)) (And.intro (And.intro @tz3 @tz4) (And.intro @tz5 @tz9))) (And.intro (And.intro (And.intro @tz42 @tz46) (And.intro @tz47 @tz123)) (And.intro (And.intro @tz23 @tz26) (And.intro @tz28 (And.intro @tz39 @tz41))))) (And.intro (And.intro (And.intro (And.intro @tz44 @tz24) (And.intro @tz37 @tz22)) (And.intro (And.intro @tz0 @tz100) (And.intro @tz66 (And.intro @tz68 @tz78)))) (And.intro (And.intro (And.intro @tz103 @tz49) (And.intro @tz34 @tz36)) (And.intro (And.intro @tz51 @tz53) (And.intro @tz55 (And.intro @tz88 @tz32)))))) (And.intro (And.intro (And.intro (And.intro (And.intro @tz30 @tz61) (And.intro @tz63 @tz90)) (And.intro (And.intro @tz92 @tz94) (And.intro @tb3 @tb4))) (And.intro (And.intro (And.intro @tb5 @tb9) (And.intro @tb42 @tb46)) (And.intro (And.intro @tb47 @tb123) (And.intro @tb23 (And.intro @tb26 @tb28))))) (And.intro (And.intro (And.intro (And.intro @tb39 @tb41) (And.intro @tb44 @tb24)) (And.intro (And.intro @tb37 @tb22) (And.intro @tb0 (And.intro @tb100 @tb66)))) (And.intro (And.intro (And.intro @tb68 @tb78) (And.intro @tb103 @tb49)) (And.intro (And.intro @tb34 @tb36) (And.intro @tb51 (And.intro @tb53 @tb55)))))))) (And.intro (And.intro (And.intro (And.intro (And.intro (And.intro (And.intro @tb88 @tb32) (And.intro @tb30 @tb61)) (And.intro (And.intro @tb63 @tb90) (And.intro @tb92 @tb94))) (And.intro (And.intro (And.intro @fr8 @fr9) (And.intro @fr10 @fr11)) (And.intro (And.intro @fr13 @fr15) (And.intro @fr16 (And.intro @fr18 @fr19))))) (And.intro (And.intro (And.intro (And.intro @fr20 @fr21) (And.intro @fr22 @fr23)) (And.intro (And.intro @fr24 @fr25) (And.intro @fr26 (And.intro @fr27 @fr28)))) (And.intro (And.intro (And.intro @fr38 @fr39) (And.intro @fr40 @fr41)) (And.intro (And.intro @fr42 @fr51) (And.intro @fr52 (And.intro @fr53 @fr54)))))) (And.intro (And.intro (And.intro (And.intro (And.intro @fr3 @fr4) (And.intro @fr5 @fr6)) (And.intro (And.intro @fr7 @fr12) (And.intro @fr14 @fr17))) (And.intro (And.intro (And.intro @bz46 @al46) (And.intro @fa46_0 @fa46_1)) (And.intro (And.intro @bz28 @bz26) (And.intro @bz41 (And.intro @bz44 @al41))))) (And.intro (And.intro (And.intro (And.intro @al44 @fa44_0) (And.intro @fa44_1 @fa44_2)) (And.intro (And.intro @fa41_0 @fa41_1) (And.intro @fa41_2 (And.intro @fa28_0 @fa28_1)))) (And.intro (And.intro (And.intro @fa28_2 @fa26_0) (And.intro @fa26_1 @fa26_2)) (And.intro (And.intro @fa26_3 @bz103) (And.intro @al68 (And.intro @al103 @fa68_0))))))) (And.intro (And.intro (And.intro (And.intro (And.intro (And.intro @fa103_0 @fa103_1) (And.intro @fa103_2 @bin_weq)) (And.intro (And.intro @bin_wneq @bin_req) (And.intro @bin_rneq @bz39))) (And.intro (And.intro (And.intro @fa39_0 @fa39_1) (And.intro @bz68 @bz49)) (And.intro (And.intro @al49 @fa49_0) (And.intro @fa49_1 (And.intro @fa49_2 @bz51))))) (And.intro (And.intro (And.intro (And.intro @al51 @fa51_0) (And.intro @fa51_1 @fa51_2)) (And.intro (And.intro @fa51_3 @fa51_4) (And.intro @fa51_5 (And.intro @fa51_6 @fa51_7)))) (And.intro (And.intro (And.intro @fa51_8 @fa51_9) (And.intro @fa51_10 @fa51_11)) (And.intro (And.intro @bz36 @al36) (And.intro @fa36_0 (And.intro @fa36_1 @oneOf_two)))))) (And.intro (And.intro (And.intro (And.intro (And.intro @al24 @al90) (And.intro @bz32 @fa32_0)) (And.intro (And.intro @fa32_1 @fa32_2) (And.intro @fa32_3 (And.intro @fa32_4 @fa32_5)))) (And.intro (And.intro (And.intro @fa32_6 @fa32_7) (And.intro @fa32_8 @fa32_9)) (And.intro (And.intro @fa32_10 @fa32_11) (And.intro @fa32_12 (And.intro @fa32_13 @fa32_14))))) (And.intro (And.intro (And.intro (And.intro @fa32_15 @al32) (And.intro @al28 @al26)) (And.intro (And.intro @fa30_0 @fa30_1) (And.intro @fa30_2 (And.intro @al30 @bldI)))) (And.intro (And.intro (And.intro @set_set @bldL3) (And.intro @bldB @vqB)) (And.intro (And.intro @vqE @vqA) (And.intro @vqC (And.intro @vqI @vqW)))))))))
theorem same_tail {a b : Let} {x y : ByteArray} (hx : x = strOf (letB a)) (hy : y = strOf (letB b)) (fa : LFit a) (fb : LFit b) (oa : Ok a) (ob : Ok b) (ta : Ty a) (tb : Ty b) (ca : lck a = 0) (cb : lck b = 0) (ea : only a = a) (eb : only b = b) : decide (x = y) = sameL a b := by
  rw [Bool.eq_iff_iff, decide_eq_true_eq, sameL_iff ta tb, hx, hy]
  constructor
  · intro h
    have := letB_inj fa fb oa ob ca cb (strOf_inj (letB_bytes fa oa ta) (letB_bytes fb ob tb) h)
    rw [ea, eb] at this
    exact this
  · intro h
    rw [h]
theorem beqb (a : Bool) : binV Try.prog .eql 4 (.bool a) (.bool a) = some (.bool true) := by cases a <;> kernel_rfl
theorem lsamelaw_ret {m : Mem} {v w : Value} {S U : SmL} {what : Int} (h : SmLF m v S) (ok : SmOk S) (g : SmLF m w U) (oku : SmOk U) (hw : 0 ≤ what ∧ what < 256) : Ret Try.prog 6 [v, w, .int .u8 what] m fun v _ => v = .bool true := by
  obtain ⟨ea, ca, aa, rfl, h⟩ := h
  obtain ⟨a1, z1, rfl⟩ := h.ea.is
  obtain ⟨a2, z2, rfl⟩ := h.ca.is
  obtain ⟨a3, z3, rfl⟩ := h.aa.is
  obtain ⟨ea, ca, aa, rfl, g⟩ := g
  obtain ⟨c1, y1, rfl⟩ := g.ea.is
  obtain ⟨c2, y2, rfl⟩ := g.ca.is
  obtain ⟨c3, y3, rfl⟩ := g.aa.is
  refine ret_wp [(9, [2]), (12, [8, 10])] Try.func6 rfl (by decide) (by kernel_rfl) ?_
  simp only [wk6, Nat.reduceBEq, wk1, forall_eq, Nat.reduceAdd, reduceIte, Nat.reduceEqDiff, reduceCtorEq, opLen, Int.reduceLT, Int.reduceEq, opConvert, opIndexAddr, opLoad, Nat.reduceLT, undef, Nat.reduceLeDiff, Array.toList, wk4, wk5, wk0, fxC17LetterSame]
  obtain ⟨m0, hm0⟩ : ∃ m0, m0 = (m.new (.cells (smC S (.slice a1 S.E.args.length z1) (.slice a2 S.C.s.length z2) (.slice a3 S.A.s.length z3)) 32 true)).new (.cells (smC U (.slice c1 U.E.args.length y1) (.slice c2 U.C.s.length y2) (.slice c3 U.A.s.length y3)) 32 true) := ⟨_, rfl⟩
  have x0 : Ext m m0 := by rw [hm0]; exact (Ext.new _ _).trans (Ext.new _ _)
  have n0 : m0.next = m.next + 2 := by rw [hm0]; rfl
  have g3 : m0.get m.next = some (.cells (smC S (.slice a1 S.E.args.length z1) (.slice a2 S.C.s.length z2) (.slice a3 S.A.s.length z3)) 32 true) := by rw [hm0, new_get_ne _ (by simp only [new_next]; omega), new_get]
  have g4 : m0.get (m.next + 1) = some (.cells (smC U (.slice c1 U.E.args.length y1) (.slice c2 U.C.s.length y2) (.slice c3 U.A.s.length y3)) 32 true) := by rw [hm0]; exact new_get (m.new _) _
  rw [← hm0]
  clear hm0
  obtain ⟨b4, hb4⟩ : ∃ b, b = m.next + 1 := ⟨_, rfl⟩
  rw [← hb4] at g4 ⊢
  refine awake_ret fun m1 x1 => ?_
  have g31 := (x1.2 m.next (by omega)).trans g3
  have g41 := (x1.2 b4 (by omega)).trans g4
  have X1 := x0.trans x1
  simp only [wk6, Nat.reduceBEq, wk1, forall_eq, Nat.reduceAdd, reduceIte, Nat.reduceEqDiff, reduceCtorEq, opLen, Int.reduceLT, Int.reduceEq, opConvert, opIndexAddr, opLoad, Nat.reduceLT, undef, Nat.reduceLeDiff, Array.toList, wk4, wk5, wk0, fxC17LetterSame, g31]
  refine light_ret ⟨_, _, _, rfl, h.pz X1.pz⟩ fun m2 x2 => ?_
  have l1 := x1.1
  have l2 := x2.1
  have g32 := (x2.2 m.next (by omega)).trans g31
  have g42 := (x2.2 b4 (by omega)).trans g41
  have X2 := X1.trans x2
  by_cases l1 : S.light
  · have d1 := decide_eq_true l1
    simp only [wk6, Nat.reduceBEq, wk1, forall_eq, Nat.reduceAdd, reduceIte, Nat.reduceEqDiff, reduceCtorEq, opLen, Int.reduceLT, Int.reduceEq, opConvert, opIndexAddr, opLoad, Nat.reduceLT, undef, Nat.reduceLeDiff, Array.toList, wk4, wk5, wk0, fxC17LetterSame, d1, g42]
    refine light_ret ⟨_, _, _, rfl, g.pz X2.pz⟩ fun m3 x3 => ?_
    have g33 := (x3.2 m.next (by omega)).trans g32
    have g43 := (x3.2 b4 (by omega)).trans g42
    have X3 := X2.trans x3
    by_cases l2 : U.light
    · have d2 := decide_eq_true l2
      by_cases h2 : what.tmod 2 = 0
      · simp only [wk6, Nat.reduceBEq, wk1, forall_eq, Nat.reduceAdd, reduceIte, Nat.reduceEqDiff, reduceCtorEq, opLen, Int.reduceLT, Int.reduceEq, opConvert, opIndexAddr, opLoad, Nat.reduceLT, undef, Nat.reduceLeDiff, Array.toList, wk4, wk5, wk0, fxC17LetterSame, d2, h2, g33, g43]
        obtain ⟨p, hp⟩ : ∃ p, p = IntKind.u32.wrap (S.br + IntKind.u32.wrap ((IntKind.u8.wrap (what.tdiv 2)).tmod 2)) := ⟨_, rfl⟩
        obtain ⟨q, hq⟩ : ∃ q, q = IntKind.u16.wrap (S.nn + IntKind.u16.wrap ((IntKind.u8.wrap (what.tdiv 4)).tmod 2)) := ⟨_, rfl⟩
        rw [← hp, ← hq]
        have rp : 0 ≤ p ∧ p < 4294967296 := by rw [hp, u32_lo]; omega
        have rq : 0 ≤ q ∧ q < 65536 := by rw [hq, u16_lo]; omega
        clear hp hq
        obtain ⟨U2, hU2⟩ : ∃ V : SmL, V = { S with br := p, nn := q } := ⟨_, rfl⟩
        have okU : SmOk U2 := by rw [hU2]; exact ⟨ok.kd, ok.fr, ok.to, ok.pl, rp, ok.wr, ok.bn, ok.wn, ok.ek, ok.et, ok.en, ok.ep, ok.eb, ok.ct, ok.cn, ok.cp, ok.cb, ok.vn, ok.mm, ok.it, rq, ok.ae, ok.aq, ok.ab⟩
        have lU : U2.light := by rw [hU2]; exact l1
        obtain ⟨M, hM⟩ : ∃ M, M = m3.set b4 (.cells (smC { S with br := p, nn := q } (.slice a1 S.E.args.length z1) (.slice a2 S.C.s.length z2) (.slice a3 S.A.s.length z3)) 32 true) := ⟨_, rfl⟩
        have X : Ext m M := by rw [hM]; exact X3.set (by omega)
        have hb4M : b4 < M.next := by rw [hM]; have := x1.1; have := x2.1; have := x3.1; simp only [set_next]; omega
        have G3 : M.get m.next = some (.cells (smC S (.slice a1 S.E.args.length z1) (.slice a2 S.C.s.length z2) (.slice a3 S.A.s.length z3)) 32 true) := by rw [hM, set_get_ne _ (by omega)]; exact g33
        have G4 : M.get b4 = some (.cells (smC U2 (.slice a1 S.E.args.length z1) (.slice a2 S.C.s.length z2) (.slice a3 S.A.s.length z3)) 32 true) := by rw [hM, set_get, hU2]
        have RU : SmR M U2 (.slice a1 S.E.args.length z1) (.slice a2 S.C.s.length z2) (.slice a3 S.A.s.length z3) := by rw [hU2]; exact ⟨h.ea.pz X.pz, h.ca.pz X.pz, h.aa.pz X.pz⟩
        rw [← hM]
        have l0 := X.1
        refine Loose.by (fun y => y = b4) ?_
        simp only [wk6, Nat.reduceBEq, wk1, forall_eq, Nat.reduceAdd, reduceIte, Nat.reduceEqDiff, reduceCtorEq, opLen, Int.reduceLT, Int.reduceEq, opConvert, opIndexAddr, opLoad, Nat.reduceLT, undef, Nat.reduceLeDiff, Array.toList, wk4, wk5, wk0, fxC17LetterSame, G3, G4]
        refine letter_ret ⟨_, _, _, rfl, h.pz X.pz⟩ ok fun m5 v5 x5 f5 => ?_
        have G45 := (x5.2 b4 hb4M).trans G4
        simp only [wk6, Nat.reduceBEq, wk1, forall_eq, Nat.reduceAdd, reduceIte, Nat.reduceEqDiff, reduceCtorEq, opLen, Int.reduceLT, Int.reduceEq, opConvert, opIndexAddr, opLoad, Nat.reduceLT, undef, Nat.reduceLeDiff, Array.toList, wk4, wk5, wk0, fxC17LetterSame, G4, G45]
        refine ⟨by simp [veq, veqList, veqCell], letter_ret ⟨_, _, _, rfl, RU.pz x5.pz⟩ okU fun m6 v6 x6 f6 => ?_⟩
        replace f5 := f5.pz x6.pz
        obtain ⟨ea, em, vm, ca, aa, rfl, f5⟩ := f5
        obtain ⟨i1, j1, rfl⟩ := f5.ea.is
        obtain ⟨i2, j2, rfl⟩ := f5.em.is
        obtain ⟨i3, j3, rfl⟩ := f5.vm.is
        obtain ⟨i4, j4, rfl⟩ := f5.ca.is
        obtain ⟨i5, j5, rfl⟩ := f5.aa.is
        obtain ⟨ea, em, vm, ca, aa, rfl, f6⟩ := f6
        obtain ⟨s1, t1, rfl⟩ := f6.ea.is
        obtain ⟨s2, t2, rfl⟩ := f6.em.is
        obtain ⟨s3, t3, rfl⟩ := f6.vm.is
        obtain ⟨s4, t4, rfl⟩ := f6.ca.is
        obtain ⟨s5, t5, rfl⟩ := f6.aa.is
        obtain ⟨A, hA⟩ : ∃ A, A = only S.all := ⟨_, rfl⟩
        obtain ⟨B, hB⟩ : ∃ B, B = only U2.all := ⟨_, rfl⟩
        rw [← hA] at f5 ⊢
        rw [← hB] at f6 ⊢
        have nn : ¬ m6.next = m6.next + 1 := by omega
        have oA := all_ok ok l1
        have oB := all_ok okU lU
        have cA : lck A = 0 := by rw [hA, lck_only]; exact all_lck ok l1
        have cB : lck B = 0 := by rw [hB, lck_only]; exact all_lck okU lU
        have kA : Ok A := by rw [hA]; exact only_ok oA.1
        have kB : Ok B := by rw [hB]; exact only_ok oB.1
        have tA : Ty A := by rw [hA]; exact only_ty oA.2
        have tB : Ty B := by rw [hB]; exact only_ty oB.2
        have eA : only A = A := by rw [hA, only_only]
        have eB : only B = B := by rw [hB, only_only]
        have b46 : b4 < m6.next := by have := x5.1; have := x6.1; omega
        have G46 := (x6.2 b4 (by have := x5.1; omega)).trans G45
        have hn1 : ¬ b4 = m6.next := by omega
        have hn2 : ¬ b4 = m6.next + 1 := by omega
        simp only [wk6, Nat.reduceBEq, wk1, forall_eq, Nat.reduceAdd, reduceIte, Nat.reduceEqDiff, reduceCtorEq, opLen, Int.reduceLT, Int.reduceEq, opConvert, opIndexAddr, opLoad, Nat.reduceLT, undef, Nat.reduceLeDiff, Array.toList, wk4, wk5, wk0, fxC17LetterSame, nn, G45, G46, hn1, hn2]
        obtain ⟨m7, hm7⟩ : ∃ M, M = (((m6.new (.cells (zCells 0 0 0) 51 true)).new (.cells (zCells 0 0 0) 51 true)).set m6.next (.cells (letC A (.slice i1 A.E.args.length j1) (.slice i2 A.E.mem.length j2) (.slice i3 A.vm.length j3) (.slice i4 A.C.s.length j4) (.slice i5 A.A.s.length j5)) 51 true)).set (m6.next + 1) (.cells (letC B (.slice s1 B.E.args.length t1) (.slice s2 B.E.mem.length t2) (.slice s3 B.vm.length t3) (.slice s4 B.C.s.length t4) (.slice s5 B.A.s.length t5)) 51 true) := ⟨_, rfl⟩
        have x7 : Ext m6 m7 := by rw [hm7]; exact (((Ext.new _ _).trans (Ext.new _ _)).set (by omega)).set (by omega)
        have n7 : m7.next = m6.next + 2 := by rw [hm7]; rfl
        have ga : m7.get m6.next = some (.cells (letC A (.slice i1 A.E.args.length j1) (.slice i2 A.E.mem.length j2) (.slice i3 A.vm.length j3) (.slice i4 A.C.s.length j4) (.slice i5 A.A.s.length j5)) 51 true) := by rw [hm7, set_get_ne _ (by omega), set_get]
        have gb : m7.get (m6.next + 1) = some (.cells (letC B (.slice s1 B.E.args.length t1) (.slice s2 B.E.mem.length t2) (.slice s3 B.vm.length t3) (.slice s4 B.C.s.length t4) (.slice s5 B.A.s.length t5)) 51 true) := by rw [hm7, set_get]
        simp only [zCells] at hm7
        rw [← hm7]
        clear hm7
        refine lput_ret ⟨_, _, _, _, _, rfl, f5.pz x7.pz⟩ kA tA (fun h => (h cA).elim) (fun _ m8 r8 x8 y8 z8 g8 => ?_)
        have gb8 := (x8.2 (m6.next + 1) (by omega)).trans gb
        have ga8 := (x8.2 m6.next (by omega)).trans ga
        have l8 := x8.1
        simp only [wk6, Nat.reduceBEq, wk1, forall_eq, Nat.reduceAdd, reduceIte, Nat.reduceEqDiff, reduceCtorEq, opLen, Int.reduceLT, Int.reduceEq, opConvert, opIndexAddr, opLoad, Nat.reduceLT, undef, Nat.reduceLeDiff, Array.toList, wk4, wk5, wk0, fxC17LetterSame, gb8]
        refine lput_ret ⟨_, _, _, _, _, rfl, f6.pz (x7.trans x8).pz⟩ kB tB (fun h => (h cB).elim) (fun _ m9 r9 x9 y9 z9 g9 => ?_)
        have ga9 := (x9.2 m6.next (by omega)).trans ga8
        have gb9 := (x9.2 (m6.next + 1) (by omega)).trans gb8
        have gr9 := (x9.2 r8 (by omega)).trans g8
        have cv1 := conv_row gr9
        have cv2 := conv_row g9
        simp only [wk6, Nat.reduceBEq, wk1, forall_eq, Nat.reduceAdd, reduceIte, Nat.reduceEqDiff, reduceCtorEq, opLen, Int.reduceLT, Int.reduceEq, opConvert, opIndexAddr, opLoad, Nat.reduceLT, undef, Nat.reduceLeDiff, Array.toList, wk4, wk5, wk0, fxC17LetterSame]
        refine Loose.by (fun y => y = r8 ∨ y = r9) ?_
        simp only [wk6, Nat.reduceBEq, wk1, forall_eq, Nat.reduceAdd, reduceIte, Nat.reduceEqDiff, reduceCtorEq, opLen, Int.reduceLT, Int.reduceEq, opIndexAddr, opLoad, Nat.reduceLT, undef, Nat.reduceLeDiff, Array.toList, wk4, wk5, wk0, fxC17LetterSame, cv1, cv2, ga9, gb9]
        have zz := ((x7.trans x8).trans x9).pz
        refine ⟨.inl trivial, .inr trivial, lsame_ret ⟨_, _, _, _, _, rfl, f5.pz zz⟩ ⟨_, _, _, _, _, rfl, f6.pz zz⟩ kA fun m10 x10 => ?_⟩
        have e := same_tail (a := A) (b := B) rfl rfl (lfit_of kA tA cA) (lfit_of kB tB cB) kA kB tA tB cA cB eA eB
        have q1 := (x10.2 r8 (by have := x9.1; omega)).trans gr9
        have q2 := (x10.2 r9 (by omega)).trans g9
        have cv3 := conv_row q1
        have cv4 := conv_row q2
        simp only [wk6, Nat.reduceBEq, wk1, forall_eq, Nat.reduceAdd, reduceIte, Nat.reduceEqDiff, reduceCtorEq, opLen, Int.reduceLT, Int.reduceEq, opIndexAddr, opLoad, Nat.reduceLT, undef, Nat.reduceLeDiff, Array.toList, wk4, wk5, optV_some, guardV_true, guardV_false, condV_true, condV_false, wpc_skip, wpc_label, wpc_exit, wpc_ret, wpc_region, wpc_seq, wpc_cond, wpc_block, wpc_scope, wpc_loop, wpo_nil, wpo_cons, wps_open, put_get, put_none, keep_some, bin_add, bin_sub, bin_mul, bin_quo, bin_rem, bin_and, bin_or, bin_xor, bin_shl, bin_shr, bin_lss, bin_leq, bin_gtr, bin_geq, bin_eql, bin_neq, bin_seql, un_neg, un_xor, un_not, oneOf_one, fxC17LetterSame, cv1, cv2, cv3, cv4, e, beqb, q1, q2, gr9, g9]
      · simp only [wk6, Nat.reduceBEq, wk1, forall_eq, Nat.reduceAdd, reduceIte, Nat.reduceEqDiff, reduceCtorEq, opLen, Int.reduceLT, Int.reduceEq, opConvert, opIndexAddr, opLoad, Nat.reduceLT, undef, Nat.reduceLeDiff, Array.toList, wk4, wk5, wk0, fxC17LetterSame, d2, h2, g33, g43]
        obtain ⟨U2, hU2⟩ : ∃ V : SmL, V = U := ⟨_, rfl⟩
        subst hU2
        have okU := oku
        have lU := l2
        obtain ⟨M, hM⟩ : ∃ M, M = m3 := ⟨_, rfl⟩
        subst hM
        have X := X3
        have hb4M : b4 < M.next := by have := x1.1; have := x2.1; have := x3.1; omega
        have G3 := g33
        have G4 := g43
        have RU := g.pz X3.pz
        have l0 := X.1
        refine Loose.by (fun y => y = b4) ?_
        simp only [wk6, Nat.reduceBEq, wk1, forall_eq, Nat.reduceAdd, reduceIte, Nat.reduceEqDiff, reduceCtorEq, opLen, Int.reduceLT, Int.reduceEq, opConvert, opIndexAddr, opLoad, Nat.reduceLT, undef, Nat.reduceLeDiff, Array.toList, wk4, wk5, wk0, fxC17LetterSame, G3, G4]
        refine letter_ret ⟨_, _, _, rfl, h.pz X.pz⟩ ok fun m5 v5 x5 f5 => ?_
        have G45 := (x5.2 b4 hb4M).trans G4
        simp only [wk6, Nat.reduceBEq, wk1, forall_eq, Nat.reduceAdd, reduceIte, Nat.reduceEqDiff, reduceCtorEq, opLen, Int.reduceLT, Int.reduceEq, opConvert, opIndexAddr, opLoad, Nat.reduceLT, undef, Nat.reduceLeDiff, Array.toList, wk4, wk5, wk0, fxC17LetterSame, G4, G45]
        refine ⟨by simp [veq, veqList, veqCell], letter_ret ⟨_, _, _, rfl, RU.pz x5.pz⟩ okU fun m6 v6 x6 f6 => ?_⟩
        replace f5 := f5.pz x6.pz
        obtain ⟨ea, em, vm, ca, aa, rfl, f5⟩ := f5
        obtain ⟨i1, j1, rfl⟩ := f5.ea.is
        obtain ⟨i2, j2, rfl⟩ := f5.em.is
        obtain ⟨i3, j3, rfl⟩ := f5.vm.is
        obtain ⟨i4, j4, rfl⟩ := f5.ca.is
        obtain ⟨i5, j5, rfl⟩ := f5.aa.is
        obtain ⟨ea, em, vm, ca, aa, rfl, f6⟩ := f6
        obtain ⟨s1, t1, rfl⟩ := f6.ea.is
        obtain ⟨s2, t2, rfl⟩ := f6.em.is
        obtain ⟨s3, t3, rfl⟩ := f6.vm.is
        obtain ⟨s4, t4, rfl⟩ := f6.ca.is
        obtain ⟨s5, t5, rfl⟩ := f6.aa.is
        obtain ⟨A, hA⟩ : ∃ A, A = only S.all := ⟨_, rfl⟩
        obtain ⟨B, hB⟩ : ∃ B, B = only U2.all := ⟨_, rfl⟩
        rw [← hA] at f5 ⊢
        rw [← hB] at f6 ⊢
        have nn : ¬ m6.next = m6.next + 1 := by omega
        have oA := all_ok ok l1
        have oB := all_ok okU lU
        have cA : lck A = 0 := by rw [hA, lck_only]; exact all_lck ok l1
        have cB : lck B = 0 := by rw [hB, lck_only]; exact all_lck okU lU
        have kA : Ok A := by rw [hA]; exact only_ok oA.1
        have kB : Ok B := by rw [hB]; exact only_ok oB.1
        have tA : Ty A := by rw [hA]; exact only_ty oA.2
        have tB : Ty B := by rw [hB]; exact only_ty oB.2
        have eA : only A = A := by rw [hA, only_only]
        have eB : only B = B := by rw [hB, only_only]
        have b46 : b4 < m6.next := by have := x5.1; have := x6.1; omega
        have G46 := (x6.2 b4 (by have := x5.1; omega)).trans G45
        have hn1 : ¬ b4 = m6.next := by omega
        have hn2 : ¬ b4 = m6.next + 1 := by omega
        simp only [wk6, Nat.reduceBEq, wk1, forall_eq, Nat.reduceAdd, reduceIte, Nat.reduceEqDiff, reduceCtorEq, opLen, Int.reduceLT, Int.reduceEq, opConvert, opIndexAddr, opLoad, Nat.reduceLT, undef, Nat.reduceLeDiff, Array.toList, wk4, wk5, wk0, fxC17LetterSame, nn, G45, G46, hn1, hn2]
        obtain ⟨m7, hm7⟩ : ∃ M, M = (((m6.new (.cells (zCells 0 0 0) 51 true)).new (.cells (zCells 0 0 0) 51 true)).set m6.next (.cells (letC A (.slice i1 A.E.args.length j1) (.slice i2 A.E.mem.length j2) (.slice i3 A.vm.length j3) (.slice i4 A.C.s.length j4) (.slice i5 A.A.s.length j5)) 51 true)).set (m6.next + 1) (.cells (letC B (.slice s1 B.E.args.length t1) (.slice s2 B.E.mem.length t2) (.slice s3 B.vm.length t3) (.slice s4 B.C.s.length t4) (.slice s5 B.A.s.length t5)) 51 true) := ⟨_, rfl⟩
        have x7 : Ext m6 m7 := by rw [hm7]; exact (((Ext.new _ _).trans (Ext.new _ _)).set (by omega)).set (by omega)
        have n7 : m7.next = m6.next + 2 := by rw [hm7]; rfl
        have ga : m7.get m6.next = some (.cells (letC A (.slice i1 A.E.args.length j1) (.slice i2 A.E.mem.length j2) (.slice i3 A.vm.length j3) (.slice i4 A.C.s.length j4) (.slice i5 A.A.s.length j5)) 51 true) := by rw [hm7, set_get_ne _ (by omega), set_get]
        have gb : m7.get (m6.next + 1) = some (.cells (letC B (.slice s1 B.E.args.length t1) (.slice s2 B.E.mem.length t2) (.slice s3 B.vm.length t3) (.slice s4 B.C.s.length t4) (.slice s5 B.A.s.length t5)) 51 true) := by rw [hm7, set_get]
        simp only [zCells] at hm7
        rw [← hm7]
        clear hm7
        refine lput_ret ⟨_, _, _, _, _, rfl, f5.pz x7.pz⟩ kA tA (fun h => (h cA).elim) (fun _ m8 r8 x8 y8 z8 g8 => ?_)
        have gb8 := (x8.2 (m6.next + 1) (by omega)).trans gb
        have ga8 := (x8.2 m6.next (by omega)).trans ga
        have l8 := x8.1
        simp only [wk6, Nat.reduceBEq, wk1, forall_eq, Nat.reduceAdd, reduceIte, Nat.reduceEqDiff, reduceCtorEq, opLen, Int.reduceLT, Int.reduceEq, opConvert, opIndexAddr, opLoad, Nat.reduceLT, undef, Nat.reduceLeDiff, Array.toList, wk4, wk5, wk0, fxC17LetterSame, gb8]
        refine lput_ret ⟨_, _, _, _, _, rfl, f6.pz (x7.trans x8).pz⟩ kB tB (fun h => (h cB).elim) (fun _ m9 r9 x9 y9 z9 g9 => ?_)
        have ga9 := (x9.2 m6.next (by omega)).trans ga8
        have gb9 := (x9.2 (m6.next + 1) (by omega)).trans gb8
        have gr9 := (x9.2 r8 (by omega)).trans g8
        have cv1 := conv_row gr9
        have cv2 := conv_row g9
        simp only [wk6, Nat.reduceBEq, wk1, forall_eq, Nat.reduceAdd, reduceIte, Nat.reduceEqDiff, reduceCtorEq, opLen, Int.reduceLT, Int.reduceEq, opConvert, opIndexAddr, opLoad, Nat.reduceLT, undef, Nat.reduceLeDiff, Array.toList, wk4, wk5, wk0, fxC17LetterSame]
        refine Loose.by (fun y => y = r8 ∨ y = r9) ?_
        simp only [wk6, Nat.reduceBEq, wk1, forall_eq, Nat.reduceAdd, reduceIte, Nat.reduceEqDiff, reduceCtorEq, opLen, Int.reduceLT, Int.reduceEq, opIndexAddr, opLoad, Nat.reduceLT, undef, Nat.reduceLeDiff, Array.toList, wk4, wk5, wk0, fxC17LetterSame, cv1, cv2, ga9, gb9]
        have zz := ((x7.trans x8).trans x9).pz
        refine ⟨.inl trivial, .inr trivial, lsame_ret ⟨_, _, _, _, _, rfl, f5.pz zz⟩ ⟨_, _, _, _, _, rfl, f6.pz zz⟩ kA fun m10 x10 => ?_⟩
        have e := same_tail (a := A) (b := B) rfl rfl (lfit_of kA tA cA) (lfit_of kB tB cB) kA kB tA tB cA cB eA eB
        have q1 := (x10.2 r8 (by have := x9.1; omega)).trans gr9
        have q2 := (x10.2 r9 (by omega)).trans g9
        have cv3 := conv_row q1
        have cv4 := conv_row q2
        simp only [wk6, Nat.reduceBEq, wk1, forall_eq, Nat.reduceAdd, reduceIte, Nat.reduceEqDiff, reduceCtorEq, opLen, Int.reduceLT, Int.reduceEq, opIndexAddr, opLoad, Nat.reduceLT, undef, Nat.reduceLeDiff, Array.toList, wk4, wk5, optV_some, guardV_true, guardV_false, condV_true, condV_false, wpc_skip, wpc_label, wpc_exit, wpc_ret, wpc_region, wpc_seq, wpc_cond, wpc_block, wpc_scope, wpc_loop, wpo_nil, wpo_cons, wps_open, put_get, put_none, keep_some, bin_add, bin_sub, bin_mul, bin_quo, bin_rem, bin_and, bin_or, bin_xor, bin_shl, bin_shr, bin_lss, bin_leq, bin_gtr, bin_geq, bin_eql, bin_neq, bin_seql, un_neg, un_xor, un_not, oneOf_one, fxC17LetterSame, cv1, cv2, cv3, cv4, e, beqb, q1, q2, gr9, g9]
    · have d2 := decide_eq_false l2
      simp only [wk6, Nat.reduceBEq, wk1, forall_eq, Nat.reduceAdd, reduceIte, Nat.reduceEqDiff, reduceCtorEq, opLen, Int.reduceLT, Int.reduceEq, opConvert, opIndexAddr, opLoad, Nat.reduceLT, undef, Nat.reduceLeDiff, Array.toList, wk4, wk5, wk0, fxC17LetterSame, d2]
  · have d1 := decide_eq_false l1
    simp only [wk6, Nat.reduceBEq, wk1, forall_eq, Nat.reduceAdd, reduceIte, Nat.reduceEqDiff, reduceCtorEq, opLen, Int.reduceLT, Int.reduceEq, opConvert, opIndexAddr, opLoad, Nat.reduceLT, undef, Nat.reduceLeDiff, Array.toList, wk4, wk5, wk0, fxC17LetterSame, d1]
theorem letterSame_true {H : Type} {m : Mem} {xs : List Value} {ds : List (DataW H)} (hd : IsDs Try.prog 8 [32, 32, 5] ds) (hl : LieAll Try.prog m [32, 32, 5] ds xs) : Ret Try.prog 6 xs m fun v _ => v = .bool true := by
  match ds, hd with
  | [d0, d1, d2], hd =>
    obtain ⟨i0, i1, i2, _⟩ := hd
    obtain ⟨v0, _, rfl, l0, v1, _, rfl, l1, v2, _, rfl, l2, rfl⟩ := hl
    obtain ⟨S, h, ok⟩ := small_of (k := 1) i0 l0
    obtain ⟨U, g, oku⟩ := small_of (k := 1) i1 l1
    obtain ⟨x, rfl, w⟩ := lies_int (k := 7) Try.underlying5 i2 l2
    exact lsamelaw_ret h ok g oku (wf_u8 w)
end Go.Proofs.Ytejgoooanapjbaa
