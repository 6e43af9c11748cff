/- A text of the abstract machine. -/






/- Letters: whether one may be. -/
import Derived.Test.YtejgoooanapjbaaAmC17i
import Derived.Test.YtejgoooanapjbaaAmBun
set_option linter.unusedSimpArgs false
set_option linter.unusedVariables false
set_option maxRecDepth 100000
set_option maxHeartbeats 4000000
namespace Go.Proofs.Ytejgoooanapjbaa
open Go Go.AM Go.AM.Crc Go.AM.Wire
theorem fxC17j : type_of% (And.intro (And.intro (And.intro (And.intro (And.intro (And.intro (And.intro @Try.underlying3 (And.intro @Try.underlying4 @Try.underlying5)) (And.intro (And.intro @Try.underlying9 @Try.underlying42) (And.intro @Try.underlying46 @Try.underlying47))) (And.intro (And.intro (And.intro @Try.underlying123 @Try.underlying23) (And.intro @Try.underlying26 @Try.underlying28)) (And.intro (And.intro @Try.underlying39 @Try.underlying41) (And.intro @Try.underlying44 @Try.underlying24)))) (And.intro (And.intro (And.intro @Try.underlying37 (And.intro @Try.underlying22 @Try.underlying0)) (And.intro (And.intro @Try.underlying100 @Try.underlying66) (And.intro @Try.underlying68 @Try.underlying78))) (And.intro (And.intro (And.intro @Try.underlying103 @Try.underlying49) (And.intro @Try.underlying34 @Try.underlying36)) (And.intro (And.intro @Try.underlying51 @Try.underlying53) (And.intro @Try.underlying55 @Try.underlying88))))) (And.intro (And.intro (And.intro (And.intro @Try.underlying32 (And.intro @Try.underlying30 @Try.underlying61)) (And.intro (And.intro @Try.underlying63 @Try.underlying90) (And.intro @Try.underlying92 @Try.underlying94))) (And.intro (And.intro (And.intro @ts3 @ts4) (And.intro @ts5 @ts9)) (And.intro (And.intro @ts42 @ts46) (And.intro @ts47 @ts123)))) (And.intro (And.intro (And.intro (And.intro @ts23 @ts26) (And.intro @ts28 @ts39)) (And.intro (And.intro @ts41 @ts44) (And.intro @ts24 @ts37))) (And.intro (And.intro (And.intro @ts22 @ts0) (And.intro @ts100 @ts66)) (And.intro (And.intro @ts68 @ts78) (And.intro @ts103 @ts49)))))) (And.intro (And.intro (And.intro (And.intro (And.intro @ts34 (And.intro @ts36 @ts51)) (And.intro (And.intro @ts53 @ts55) (And.intro @ts88 @ts32))) (And.intro (And.intro (And.intro @ts30 @ts61) (And.intro @ts63 @ts90)) (And.intro (And.intro @ts92 @ts94) (And.intro @tz3 @tz4)))) (And.intro (And.intro (And.intro @tz5 (And.intro @tz9 @tz42)) (And.intro (And.intro @tz46 @tz47) (And.intro @tz123 @tz23))) (And.intro (And.intro (And.intro @tz26 @tz28) (And.intro @tz39 @tz41)) (And.intro (And.intro @tz44 @tz24) (And.intro @tz37 @tz22))))) (And.intro (And.intro (And.intro (And.intro @tz0 (And.intro @tz100 @tz66)) (And.intro (And.intro @tz68 @tz78) (And.intro @tz103 @tz49))) (And.intro (And.intro (And.intro @tz34 @tz36) (And.intro @tz51 @tz53)) (And.intro (And.intro @tz55 @tz88) (And.intro @tz32 @tz30)))) (And.intro (And.intro (And.intro (And.intro @tz61 @tz63) (And.intro @tz90 @tz92)) (And.intro (And.intro @tz94 @tb3) (And.intro @tb4 @tb5))) (And.intro (And.intro (And.intro @tb9 @tb42) (And.intro @tb46 @tb47)) (And.intro (And.intro @tb123 @tb23) (And.intro @tb26 @tb28))))))) (And.intro (And.intro (And.intro (And.intro (And.intro (And.intro @tb39 (And.intro @tb41 @tb44)) (And.intro (And.intro @tb24 @tb37) (And.intro @tb22 @tb0))) (And.intro (And.intro (And.intro @tb100 @tb66) (And.intro @tb68 @tb78)) (And.intro (And.intro @tb103 @tb49) (And.intro @tb34 @tb36)))) (And.intro (And.intro (And.intro @tb51 (And.intro @tb53 @tb55)) (And.intro (And.intro @tb88 @tb32) (And.intro @tb30 @tb61))) (And.intro (And.intro (And.intro @tb63 @tb90) (And.intro @tb92 @tb94)) (And.intro (And.intro @fr8 @fr9) (And.intro @fr11 @fr13))))) (And.intro (And.intro (And.intro (And.intro @fr15 (And.intro @fr16 @fr18)) (And.intro (And.intro @fr19 @fr20) (And.intro @fr25 @fr26))) (And.intro (And.intro (And.intro @fr27 @fr28) (And.intro @fr38 @fr39)) (And.intro (And.intro @fr40 @fr41) (And.intro @fr42 @fr51)))) (And.intro (And.intro (And.intro (And.intro @fr52 @fr53) (And.intro @fr54 @bz46)) (And.intro (And.intro @al46 @fa46_0) (And.intro @fa46_1 @bz28))) (And.intro (And.intro (And.intro @bz26 @bz41) (And.intro @bz44 @al41)) (And.intro (And.intro @al44 @fa44_0) (And.intro @fa44_1 @fa44_2)))))) (And.intro (And.intro (And.intro (And.intro (And.intro @fa41_0 (And.intro @fa41_1 @fa41_2)) (And.intro (And.intro @fa28_0 @fa28_1) (And.intro @fa28_2 @fa26_0))) (And.intro (And.intro (And.intro @fa26_1 @fa26_2) (And.intro @fa26_3 @bz103)) (And.intro (And.intro @al68 @al103) (And.intro @fa68_0 @fa103_0)))) (And.intro (And.intro (And.intro @fa103_1 (And.intro @fa103_2 @bin_weq)) (And.intro (And.intro @bin_wneq @bin_req) (And.intro @bin_rneq @bz39))) (And.intro (And.intro (And.intro @fa39_0 @fa39_1) (And.intro @bz68 @bz49)) (And.intro (And.intro @al49 @fa49_0) (And.intro @fa49_1 @fa49_2))))) (And.intro (And.intro (And.intro (And.intro @bz51 (And.intro @al51 @fa51_0)) (And.intro (And.intro @fa51_1 @fa51_2) (And.intro @fa51_3 @fa51_4))) (And.intro (And.intro (And.intro @fa51_5 @fa51_6) (And.intro @fa51_7 @fa51_8)) (And.intro (And.intro @fa51_9 @fa51_10) (And.intro @fa51_11 @bz36)))) (And.intro (And.intro (And.intro (And.intro @al36 @fa36_0) (And.intro @fa36_1 @oneOf_two)) (And.intro (And.intro @al24 @al90) (And.intro @bz32 @set_set))) (And.intro (And.intro (And.intro @bldL3 @bldB) (And.intro @vqB @vqE)) (And.intro (And.intro @vqA @vqC) (And.intro @vqI @vqW)))))))) := (And.intro (And.intro (And.intro (And.intro (And.intro (And.intro (And.intro @Try.underlying3 (And.intro @Try.underlying4 @Try.underlying5)) (And.intro (And.intro @Try.underlying9 @Try.underlying42) (And.intro @Try.underlying46 @Try.underlying47))) (And.intro (And.intro (And.intro @Try.underlying123 @Try.underlying23) (And.intro @Try.underlying26 @Try.underlying28)) (And.intro (And.intro @Try.underlying39 @Try.underlying41) (And.intro @Try.underlying44 @Try.underlying24)))) (And.intro (And.intro (And.intro @Try.underlying37 (And.intro @Try.underlying22 @Try.underlying0)) (And.intro (And.intro @Try.underlying100 @Try.underlying66) (And.intro @Try.underlying68 @Try.underlying78))) (And.intro (And.intro (And.intro @Try.underlying103 @Try.underlying49) (And.intro @Try.underlying34 @Try.underlying36)) (And.intro (And.intro @Try.underlying51 @Try.underlying53) (And.intro @Try.underlying55 @Try.underlying88))))) (And.intro (And.intro (And.intro (And.intro @Try.underlying32 (And.intro @Try.underlying30 @Try.underlying61)) (And.intro (And.intro @Try.underlying63 @Try.underlying90) (And.intro @Try.underlying92 @Try.underlying94))) (And.intro (And.intro (And.intro @ts3 @ts4) (And.intro @ts5 @ts9)) (And.intro (And.intro @ts42 @ts46) (And.intro @ts47 @ts123)))) (And.intro (And.intro (And.intro (And.intro @ts23 @ts26) (And.intro @ts28 @ts39)) (And.intro (And.intro @ts41 @ts44) (And.intro @ts24 @ts37))) (And.intro (And.intro (And.intro @ts22 @ts0) (And.intro @ts100 @ts66)) (And.intro (And.intro @ts68 @ts78) (And.intro @ts103 @ts49)))))) (And.intro (And.intro (And.intro (And.intro (And.intro @ts34 (And.intro @ts36 @ts51)) (And.intro (And.intro @ts53 @ts55) (And.intro @ts88 @ts32))) (And.intro (And.intro (And.intro @ts30 @ts61) (And.intro @ts63 @ts90)) (And.intro (And.intro @ts92 @ts94) (And.intro @tz3 @tz4)))) (And.intro (And.intro (And.intro @tz5 (And.intro @tz9 @tz42)) (And.intro (And.intro @tz46 @tz47) (And.intro @tz123 @tz23))) (And.intro (And.intro (And.intro @tz26 @tz28) (And.intro @tz39 @tz41)) (And.intro (And.intro @tz44 @tz24) (And.intro @tz37 @tz22))))) (And.intro (And.intro (And.intro (And.intro @tz0 (And.intro @tz100 @tz66)) (And.intro (And.intro @tz68 @tz78) (And.intro @tz103 @tz49))) (And.intro (And.intro (And.intro @tz34 @tz36) (And.intro @tz51 @tz53)) (And.intro (And.intro @tz55 @tz88) (And.intro @tz32 @tz30)))) (And.intro (And.intro (And.intro (And.intro @tz61 @tz63) (And.intro @tz90 @tz92)) (And.intro (And.intro @tz94 @tb3) (And.intro @tb4 @tb5))) (And.intro (And.intro (And.intro @tb9 @tb42) (And.intro @tb46 @tb47)) (And.intro (And.intro @tb123 @tb23) (And.intro @tb26 @tb28))))))) (And.intro (And.intro (And.intro (And.intro (And.intro (And.intro @tb39 (And.intro @tb41 @tb44)) (And.intro (And.intro @tb24 @tb37) (And.intro @tb22 @tb0))) (And.intro (And.intro (And.intro @tb100 @tb66) (And.intro @tb68 @tb78)) (And.intro (And.intro @tb103 @tb49) (And.intro @tb34 @tb36)))) (And.intro (And.intro (And.intro @tb51 (And.intro @tb53 @tb55)) (And.intro (And.intro @tb88 @tb32) (And.intro @tb30 @tb61))) (And.intro (And.intro (And.intro @tb63 @tb90) (And.intro @tb92 @tb94)) (And.intro (And.intro @fr8 @fr9) (And.intro @fr11 @fr13))))) (And.intro (And.intro (And.intro (And.intro @fr15 (And.intro @fr16 @fr18)) (And.intro (And.intro @fr19 @fr20) (And.intro @fr25 @fr26))) (And.intro (And.intro (And.intro @fr27 @fr28) (And.intro @fr38 @fr39)) (And.intro (And.intro @fr40 @fr41) (And.intro @fr42 @fr51)))) (And.intro (And.intro (And.intro (And.intro @fr52 @fr53) (And.intro @fr54 @bz46)) (And.intro (And.intro @al46 @fa46_0) (And.intro @fa46_1 @bz28))) (And.intro (And.intro (And.intro @bz26 @bz41) (And.intro @bz44 @al41)) (And.intro (And.intro @al44 @fa44_0) (And.intro @fa44_1 @fa44_2)))))) (And.intro (And.intro (And.intro (And.intro (And.intro @fa41_0 (And.intro @fa41_1 @fa41_2)) (And.intro (And.intro @fa28_0 @fa28_1) (And.intro @fa28_2 @fa26_0))) (And.intro (And.intro (And.intro @fa26_1 @fa26_2) (And.intro @fa26_3 @bz103)) (And.intro (And.intro @al68 @al103) (And.intro @fa68_0 @fa103_0)))) (And.intro (And.intro (And.intro @fa103_1 (And.intro @fa103_2 @bin_weq)) (And.intro (And.intro @bin_wneq @bin_req) (And.intro @bin_rneq @bz39))) (And.intro (And.intro (And.intro @fa39_0 @fa39_1) (And.intro @bz68 @bz49)) (And.intro (And.intro @al49 @fa49_0) (And.intro @fa49_1 @fa49_2))))) (And.intro (And.intro (And.intro (And.intro @bz51 (And.intro @al51 @fa51_0)) (And.intro (And.intro @fa51_1 @fa51_2) (And.intro @fa51_3 @fa51_4))) (And.intro (And.intro (And.intro @fa51_5 @fa51_6) (And.intro @fa51_7 @fa51_8)) (And.intro (And.intro @fa51_9 @fa51_10) (And.intro @fa51_11 @bz36)))) (And.intro (And.intro (And.intro (And.intro @al36 @fa36_0) (And.intro @fa36_1 @oneOf_two)) (And.intro (And.intro @al24 @al90) (And.intro @bz32 @set_set))) (And.intro (And.intro (And.intro @bldL3 @bldB) (And.intro @vqB @vqE)) (And.intro (And.intro @vqA @vqC) (And.intro @vqI @vqW))))))))
def rightB (r n : Int) : Bool := decide (0 ≤ r) && (decide (r < 4294967296) && (decide (0 ≤ n) && decide (n < 16)))
theorem right_ret {m : Mem} {r n : Int} {K : Value → Mem → Prop} (hK : ∀ m', Ext m m' → K (.bool (rightB r n)) m') : Ret Try.prog 38 [bal r n] m K := by
  refine ret_wp [] Try.func38 rfl (by decide) (by kernel_rfl) ?_
  unfold rightB at hK
  cases d1 : decide (0 ≤ r) with
  | false =>
    rw [d1] at hK
    simp only [Nat.reduceAdd, reduceIte, Nat.reduceEqDiff, reduceCtorEq, opLen, Int.reduceLT, Int.reduceEq, opConvert, opIndexAddr, opLoad, Nat.reduceLT, undef, Nat.reduceLeDiff, Array.toList, wk4, wk5, wk0, fxC17j, d1]
    exact hK _ (Ext.new _ _)
  | true =>
    cases d2 : decide (r < 4294967296) with
    | false =>
      rw [d1, d2] at hK
      simp only [Nat.reduceAdd, reduceIte, Nat.reduceEqDiff, reduceCtorEq, opLen, Int.reduceLT, Int.reduceEq, opConvert, opIndexAddr, opLoad, Nat.reduceLT, undef, Nat.reduceLeDiff, Array.toList, wk4, wk5, wk0, fxC17j, d1, d2]
      exact hK _ (Ext.new _ _)
    | true =>
      cases d3 : decide (0 ≤ n) with
      | false =>
        rw [d1, d2, d3] at hK
        simp only [Nat.reduceAdd, reduceIte, Nat.reduceEqDiff, reduceCtorEq, opLen, Int.reduceLT, Int.reduceEq, opConvert, opIndexAddr, opLoad, Nat.reduceLT, undef, Nat.reduceLeDiff, Array.toList, wk4, wk5, wk0, fxC17j, d1, d2, d3]
        exact hK _ (Ext.new _ _)
      | true =>
        rw [d1, d2, d3] at hK
        simp only [Nat.reduceAdd, reduceIte, Nat.reduceEqDiff, reduceCtorEq, opLen, Int.reduceLT, Int.reduceEq, opConvert, opIndexAddr, opLoad, Nat.reduceLT, undef, Nat.reduceLeDiff, Array.toList, wk4, wk5, wk0, fxC17j, d1, d2, d3]
        exact hK _ (Ext.new _ _)
/-- A letter whose parts are of some size. -/
structure Ok (L : Let) : Prop where
  ek : 0 ≤ L.E.kind
  em : L.E.mem.length < 2 ^ 40
  vm : L.vm.length < 2 ^ 40
  cp : 0 ≤ L.C.p ∧ L.C.p < 65536
  cs : L.C.s.length ≤ 4000
  ae : 0 ≤ L.A.e ∧ L.A.e < 65536
  aq : 0 ≤ L.A.q ∧ L.A.q < 65536
  al : L.A.s.length ≤ 4000
theorem only_ok {L : Let} (h : Ok L) : Ok (only L) := by
  obtain ⟨h1, h2, h3, h4, h5, h6, h7, h8⟩ := h
  have z0 : (0 : Int) ≤ 0 ∧ (0 : Int) < 65536 := by decide
  have z1 : ([] : List Int).length < 2 ^ 40 := by decide
  have z2 : ([] : List Int).length ≤ 4000 := by decide
  have z3 : (0 : Int) ≤ 0 := by decide
  unfold only
  simp only
  split
  · exact ⟨z3, z1, z1, z0, z2, z0, z0, z2⟩
  split
  · split
    · exact ⟨h1, h2, z1, z0, z2, z0, z0, z2⟩
    · exact ⟨z3, z1, z1, z0, z2, z0, z0, z2⟩
  split
  · exact ⟨h1, h2, z1, z0, z2, z0, z0, z2⟩
  split
  · exact ⟨h1, h2, z1, z0, z2, z0, z0, z2⟩
  split
  · exact ⟨z3, z1, z1, z0, z2, z0, z0, z2⟩
  split
  · exact ⟨z3, z1, z1, h4, h5, z0, z0, z2⟩
  split
  · exact ⟨z3, z1, h3, z0, z2, h6, h7, h8⟩
  · exact ⟨z3, z1, z1, z0, z2, z0, z0, z2⟩
def rangeB (o : Let) : Bool := decide (0 ≤ o.fr) && (decide (o.fr < 16) && (decide (0 ≤ o.to) && (decide (o.to < 16) && (decide (0 ≤ o.pl) && (decide (o.pl < 4294967296) && (rightB o.br o.bn && rightB o.wr o.wn))))))
def viewE (o : Let) : Int := if o.kd = 7 then (if 4294967296 ≤ o.vn then 2 else viewCk o.vn o.vm) else 0
def lck (L : Let) : Int := if 8 ≤ L.kd then 5 else if rangeB (only L) = false then 2 else if viewE (only L) ≠ 0 then viewE (only L) else echk (only L).E
theorem only_kd (L : Let) : (only L).kd = L.kd := by
  unfold only
  simp only
  split
  · rfl
  split
  · split <;> rfl
  split
  · rfl
  split
  · rfl
  split
  · rfl
  split
  · rfl
  split <;> rfl
theorem bld88 (a b c : Int) : opBuild Try.prog 88 [(0, .int .i64 a), (1, .int .i64 b), (2, .int .i64 c)] = some (.agg #[.int .i64 a, .int .i64 b, .int .i64 c]) := by kernel_rfl
theorem lcheck_ret {m : Mem} {v : Value} {L : Let} (h : LetF m v L) (ok : Ok L) {K : Value → Mem → Prop} (hK : ∀ m', Ext m m' → K (.int .i64 (lck L)) m') : Ret Try.prog 13 [v] m K := by
  obtain ⟨ea, em, vm, ca, aa, rfl, h⟩ := h
  obtain ⟨a1, z1, rfl⟩ := h.ea.is
  obtain ⟨a2, z2, rfl⟩ := h.em.is
  obtain ⟨a3, z3, rfl⟩ := h.vm.is
  obtain ⟨a4, z4, rfl⟩ := h.ca.is
  obtain ⟨a5, z5, rfl⟩ := h.aa.is
  refine ret_wp [(12, [4, 7])] Try.func13 rfl (by decide) (by kernel_rfl) ?_
  by_cases h8 : 8 ≤ L.kd
  · have e : lck L = 5 := by rw [lck, if_pos h8]
    rw [e] at hK
    simp only [wk6, Nat.reduceBEq, wk1, forall_eq, Nat.reduceAdd, reduceIte, Nat.reduceEqDiff, reduceCtorEq, opLen, Int.reduceLT, Int.reduceEq, opConvert, opIndexAddr, opLoad, Nat.reduceLT, undef, Nat.reduceLeDiff, Array.toList, wk4, wk5, wk0, fxC17j, h8]
    exact hK _ (Ext.new _ _)
  simp only [wk6, Nat.reduceBEq, wk1, forall_eq, Nat.reduceAdd, reduceIte, Nat.reduceEqDiff, reduceCtorEq, opLen, Int.reduceLT, Int.reduceEq, opConvert, opIndexAddr, opLoad, Nat.reduceLT, undef, Nat.reduceLeDiff, Array.toList, wk4, wk5, wk0, fxC17j, h8]
  obtain ⟨m0, hm0⟩ : ∃ m0, m0 = m.new (.cells (letC L (.slice a1 L.E.args.length z1) (.slice a2 L.E.mem.length z2) (.slice a3 L.vm.length z3) (.slice a4 L.C.s.length z4) (.slice a5 L.A.s.length z5)) 51 true) := ⟨_, rfl⟩
  have x0 : Ext m m0 := by rw [hm0]; exact Ext.new _ _
  have g0 : m0.get m.next = some (.cells (letC L (.slice a1 L.E.args.length z1) (.slice a2 L.E.mem.length z2) (.slice a3 L.vm.length z3) (.slice a4 L.C.s.length z4) (.slice a5 L.A.s.length z5)) 51 true) := by rw [hm0, new_get]
  have n0 : m.next < m0.next := by rw [hm0]; exact Nat.lt_succ_self _
  rw [← hm0]
  clear hm0
  refine only_ret (L := L) ⟨_, _, _, _, _, rfl, h.pz x0.pz⟩ fun m1 v1 x1 F1 => ?_
  have ok1 := only_ok ok
  have ek := only_kd L
  have e0 : lck L = if rangeB (only L) = false then 2 else if viewE (only L) ≠ 0 then viewE (only L) else echk (only L).E := by rw [lck, if_neg h8]
  rw [e0] at hK
  clear e0
  generalize only L = o at F1 ok1 ek hK
  obtain ⟨ea, em, vm, ca, aa, rfl, q⟩ := F1
  obtain ⟨p1, y1, rfl⟩ := q.ea.is
  obtain ⟨p2, y2, rfl⟩ := q.em.is
  obtain ⟨p3, y3, rfl⟩ := q.vm.is
  obtain ⟨p4, y4, rfl⟩ := q.ca.is
  obtain ⟨p5, y5, rfl⟩ := q.aa.is
  have g1 := (x1.2 m.next n0).trans g0
  have n1 := x1.1
  simp only [wk6, Nat.reduceBEq, wk1, forall_eq, Nat.reduceAdd, reduceIte, Nat.reduceEqDiff, reduceCtorEq, opLen, Int.reduceLT, Int.reduceEq, opConvert, opIndexAddr, Nat.reduceLT, undef, Nat.reduceLeDiff, Array.toList, wk4, wk5, wk0, fxC17j, g1]
  obtain ⟨m2, hm2⟩ : ∃ m2, m2 = m1.set m.next (.cells (letC o (.slice p1 o.E.args.length y1) (.slice p2 o.E.mem.length y2) (.slice p3 o.vm.length y3) (.slice p4 o.C.s.length y4) (.slice p5 o.A.s.length y5)) 51 true) := ⟨_, rfl⟩
  have x2 : Ext m m2 := by rw [hm2]; exact (x0.trans x1).set (Nat.le_refl _)
  have g2 : m2.get m.next = some (.cells (letC o (.slice p1 o.E.args.length y1) (.slice p2 o.E.mem.length y2) (.slice p3 o.vm.length y3) (.slice p4 o.C.s.length y4) (.slice p5 o.A.s.length y5)) 51 true) := by rw [hm2, set_get]
  have n2 : m.next < m2.next := by rw [hm2]; simp only [set_next]; omega
  have q2 := q.pz (show Pz m1 m2 by rw [hm2]; exact Pz.set g1 _)
  rw [← hm2]
  clear hm2
  have cell : ∀ M, Ext m2 M → ∀ k : Nat, ∀ c, (letC o (.slice p1 o.E.args.length y1) (.slice p2 o.E.mem.length y2) (.slice p3 o.vm.length y3) (.slice p4 o.C.s.length y4) (.slice p5 o.A.s.length y5))[k]? = some c → ∀ t, aggOf Try.prog t = some false → opLoad Try.prog t (.pointer (some ⟨m.next, k, none⟩)) M = some c := fun M y k c hk t ht => load_cell ((y.2 m.next n2).trans g2) ht hk
  have l1 := fun M y => cell M y 1 _ rfl 3 (by simp only [aggOf, Try.underlying3])
  have l2 := fun M y => cell M y 2 _ rfl 3 (by simp only [aggOf, Try.underlying3])
  have l3 := fun M y => cell M y 3 _ rfl 3 (by simp only [aggOf, Try.underlying3])
  have l4 : ∀ M, Ext m2 M → opLoad Try.prog 36 (.pointer (some ⟨m.next, 4, none⟩)) M = some (bal o.br o.bn) := fun M y => load_agg (P := Try.prog) (t := 36) (sz := 2) (off := 4) ((y.2 m.next n2).trans g2) (by simp only [aggOf, Try.underlying36]) ts36 (by simp)
  have l5 : ∀ M, Ext m2 M → opLoad Try.prog 36 (.pointer (some ⟨m.next, 6, none⟩)) M = some (bal o.wr o.wn) := fun M y => load_agg (P := Try.prog) (t := 36) (sz := 2) (off := 6) ((y.2 m.next n2).trans g2) (by simp only [aggOf, Try.underlying36]) ts36 (by simp)
  have r2 := Ext.refl m2
  have a1' := l1 m2 r2
  have a2' := l2 m2 r2
  have a3' := l3 m2 r2
  have a4' := l4 m2 r2
  have eR : rangeB o = (decide (0 ≤ o.fr) && (decide (o.fr < 16) && (decide (0 ≤ o.to) && (decide (o.to < 16) && (decide (0 ≤ o.pl) && (decide (o.pl < 4294967296) && (rightB o.br o.bn && rightB o.wr o.wn))))))) := rfl
  have bad : rangeB o = false → ∀ M, Ext m M → K (.int .i64 2) M := fun hr M y => by
    rw [if_pos hr] at hK
    exact hK M y
  have n1' : ∀ x : Int, decide (x < 0) = !decide (0 ≤ x) := fun x => by by_cases h : 0 ≤ x <;> simp [h] <;> omega
  by_cases c1 : o.fr < 0
  · have := bad (by rw [eR, decide_eq_false (by omega)]; rfl)
    simp only [wk6, Nat.reduceBEq, wk1, forall_eq, Nat.reduceAdd, reduceIte, Nat.reduceEqDiff, reduceCtorEq, opLen, Int.reduceLT, Int.reduceEq, opConvert, opIndexAddr, Nat.reduceLT, undef, Nat.reduceLeDiff, Array.toList, wk4, wk5, wk0, fxC17j, a1', a2', a3', a4', c1]
    exact this _ x2
  by_cases c2 : 16 ≤ o.fr
  · have := bad (by rw [eR, decide_eq_false (p := o.fr < 16) (by omega)]; simp)
    simp only [wk6, Nat.reduceBEq, wk1, forall_eq, Nat.reduceAdd, reduceIte, Nat.reduceEqDiff, reduceCtorEq, opLen, Int.reduceLT, Int.reduceEq, opConvert, opIndexAddr, Nat.reduceLT, undef, Nat.reduceLeDiff, Array.toList, wk4, wk5, wk0, fxC17j, a1', a2', a3', a4', c1, c2]
    exact this _ x2
  by_cases c3 : o.to < 0
  · have := bad (by rw [eR, decide_eq_false (p := 0 ≤ o.to) (by omega)]; simp)
    simp only [wk6, Nat.reduceBEq, wk1, forall_eq, Nat.reduceAdd, reduceIte, Nat.reduceEqDiff, reduceCtorEq, opLen, Int.reduceLT, Int.reduceEq, opConvert, opIndexAddr, Nat.reduceLT, undef, Nat.reduceLeDiff, Array.toList, wk4, wk5, wk0, fxC17j, a1', a2', a3', a4', c1, c2, c3]
    exact this _ x2
  by_cases c4 : 16 ≤ o.to
  · have := bad (by rw [eR, decide_eq_false (p := o.to < 16) (by omega)]; simp)
    simp only [wk6, Nat.reduceBEq, wk1, forall_eq, Nat.reduceAdd, reduceIte, Nat.reduceEqDiff, reduceCtorEq, opLen, Int.reduceLT, Int.reduceEq, opConvert, opIndexAddr, Nat.reduceLT, undef, Nat.reduceLeDiff, Array.toList, wk4, wk5, wk0, fxC17j, a1', a2', a3', a4', c1, c2, c3, c4]
    exact this _ x2
  by_cases c5 : o.pl < 0
  · have := bad (by rw [eR, decide_eq_false (p := 0 ≤ o.pl) (by omega)]; simp)
    simp only [wk6, Nat.reduceBEq, wk1, forall_eq, Nat.reduceAdd, reduceIte, Nat.reduceEqDiff, reduceCtorEq, opLen, Int.reduceLT, Int.reduceEq, opConvert, opIndexAddr, Nat.reduceLT, undef, Nat.reduceLeDiff, Array.toList, wk4, wk5, wk0, fxC17j, a1', a2', a3', a4', c1, c2, c3, c4, c5]
    exact this _ x2
  by_cases c6 : 4294967296 ≤ o.pl
  · have := bad (by rw [eR, decide_eq_false (p := o.pl < 4294967296) (by omega)]; simp)
    simp only [wk6, Nat.reduceBEq, wk1, forall_eq, Nat.reduceAdd, reduceIte, Nat.reduceEqDiff, reduceCtorEq, opLen, Int.reduceLT, Int.reduceEq, opConvert, opIndexAddr, Nat.reduceLT, undef, Nat.reduceLeDiff, Array.toList, wk4, wk5, wk0, fxC17j, a1', a2', a3', a4', c1, c2, c3, c4, c5, c6]
    exact this _ x2
  simp only [wk6, Nat.reduceBEq, wk1, forall_eq, Nat.reduceAdd, reduceIte, Nat.reduceEqDiff, reduceCtorEq, opLen, Int.reduceLT, Int.reduceEq, opConvert, opIndexAddr, Nat.reduceLT, undef, Nat.reduceLeDiff, Array.toList, wk4, wk5, wk0, fxC17j, a1', a2', a3', a4', c1, c2, c3, c4, c5, c6]
  refine right_ret fun m3 x3 => ?_
  have a5' := l5 m3 x3
  cases b1 : rightB o.br o.bn with
  | false =>
    have := bad (by rw [eR, b1]; simp)
    simp only [wk6, Nat.reduceBEq, wk1, forall_eq, Nat.reduceAdd, reduceIte, Nat.reduceEqDiff, reduceCtorEq, opLen, Int.reduceLT, Int.reduceEq, opConvert, opIndexAddr, Nat.reduceLT, undef, Nat.reduceLeDiff, Array.toList, wk4, wk5, wk0, fxC17j]
    exact this _ (x2.trans x3)
  | true =>
    simp only [wk6, Nat.reduceBEq, wk1, forall_eq, Nat.reduceAdd, reduceIte, Nat.reduceEqDiff, reduceCtorEq, opLen, Int.reduceLT, Int.reduceEq, opConvert, opIndexAddr, Nat.reduceLT, undef, Nat.reduceLeDiff, Array.toList, wk4, wk5, wk0, fxC17j, a5']
    refine right_ret fun m4 x4 => ?_
    have Y4 := x3.trans x4
    cases b2 : rightB o.wr o.wn with
    | false =>
      have := bad (by rw [eR, b2]; simp)
      simp only [wk6, Nat.reduceBEq, wk1, forall_eq, Nat.reduceAdd, reduceIte, Nat.reduceEqDiff, reduceCtorEq, opLen, Int.reduceLT, Int.reduceEq, opConvert, opIndexAddr, Nat.reduceLT, undef, Nat.reduceLeDiff, Array.toList, wk4, wk5, wk0, fxC17j]
      exact this _ (x2.trans Y4)
    | true =>
      have hr : ¬ rangeB o = false := by
        rw [eR, b1, b2, decide_eq_true (show 0 ≤ o.fr by omega), decide_eq_true (show o.fr < 16 by omega), decide_eq_true (show 0 ≤ o.to by omega), decide_eq_true (show o.to < 16 by omega), decide_eq_true (show 0 ≤ o.pl by omega), decide_eq_true (show o.pl < 4294967296 by omega)]
        decide
      rw [if_neg hr] at hK
      clear bad a1' a2' a3' a4' a5' hr eR l1 l2 l3 l4 l5
      have a0 := cell m4 Y4 0 _ rfl 34 (by simp only [aggOf, Try.underlying34, Try.underlying5])
      have q4 := q2.pz Y4.pz
      have av : opLoad Try.prog 3 (.pointer (some ⟨m.next, 15, none⟩)) m4 = some (.int .i64 o.vn) := cell m4 Y4 15 _ rfl 3 (by simp only [aggOf, Try.underlying3])
      have aw : opLoad Try.prog 46 (.pointer (some ⟨m.next, 15, none⟩)) m4 = some (viewV o.vn (.slice p3 o.vm.length y3)) := load_agg (P := Try.prog) (t := 46) (sz := 2) (off := 15) ((Y4.2 m.next n2).trans g2) (by simp only [aggOf, Try.underlying46]) ts46 (by simp)
      by_cases h7 : o.kd = 7
      · have d7 := decide_eq_true h7
        have eV : viewE o = if 4294967296 ≤ o.vn then 2 else viewCk o.vn o.vm := by rw [viewE, if_pos h7]
        by_cases hv : 4294967296 ≤ o.vn
        · rw [eV, if_pos hv, if_pos (by decide)] at hK
          simp only [wk6, Nat.reduceBEq, wk1, forall_eq, Nat.reduceAdd, reduceIte, Nat.reduceEqDiff, reduceCtorEq, opLen, Int.reduceLT, Int.reduceEq, opConvert, opIndexAddr, Nat.reduceLT, undef, Nat.reduceLeDiff, Array.toList, wk4, wk5, wk0, fxC17j, a0, av, d7, hv]
          exact hK _ (x2.trans Y4)
        · rw [eV, if_neg hv] at hK
          simp only [wk6, Nat.reduceBEq, wk1, forall_eq, Nat.reduceAdd, reduceIte, Nat.reduceEqDiff, reduceCtorEq, opLen, Int.reduceLT, Int.reduceEq, opConvert, opIndexAddr, Nat.reduceLT, undef, Nat.reduceLeDiff, Array.toList, wk4, wk5, wk0, fxC17j, a0, av, aw, d7, hv]
          refine vcheck_ret q4.vm.rd ok1.vm fun m6 x6 => ?_
          have x26 := Y4.trans x6
          by_cases hc : viewCk o.vn o.vm = 0
          · rw [if_neg (by exact fun h => h hc)] at hK
            simp only [wk6, Nat.reduceBEq, wk1, forall_eq, Nat.reduceAdd, reduceIte, Nat.reduceEqDiff, reduceCtorEq, opLen, Int.reduceLT, Int.reduceEq, opConvert, opIndexAddr, opLoad, Nat.reduceLT, undef, Nat.reduceLeDiff, Array.toList, wk4, wk5, wk0, fxC17j, hc]
            have tE : ∀ M, Ext m2 M → opLoad Try.prog 44 (.pointer (some ⟨m.next, 9, none⟩)) M = some (entW o.E.kind o.E.tr o.E.nu o.E.pc (.slice p1 o.E.args.length y1) (.slice p2 o.E.mem.length y2)) := fun M y => load_agg (P := Try.prog) (t := 44) (sz := 6) (off := 9) ((y.2 m.next n2).trans g2) (by simp only [aggOf, Try.underlying44]) ts44 (by simp)
            have tC : ∀ M, Ext m2 M → opLoad Try.prog 41 (.pointer (some ⟨m.next, 17, none⟩)) M = some (callV o.C.t o.C.n o.C.p (.slice p4 o.C.s.length y4)) := fun M y => load_agg (P := Try.prog) (t := 41) (sz := 4) (off := 17) ((y.2 m.next n2).trans g2) (by simp only [aggOf, Try.underlying41]) ts41 (by simp)
            have tA : ∀ M, Ext m2 M → opLoad Try.prog 49 (.pointer (some ⟨m.next, 23, none⟩)) M = some (ansV o.A.e o.A.q (.slice p5 o.A.s.length y5)) := fun M y => load_agg (P := Try.prog) (t := 49) (sz := 3) (off := 23) ((y.2 m.next n2).trans g2) (by simp only [aggOf, Try.underlying49]) ts49 (by simp)
            have n6 : m.next < m6.next := Nat.lt_of_lt_of_le n2 x26.1
            have s0 := tE m6 x26
            refine Loose.old ?_
            simp only [wk6, Nat.reduceBEq, wk1, forall_eq, Nat.reduceAdd, reduceIte, Nat.reduceEqDiff, reduceCtorEq, opLen, Int.reduceLT, Int.reduceEq, opConvert, opIndexAddr, Nat.reduceLT, undef, Nat.reduceLeDiff, Array.toList, wk4, wk5, wk0, fxC17j, s0]
            refine echeck_ret (E := o.E) ok1.ek ⟨_, _, rfl, q2.ea.pz x26.pz, q2.em.pz x26.pz⟩ ok1.em fun m7 x7 => ?_
            have s1 := tC m7 (x26.trans x7)
            simp only [wk6, Nat.reduceBEq, wk1, forall_eq, Nat.reduceAdd, reduceIte, Nat.reduceEqDiff, reduceCtorEq, opLen, Int.reduceLT, Int.reduceEq, opConvert, opIndexAddr, Nat.reduceLT, undef, Nat.reduceLeDiff, Array.toList, wk4, wk5, wk0, fxC17j, s1, vqC, n6]
            refine ⟨x7.2, ?_⟩
            refine call_check_ret (s := o.C.s) ((q2.ca.pz (x26.trans x7).pz).shows) ok1.cp ok1.cs fun m8 x8 => ?_
            have s2 := tA m8 ((x26.trans x7).trans x8)
            simp only [wk6, Nat.reduceBEq, wk1, forall_eq, Nat.reduceAdd, reduceIte, Nat.reduceEqDiff, reduceCtorEq, opLen, Int.reduceLT, Int.reduceEq, opConvert, opIndexAddr, Nat.reduceLT, undef, Nat.reduceLeDiff, Array.toList, wk4, wk5, wk0, fxC17j, s2, vqA, n6]
            refine ⟨fun b hb => x8.2 b (Nat.lt_of_lt_of_le hb x7.1), ?_⟩
            refine ans_check_ret (s := o.A.s) ((q2.aa.pz ((x26.trans x7).trans x8).pz).shows) ok1.ae ok1.aq ok1.al fun m9 x9 => ?_
            have y9 := x2.trans (((x26.trans x7).trans x8).trans x9)
            simp only [wk6, Nat.reduceBEq, wk1, forall_eq, Nat.reduceAdd, reduceIte, Nat.reduceEqDiff, reduceCtorEq, opLen, Int.reduceLT, Int.reduceEq, opConvert, opIndexAddr, opLoad, Nat.reduceLT, undef, Nat.reduceLeDiff, Array.toList, wk4, wk5, wk0, fxC17j, bld88]
            refine ⟨fun b hb => x9.2 b (Nat.lt_of_lt_of_le hb (Nat.le_trans x7.1 x8.1)), ?_⟩
            generalize echk o.E = ee at hK ⊢
            refine loop_wp [(12, [4, 7])] (by kernel_rfl) (fun q env μ => ∃ j : Nat, q + j = 3 ∧ (1 ≤ j → ee = 0) ∧ μ = m9 ∧ env 73 = some (.agg #[.int .i64 ee, .int .i64 0, .int .i64 0]) ∧ env 74 = some (.int .i64 j)) ?_ 3 ⟨0, rfl, by omega, rfl, rfl, rfl⟩
            rintro q env μ ⟨j, hq, hj, rfl, e73, e74⟩
            have w1 : IntKind.i64.wrap ((j : Int) + 1) = ((j + 1 : Nat) : Int) := by rw [wrap_i64 (by omega) (by omega)]; rfl
            simp only [wk6, Nat.reduceBEq, wk1, forall_eq, Nat.reduceAdd, reduceIte, Nat.reduceEqDiff, reduceCtorEq, opLen, Int.reduceLT, Int.reduceEq, opConvert, opIndexAddr, opLoad, Nat.reduceLT, undef, Nat.reduceLeDiff, Array.toList, wk4, wk5, wk0, fxC17j, e74]
            refine cond_by (fun hlt => ?_) (fun hge => ?_)
            · have hj3 : j < 3 := by omega
              by_cases he : ee = 0
              · have ix : opIndex Try.prog 88 (.agg #[.int .i64 ee, .int .i64 0, .int .i64 0]) (.int .i64 (j : Int)) = some (.int .i64 0) := by
                  have : j = 0 ∨ j = 1 ∨ j = 2 := by omega
                  subst he; rcases this with rfl | rfl | rfl <;> rfl
                simp only [wk6, Nat.reduceBEq, wk1, forall_eq, Nat.reduceAdd, reduceIte, Nat.reduceEqDiff, reduceCtorEq, opLen, Int.reduceLT, Int.reduceEq, opConvert, opIndexAddr, opLoad, Nat.reduceLT, undef, Nat.reduceLeDiff, Array.toList, wk4, wk5, wk0, fxC17j, e73, e74, ix, w1]
                exact ⟨q - 1, by omega, j + 1, by omega, fun _ => he, rfl⟩
              · have hj0 : j = 0 := by
                  rcases Nat.eq_zero_or_pos j with h | h
                  · exact h
                  · exact (he (hj h)).elim
                have ix : opIndex Try.prog 88 (.agg #[.int .i64 ee, .int .i64 0, .int .i64 0]) (.int .i64 (j : Int)) = some (.int .i64 ee) := by
                  subst hj0; rfl
                simp only [wk6, Nat.reduceBEq, wk1, forall_eq, Nat.reduceAdd, reduceIte, Nat.reduceEqDiff, reduceCtorEq, opLen, Int.reduceLT, Int.reduceEq, opConvert, opIndexAddr, opLoad, Nat.reduceLT, undef, Nat.reduceLeDiff, Array.toList, wk4, wk5, wk0, fxC17j, e73, e74, ix, he]
                exact hK _ y9
            · simp only [wk6, Nat.reduceBEq, wk1, forall_eq, Nat.reduceAdd, reduceIte, Nat.reduceEqDiff, reduceCtorEq, opLen, Int.reduceLT, Int.reduceEq, opConvert, opIndexAddr, opLoad, Nat.reduceLT, undef, Nat.reduceLeDiff, Array.toList, wk4, wk5, wk0, fxC17j]
              rw [hj (by omega)] at hK
              exact hK _ y9
          · rw [if_pos hc] at hK
            simp only [wk6, Nat.reduceBEq, wk1, forall_eq, Nat.reduceAdd, reduceIte, Nat.reduceEqDiff, reduceCtorEq, opLen, Int.reduceLT, Int.reduceEq, opConvert, opIndexAddr, opLoad, Nat.reduceLT, undef, Nat.reduceLeDiff, Array.toList, wk4, wk5, wk0, fxC17j, hc]
            exact hK _ (x2.trans x26)
      · have d7 := decide_eq_false h7
        have eV : viewE o = 0 := by rw [viewE, if_neg h7]
        rw [eV, if_neg (by decide)] at hK
        obtain ⟨m6, hm6⟩ : ∃ m6, m6 = m4 := ⟨_, rfl⟩
        have x26 := Y4
        simp only [wk6, Nat.reduceBEq, wk1, forall_eq, Nat.reduceAdd, reduceIte, Nat.reduceEqDiff, reduceCtorEq, opLen, Int.reduceLT, Int.reduceEq, opConvert, opIndexAddr, Nat.reduceLT, undef, Nat.reduceLeDiff, Array.toList, wk4, wk5, wk0, fxC17j, a0, d7]
        rw [← hm6] at x26 ⊢
        have tE : ∀ M, Ext m2 M → opLoad Try.prog 44 (.pointer (some ⟨m.next, 9, none⟩)) M = some (entW o.E.kind o.E.tr o.E.nu o.E.pc (.slice p1 o.E.args.length y1) (.slice p2 o.E.mem.length y2)) := fun M y => load_agg (P := Try.prog) (t := 44) (sz := 6) (off := 9) ((y.2 m.next n2).trans g2) (by simp only [aggOf, Try.underlying44]) ts44 (by simp)
        have tC : ∀ M, Ext m2 M → opLoad Try.prog 41 (.pointer (some ⟨m.next, 17, none⟩)) M = some (callV o.C.t o.C.n o.C.p (.slice p4 o.C.s.length y4)) := fun M y => load_agg (P := Try.prog) (t := 41) (sz := 4) (off := 17) ((y.2 m.next n2).trans g2) (by simp only [aggOf, Try.underlying41]) ts41 (by simp)
        have tA : ∀ M, Ext m2 M → opLoad Try.prog 49 (.pointer (some ⟨m.next, 23, none⟩)) M = some (ansV o.A.e o.A.q (.slice p5 o.A.s.length y5)) := fun M y => load_agg (P := Try.prog) (t := 49) (sz := 3) (off := 23) ((y.2 m.next n2).trans g2) (by simp only [aggOf, Try.underlying49]) ts49 (by simp)
        have n6 : m.next < m6.next := Nat.lt_of_lt_of_le n2 x26.1
        have s0 := tE m6 x26
        refine Loose.old ?_
        simp only [wk6, Nat.reduceBEq, wk1, forall_eq, Nat.reduceAdd, reduceIte, Nat.reduceEqDiff, reduceCtorEq, opLen, Int.reduceLT, Int.reduceEq, opConvert, opIndexAddr, Nat.reduceLT, undef, Nat.reduceLeDiff, Array.toList, wk4, wk5, wk0, fxC17j, s0]
        refine echeck_ret (E := o.E) ok1.ek ⟨_, _, rfl, q2.ea.pz x26.pz, q2.em.pz x26.pz⟩ ok1.em fun m7 x7 => ?_
        have s1 := tC m7 (x26.trans x7)
        simp only [wk6, Nat.reduceBEq, wk1, forall_eq, Nat.reduceAdd, reduceIte, Nat.reduceEqDiff, reduceCtorEq, opLen, Int.reduceLT, Int.reduceEq, opConvert, opIndexAddr, Nat.reduceLT, undef, Nat.reduceLeDiff, Array.toList, wk4, wk5, wk0, fxC17j, s1, vqC, n6]
        refine ⟨x7.2, ?_⟩
        refine call_check_ret (s := o.C.s) ((q2.ca.pz (x26.trans x7).pz).shows) ok1.cp ok1.cs fun m8 x8 => ?_
        have s2 := tA m8 ((x26.trans x7).trans x8)
        simp only [wk6, Nat.reduceBEq, wk1, forall_eq, Nat.reduceAdd, reduceIte, Nat.reduceEqDiff, reduceCtorEq, opLen, Int.reduceLT, Int.reduceEq, opConvert, opIndexAddr, Nat.reduceLT, undef, Nat.reduceLeDiff, Array.toList, wk4, wk5, wk0, fxC17j, s2, vqA, n6]
        refine ⟨fun b hb => x8.2 b (Nat.lt_of_lt_of_le hb x7.1), ?_⟩
        refine ans_check_ret (s := o.A.s) ((q2.aa.pz ((x26.trans x7).trans x8).pz).shows) ok1.ae ok1.aq ok1.al fun m9 x9 => ?_
        have y9 := x2.trans (((x26.trans x7).trans x8).trans x9)
        simp only [wk6, Nat.reduceBEq, wk1, forall_eq, Nat.reduceAdd, reduceIte, Nat.reduceEqDiff, reduceCtorEq, opLen, Int.reduceLT, Int.reduceEq, opConvert, opIndexAddr, opLoad, Nat.reduceLT, undef, Nat.reduceLeDiff, Array.toList, wk4, wk5, wk0, fxC17j, bld88]
        refine ⟨fun b hb => x9.2 b (Nat.lt_of_lt_of_le hb (Nat.le_trans x7.1 x8.1)), ?_⟩
        generalize echk o.E = ee at hK ⊢
        refine loop_wp [(12, [4, 7])] (by kernel_rfl) (fun q env μ => ∃ j : Nat, q + j = 3 ∧ (1 ≤ j → ee = 0) ∧ μ = m9 ∧ env 73 = some (.agg #[.int .i64 ee, .int .i64 0, .int .i64 0]) ∧ env 74 = some (.int .i64 j)) ?_ 3 ⟨0, rfl, by omega, rfl, rfl, rfl⟩
        rintro q env μ ⟨j, hq, hj, rfl, e73, e74⟩
        have w1 : IntKind.i64.wrap ((j : Int) + 1) = ((j + 1 : Nat) : Int) := by rw [wrap_i64 (by omega) (by omega)]; rfl
        simp only [wk6, Nat.reduceBEq, wk1, forall_eq, Nat.reduceAdd, reduceIte, Nat.reduceEqDiff, reduceCtorEq, opLen, Int.reduceLT, Int.reduceEq, opConvert, opIndexAddr, opLoad, Nat.reduceLT, undef, Nat.reduceLeDiff, Array.toList, wk4, wk5, wk0, fxC17j, e74]
        refine cond_by (fun hlt => ?_) (fun hge => ?_)
        · have hj3 : j < 3 := by omega
          by_cases he : ee = 0
          · have ix : opIndex Try.prog 88 (.agg #[.int .i64 ee, .int .i64 0, .int .i64 0]) (.int .i64 (j : Int)) = some (.int .i64 0) := by
              have : j = 0 ∨ j = 1 ∨ j = 2 := by omega
              subst he; rcases this with rfl | rfl | rfl <;> rfl
            simp only [wk6, Nat.reduceBEq, wk1, forall_eq, Nat.reduceAdd, reduceIte, Nat.reduceEqDiff, reduceCtorEq, opLen, Int.reduceLT, Int.reduceEq, opConvert, opIndexAddr, opLoad, Nat.reduceLT, undef, Nat.reduceLeDiff, Array.toList, wk4, wk5, wk0, fxC17j, e73, e74, ix, w1]
            exact ⟨q - 1, by omega, j + 1, by omega, fun _ => he, rfl⟩
          · have hj0 : j = 0 := by
              rcases Nat.eq_zero_or_pos j with h | h
              · exact h
              · exact (he (hj h)).elim
            have ix : opIndex Try.prog 88 (.agg #[.int .i64 ee, .int .i64 0, .int .i64 0]) (.int .i64 (j : Int)) = some (.int .i64 ee) := by
              subst hj0; rfl
            simp only [wk6, Nat.reduceBEq, wk1, forall_eq, Nat.reduceAdd, reduceIte, Nat.reduceEqDiff, reduceCtorEq, opLen, Int.reduceLT, Int.reduceEq, opConvert, opIndexAddr, opLoad, Nat.reduceLT, undef, Nat.reduceLeDiff, Array.toList, wk4, wk5, wk0, fxC17j, e73, e74, ix, he]
            exact hK _ y9
        · simp only [wk6, Nat.reduceBEq, wk1, forall_eq, Nat.reduceAdd, reduceIte, Nat.reduceEqDiff, reduceCtorEq, opLen, Int.reduceLT, Int.reduceEq, opConvert, opIndexAddr, opLoad, Nat.reduceLT, undef, Nat.reduceLeDiff, Array.toList, wk4, wk5, wk0, fxC17j]
          rw [hj (by omega)] at hK
          exact hK _ y9
end Go.Proofs.Ytejgoooanapjbaa
