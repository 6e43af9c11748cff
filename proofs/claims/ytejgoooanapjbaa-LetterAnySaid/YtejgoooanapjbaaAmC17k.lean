/- A text of the abstract machine. -/






/- Letters: whether two are the same. -/
import Derived.Test.YtejgoooanapjbaaAmC17j
import Derived.Test.YtejgoooanapjbaaAmBun
set_option linter.unusedSimpArgs false
set_option linter.unusedVariables false
set_option maxRecDepth 100000
set_option maxHeartbeats 4000000
namespace Go.Proofs.Ytejgoooanapjbaa
open Go Go.AM Go.AM.Crc Go.AM.Wire
theorem fxC17k : type_of% (And.intro (And.intro (And.intro (And.intro (And.intro (And.intro (And.intro @Try.underlying3 (And.intro @Try.underlying4 @Try.underlying5)) (And.intro (And.intro @Try.underlying9 @Try.underlying42) (And.intro @Try.underlying46 @Try.underlying47))) (And.intro (And.intro (And.intro @Try.underlying123 @Try.underlying23) (And.intro @Try.underlying26 @Try.underlying28)) (And.intro (And.intro @Try.underlying39 @Try.underlying41) (And.intro @Try.underlying44 @Try.underlying24)))) (And.intro (And.intro (And.intro @Try.underlying37 (And.intro @Try.underlying22 @Try.underlying0)) (And.intro (And.intro @Try.underlying100 @Try.underlying66) (And.intro @Try.underlying68 @Try.underlying78))) (And.intro (And.intro (And.intro @Try.underlying103 @Try.underlying49) (And.intro @Try.underlying34 @Try.underlying36)) (And.intro (And.intro @Try.underlying51 @Try.underlying53) (And.intro @Try.underlying55 @Try.underlying88))))) (And.intro (And.intro (And.intro (And.intro @Try.underlying32 (And.intro @Try.underlying30 @Try.underlying61)) (And.intro (And.intro @Try.underlying63 @Try.underlying90) (And.intro @Try.underlying92 @Try.underlying94))) (And.intro (And.intro (And.intro @ts3 @ts4) (And.intro @ts5 @ts9)) (And.intro (And.intro @ts42 @ts46) (And.intro @ts47 @ts123)))) (And.intro (And.intro (And.intro (And.intro @ts23 @ts26) (And.intro @ts28 @ts39)) (And.intro (And.intro @ts41 @ts44) (And.intro @ts24 @ts37))) (And.intro (And.intro (And.intro @ts22 @ts0) (And.intro @ts100 @ts66)) (And.intro (And.intro @ts68 @ts78) (And.intro @ts103 @ts49)))))) (And.intro (And.intro (And.intro (And.intro (And.intro @ts34 (And.intro @ts36 @ts51)) (And.intro (And.intro @ts53 @ts55) (And.intro @ts88 @ts32))) (And.intro (And.intro (And.intro @ts30 @ts61) (And.intro @ts63 @ts90)) (And.intro (And.intro @ts92 @ts94) (And.intro @tz3 @tz4)))) (And.intro (And.intro (And.intro @tz5 (And.intro @tz9 @tz42)) (And.intro (And.intro @tz46 @tz47) (And.intro @tz123 @tz23))) (And.intro (And.intro (And.intro @tz26 @tz28) (And.intro @tz39 @tz41)) (And.intro (And.intro @tz44 @tz24) (And.intro @tz37 @tz22))))) (And.intro (And.intro (And.intro (And.intro @tz0 (And.intro @tz100 @tz66)) (And.intro (And.intro @tz68 @tz78) (And.intro @tz103 @tz49))) (And.intro (And.intro (And.intro @tz34 @tz36) (And.intro @tz51 @tz53)) (And.intro (And.intro @tz55 @tz88) (And.intro @tz32 @tz30)))) (And.intro (And.intro (And.intro (And.intro @tz61 @tz63) (And.intro @tz90 @tz92)) (And.intro (And.intro @tz94 @tb3) (And.intro @tb4 @tb5))) (And.intro (And.intro (And.intro @tb9 @tb42) (And.intro @tb46 @tb47)) (And.intro (And.intro @tb123 @tb23) (And.intro @tb26 @tb28))))))) (And.intro (And.intro (And.intro (And.intro (And.intro (And.intro @tb39 (And.intro @tb41 @tb44)) (And.intro (And.intro @tb24 @tb37) (And.intro @tb22 @tb0))) (And.intro (And.intro (And.intro @tb100 @tb66) (And.intro @tb68 @tb78)) (And.intro (And.intro @tb103 @tb49) (And.intro @tb34 @tb36)))) (And.intro (And.intro (And.intro @tb51 (And.intro @tb53 @tb55)) (And.intro (And.intro @tb88 @tb32) (And.intro @tb30 @tb61))) (And.intro (And.intro (And.intro @tb63 @tb90) (And.intro @tb92 @tb94)) (And.intro (And.intro @fr8 @fr9) (And.intro @fr11 @fr13))))) (And.intro (And.intro (And.intro (And.intro @fr15 (And.intro @fr16 @fr18)) (And.intro (And.intro @fr19 @fr20) (And.intro @fr25 @fr26))) (And.intro (And.intro (And.intro @fr27 @fr28) (And.intro @fr38 @fr39)) (And.intro (And.intro @fr40 @fr41) (And.intro @fr42 @fr51)))) (And.intro (And.intro (And.intro (And.intro @fr52 @fr53) (And.intro @fr54 @bz46)) (And.intro (And.intro @al46 @fa46_0) (And.intro @fa46_1 @bz28))) (And.intro (And.intro (And.intro @bz26 @bz41) (And.intro @bz44 @al41)) (And.intro (And.intro @al44 @fa44_0) (And.intro @fa44_1 @fa44_2)))))) (And.intro (And.intro (And.intro (And.intro (And.intro @fa41_0 (And.intro @fa41_1 @fa41_2)) (And.intro (And.intro @fa28_0 @fa28_1) (And.intro @fa28_2 @fa26_0))) (And.intro (And.intro (And.intro @fa26_1 @fa26_2) (And.intro @fa26_3 @bz103)) (And.intro (And.intro @al68 @al103) (And.intro @fa68_0 @fa103_0)))) (And.intro (And.intro (And.intro (And.intro @fa103_1 @fa103_2) (And.intro @bin_weq @bin_wneq)) (And.intro (And.intro @bin_req @bin_rneq) (And.intro @bz39 @fa39_0))) (And.intro (And.intro (And.intro @fa39_1 @bz68) (And.intro @bz49 @al49)) (And.intro (And.intro @fa49_0 @fa49_1) (And.intro @fa49_2 @bz51))))) (And.intro (And.intro (And.intro (And.intro @al51 (And.intro @fa51_0 @fa51_1)) (And.intro (And.intro @fa51_2 @fa51_3) (And.intro @fa51_4 @fa51_5))) (And.intro (And.intro (And.intro @fa51_6 @fa51_7) (And.intro @fa51_8 @fa51_9)) (And.intro (And.intro @fa51_10 @fa51_11) (And.intro @bz36 @al36)))) (And.intro (And.intro (And.intro (And.intro @fa36_0 @fa36_1) (And.intro @oneOf_two @al24)) (And.intro (And.intro @al90 @bz32) (And.intro @bin_ideq @set_set))) (And.intro (And.intro (And.intro @bldL3 @bldB) (And.intro @vqB @vqE)) (And.intro (And.intro @vqA @vqC) (And.intro @vqI @vqW)))))))) := (And.intro (And.intro (And.intro (And.intro (And.intro (And.intro (And.intro @Try.underlying3 (And.intro @Try.underlying4 @Try.underlying5)) (And.intro (And.intro @Try.underlying9 @Try.underlying42) (And.intro @Try.underlying46 @Try.underlying47))) (And.intro (And.intro (And.intro @Try.underlying123 @Try.underlying23) (And.intro @Try.underlying26 @Try.underlying28)) (And.intro (And.intro @Try.underlying39 @Try.underlying41) (And.intro @Try.underlying44 @Try.underlying24)))) (And.intro (And.intro (And.intro @Try.underlying37 (And.intro @Try.underlying22 @Try.underlying0)) (And.intro (And.intro @Try.underlying100 @Try.underlying66) (And.intro @Try.underlying68 @Try.underlying78))) (And.intro (And.intro (And.intro @Try.underlying103 @Try.underlying49) (And.intro @Try.underlying34 @Try.underlying36)) (And.intro (And.intro @Try.underlying51 @Try.underlying53) (And.intro @Try.underlying55 @Try.underlying88))))) (And.intro (And.intro (And.intro (And.intro @Try.underlying32 (And.intro @Try.underlying30 @Try.underlying61)) (And.intro (And.intro @Try.underlying63 @Try.underlying90) (And.intro @Try.underlying92 @Try.underlying94))) (And.intro (And.intro (And.intro @ts3 @ts4) (And.intro @ts5 @ts9)) (And.intro (And.intro @ts42 @ts46) (And.intro @ts47 @ts123)))) (And.intro (And.intro (And.intro (And.intro @ts23 @ts26) (And.intro @ts28 @ts39)) (And.intro (And.intro @ts41 @ts44) (And.intro @ts24 @ts37))) (And.intro (And.intro (And.intro @ts22 @ts0) (And.intro @ts100 @ts66)) (And.intro (And.intro @ts68 @ts78) (And.intro @ts103 @ts49)))))) (And.intro (And.intro (And.intro (And.intro (And.intro @ts34 (And.intro @ts36 @ts51)) (And.intro (And.intro @ts53 @ts55) (And.intro @ts88 @ts32))) (And.intro (And.intro (And.intro @ts30 @ts61) (And.intro @ts63 @ts90)) (And.intro (And.intro @ts92 @ts94) (And.intro @tz3 @tz4)))) (And.intro (And.intro (And.intro @tz5 (And.intro @tz9 @tz42)) (And.intro (And.intro @tz46 @tz47) (And.intro @tz123 @tz23))) (And.intro (And.intro (And.intro @tz26 @tz28) (And.intro @tz39 @tz41)) (And.intro (And.intro @tz44 @tz24) (And.intro @tz37 @tz22))))) (And.intro (And.intro (And.intro (And.intro @tz0 (And.intro @tz100 @tz66)) (And.intro (And.intro @tz68 @tz78) (And.intro @tz103 @tz49))) (And.intro (And.intro (And.intro @tz34 @tz36) (And.intro @tz51 @tz53)) (And.intro (And.intro @tz55 @tz88) (And.intro @tz32 @tz30)))) (And.intro (And.intro (And.intro (And.intro @tz61 @tz63) (And.intro @tz90 @tz92)) (And.intro (And.intro @tz94 @tb3) (And.intro @tb4 @tb5))) (And.intro (And.intro (And.intro @tb9 @tb42) (And.intro @tb46 @tb47)) (And.intro (And.intro @tb123 @tb23) (And.intro @tb26 @tb28))))))) (And.intro (And.intro (And.intro (And.intro (And.intro (And.intro @tb39 (And.intro @tb41 @tb44)) (And.intro (And.intro @tb24 @tb37) (And.intro @tb22 @tb0))) (And.intro (And.intro (And.intro @tb100 @tb66) (And.intro @tb68 @tb78)) (And.intro (And.intro @tb103 @tb49) (And.intro @tb34 @tb36)))) (And.intro (And.intro (And.intro @tb51 (And.intro @tb53 @tb55)) (And.intro (And.intro @tb88 @tb32) (And.intro @tb30 @tb61))) (And.intro (And.intro (And.intro @tb63 @tb90) (And.intro @tb92 @tb94)) (And.intro (And.intro @fr8 @fr9) (And.intro @fr11 @fr13))))) (And.intro (And.intro (And.intro (And.intro @fr15 (And.intro @fr16 @fr18)) (And.intro (And.intro @fr19 @fr20) (And.intro @fr25 @fr26))) (And.intro (And.intro (And.intro @fr27 @fr28) (And.intro @fr38 @fr39)) (And.intro (And.intro @fr40 @fr41) (And.intro @fr42 @fr51)))) (And.intro (And.intro (And.intro (And.intro @fr52 @fr53) (And.intro @fr54 @bz46)) (And.intro (And.intro @al46 @fa46_0) (And.intro @fa46_1 @bz28))) (And.intro (And.intro (And.intro @bz26 @bz41) (And.intro @bz44 @al41)) (And.intro (And.intro @al44 @fa44_0) (And.intro @fa44_1 @fa44_2)))))) (And.intro (And.intro (And.intro (And.intro (And.intro @fa41_0 (And.intro @fa41_1 @fa41_2)) (And.intro (And.intro @fa28_0 @fa28_1) (And.intro @fa28_2 @fa26_0))) (And.intro (And.intro (And.intro @fa26_1 @fa26_2) (And.intro @fa26_3 @bz103)) (And.intro (And.intro @al68 @al103) (And.intro @fa68_0 @fa103_0)))) (And.intro (And.intro (And.intro (And.intro @fa103_1 @fa103_2) (And.intro @bin_weq @bin_wneq)) (And.intro (And.intro @bin_req @bin_rneq) (And.intro @bz39 @fa39_0))) (And.intro (And.intro (And.intro @fa39_1 @bz68) (And.intro @bz49 @al49)) (And.intro (And.intro @fa49_0 @fa49_1) (And.intro @fa49_2 @bz51))))) (And.intro (And.intro (And.intro (And.intro @al51 (And.intro @fa51_0 @fa51_1)) (And.intro (And.intro @fa51_2 @fa51_3) (And.intro @fa51_4 @fa51_5))) (And.intro (And.intro (And.intro @fa51_6 @fa51_7) (And.intro @fa51_8 @fa51_9)) (And.intro (And.intro @fa51_10 @fa51_11) (And.intro @bz36 @al36)))) (And.intro (And.intro (And.intro (And.intro @fa36_0 @fa36_1) (And.intro @oneOf_two @al24)) (And.intro (And.intro @al90 @bz32) (And.intro @bin_ideq @set_set))) (And.intro (And.intro (And.intro @bldL3 @bldB) (And.intro @vqB @vqE)) (And.intro (And.intro @vqA @vqC) (And.intro @vqI @vqW))))))))
theorem bin_lbeq {a b c d : Int} : binV Try.prog .eql 36 (bal a b) (bal c d) = some (.bool (decide (a = c ∧ b = d))) := by
  have h : Try.prog.eqGuardType Try.prog.depth 36 = false := by kernel_rfl
  have hs : Try.prog.stoodInHeld 36 = false := by kernel_rfl
  have e : eqIn Try.prog 40 36 (bal a b) (bal c d) = some (decide (a = c ∧ b = d)) := by
    rw [show (40 : Nat) = 38 + 1 + 1 from rfl]
    simp only [eqIn, Try.underlying36, hs, eqFields, partOf, aggOf, Try.underlying3, eqCell]
    have q : ∀ x y : Int, (x == y) = decide (x = y) := fun x y => rfl
    simp only [q]
    by_cases h1 : a = c <;> by_cases h2 : b = d <;> simp [h1, h2]
  simp only [binV, h, e]
  rfl
def sameC (c d : Cal) : Bool := decide (c.t = d.t ∧ c.n = d.n) && (decide (c.p = d.p) && decide (strOf c.s = strOf d.s))
def sameA (c d : Ans) : Bool := decide (c.e = d.e) && (decide (c.q = d.q) && decide (strOf c.s = strOf d.s))
def sameL (a b : Let) : Bool := decide (a.kd = b.kd) && (decide (a.fr = b.fr) && (decide (a.to = b.to) && (decide (a.pl = b.pl) && (decide (a.br = b.br ∧ a.bn = b.bn) && (decide (a.wr = b.wr ∧ a.wn = b.wn) && ((a.sm == b.sm) && (sameE a.E b.E && ((decide (a.vn = b.vn) && decide (a.vm = b.vm)) && (sameC a.C b.C && (decide (a.it = b.it ∧ a.nn = b.nn) && sameA a.A b.A))))))))))
theorem sameL_self (a : Let) : sameL a a = true := by simp [sameL, sameE_self, sameC, sameA]
theorem lsame_ret {m : Mem} {v w : Value} {a b : Let} (h : LetF m v a) (g : LetF m w b) (ha : Ok a) {K : Value → Mem → Prop} (hK : ∀ m', Ext m m' → K (.bool (sameL a b)) m') : Ret Try.prog 15 [v, w] m K := by
  obtain ⟨ea, em, vm, ca, aa, rfl, h⟩ := h
  obtain ⟨fa, fm, wm, da, ba, rfl, g⟩ := g
  obtain ⟨a1, z1, rfl⟩ := h.ea.is
  obtain ⟨a2, z2, rfl⟩ := h.em.is
  obtain ⟨a3, z3, rfl⟩ := h.vm.is
  obtain ⟨a4, z4, rfl⟩ := h.ca.is
  obtain ⟨a5, z5, rfl⟩ := h.aa.is
  obtain ⟨c1, y1, rfl⟩ := g.ea.is
  obtain ⟨c2, y2, rfl⟩ := g.em.is
  obtain ⟨c3, y3, rfl⟩ := g.vm.is
  obtain ⟨c4, y4, rfl⟩ := g.ca.is
  obtain ⟨c5, y5, rfl⟩ := g.aa.is
  refine ret_wp [] Try.func15 rfl (by decide) (by kernel_rfl) ?_
  have e : sameL a b = (decide (a.kd = b.kd) && (decide (a.fr = b.fr) && (decide (a.to = b.to) && (decide (a.pl = b.pl) && (decide (a.br = b.br ∧ a.bn = b.bn) && (decide (a.wr = b.wr ∧ a.wn = b.wn) && ((a.sm == b.sm) && (sameE a.E b.E && ((decide (a.vn = b.vn) && decide (a.vm = b.vm)) && (sameC a.C b.C && (decide (a.it = b.it ∧ a.nn = b.nn) && sameA a.A b.A))))))))))) := rfl
  rw [e] at hK
  clear e
  simp only [Nat.reduceAdd, reduceIte, Nat.reduceEqDiff, reduceCtorEq, opLen, Int.reduceLT, Int.reduceEq, opConvert, opIndexAddr, Nat.reduceLT, undef, Nat.reduceLeDiff, Array.toList, List.append_eq, bin_lbeq, wk4, wk5, wk0, fxC17k]
  obtain ⟨m0, hm0⟩ : ∃ m0, m0 = (m.new (.cells (letC a (.slice a1 a.E.args.length z1) (.slice a2 a.E.mem.length z2) (.slice a3 a.vm.length z3) (.slice a4 a.C.s.length z4) (.slice a5 a.A.s.length z5)) 51 true)).new (.cells (letC b (.slice c1 b.E.args.length y1) (.slice c2 b.E.mem.length y2) (.slice c3 b.vm.length y3) (.slice c4 b.C.s.length y4) (.slice c5 b.A.s.length y5)) 51 true) := ⟨_, rfl⟩
  have x0 : Ext m m0 := by rw [hm0]; exact (Ext.new _ _).trans (Ext.new _ _)
  have n0 : m0.next = m.next + 2 := by rw [hm0]; rfl
  have g1 : m0.get m.next = some (.cells (letC a (.slice a1 a.E.args.length z1) (.slice a2 a.E.mem.length z2) (.slice a3 a.vm.length z3) (.slice a4 a.C.s.length z4) (.slice a5 a.A.s.length z5)) 51 true) := by rw [hm0, new_get_ne _ (by simp only [new_next]; omega), new_get]
  have g2 : m0.get (m.next + 1) = some (.cells (letC b (.slice c1 b.E.args.length y1) (.slice c2 b.E.mem.length y2) (.slice c3 b.vm.length y3) (.slice c4 b.C.s.length y4) (.slice c5 b.A.s.length y5)) 51 true) := by rw [hm0]; exact new_get (m.new _) _
  rw [← hm0]
  clear hm0
  have fin : ∀ b : Bool, (∀ m', Ext m m' → K (.bool b) m') → K (.bool b) m0 := fun b hb => hb _ x0
  have P1 : ∀ (M : Mem), Ext m0 M → ∀ k : Nat, ∀ c, (letC a (.slice a1 a.E.args.length z1) (.slice a2 a.E.mem.length z2) (.slice a3 a.vm.length z3) (.slice a4 a.C.s.length z4) (.slice a5 a.A.s.length z5))[k]? = some c → ∀ t, aggOf Try.prog t = some false → opLoad Try.prog t (.pointer (some ⟨m.next, k, none⟩)) M = some c := fun M y k c hk t ht => load_cell ((y.2 m.next (by omega)).trans g1) ht hk
  have P2 : ∀ (M : Mem), Ext m0 M → ∀ k : Nat, ∀ c, (letC b (.slice c1 b.E.args.length y1) (.slice c2 b.E.mem.length y2) (.slice c3 b.vm.length y3) (.slice c4 b.C.s.length y4) (.slice c5 b.A.s.length y5))[k]? = some c → ∀ t, aggOf Try.prog t = some false → opLoad Try.prog t (.pointer (some ⟨m.next + 1, k, none⟩)) M = some c := fun M y k c hk t ht => load_cell ((y.2 (m.next + 1) (by omega)).trans g2) ht hk
  have r0 := Ext.refl m0
  have p0 := P1 m0 r0 0 _ rfl 34 (by simp only [aggOf, Try.underlying34, Try.underlying5])
  have q0 := P2 m0 r0 0 _ rfl 34 (by simp only [aggOf, Try.underlying34, Try.underlying5])
  have p1 := P1 m0 r0 1 _ rfl 3 (by simp only [aggOf, Try.underlying3])
  have q1 := P2 m0 r0 1 _ rfl 3 (by simp only [aggOf, Try.underlying3])
  have p2 := P1 m0 r0 2 _ rfl 3 (by simp only [aggOf, Try.underlying3])
  have q2 := P2 m0 r0 2 _ rfl 3 (by simp only [aggOf, Try.underlying3])
  have p3 := P1 m0 r0 3 _ rfl 3 (by simp only [aggOf, Try.underlying3])
  have q3 := P2 m0 r0 3 _ rfl 3 (by simp only [aggOf, Try.underlying3])
  have p8 := P1 m0 r0 8 _ rfl 4 (by simp only [aggOf, Try.underlying4])
  have q8 := P2 m0 r0 8 _ rfl 4 (by simp only [aggOf, Try.underlying4])
  have p4 : ∀ M, Ext m0 M → opLoad Try.prog 36 (.pointer (some ⟨m.next, 4, none⟩)) M = some (bal a.br a.bn) := fun M y => load_agg (P := Try.prog) (t := 36) (sz := 2) (off := 4) ((y.2 (m.next) (by omega)).trans g1) (by simp only [aggOf, Try.underlying36]) ts36 (by simp)
  have p6 : ∀ M, Ext m0 M → opLoad Try.prog 36 (.pointer (some ⟨m.next, 6, none⟩)) M = some (bal a.wr a.wn) := fun M y => load_agg (P := Try.prog) (t := 36) (sz := 2) (off := 6) ((y.2 (m.next) (by omega)).trans g1) (by simp only [aggOf, Try.underlying36]) ts36 (by simp)
  have p9 : ∀ M, Ext m0 M → opLoad Try.prog 44 (.pointer (some ⟨m.next, 9, none⟩)) M = some (entW a.E.kind a.E.tr a.E.nu a.E.pc (.slice a1 a.E.args.length z1) (.slice a2 a.E.mem.length z2)) := fun M y => load_agg (P := Try.prog) (t := 44) (sz := 6) (off := 9) ((y.2 (m.next) (by omega)).trans g1) (by simp only [aggOf, Try.underlying44]) ts44 (by simp)
  have p15 : ∀ M, Ext m0 M → opLoad Try.prog 46 (.pointer (some ⟨m.next, 15, none⟩)) M = some (viewV a.vn (.slice a3 a.vm.length z3)) := fun M y => load_agg (P := Try.prog) (t := 46) (sz := 2) (off := 15) ((y.2 (m.next) (by omega)).trans g1) (by simp only [aggOf, Try.underlying46]) ts46 (by simp)
  have p17 : ∀ M, Ext m0 M → opLoad Try.prog 41 (.pointer (some ⟨m.next, 17, none⟩)) M = some (callW a.C.t a.C.n a.C.p (.slice a4 a.C.s.length z4)) := fun M y => load_agg (P := Try.prog) (t := 41) (sz := 4) (off := 17) ((y.2 (m.next) (by omega)).trans g1) (by simp only [aggOf, Try.underlying41]) ts41 (by simp)
  have p21 : ∀ M, Ext m0 M → opLoad Try.prog 39 (.pointer (some ⟨m.next, 21, none⟩)) M = some (.agg #[.int .u16 a.it, .int .u16 a.nn]) := fun M y => load_agg (P := Try.prog) (t := 39) (sz := 2) (off := 21) ((y.2 (m.next) (by omega)).trans g1) (by simp only [aggOf, Try.underlying39]) ts39 (by simp)
  have p23 : ∀ M, Ext m0 M → opLoad Try.prog 49 (.pointer (some ⟨m.next, 23, none⟩)) M = some (ansV a.A.e a.A.q (.slice a5 a.A.s.length z5)) := fun M y => load_agg (P := Try.prog) (t := 49) (sz := 3) (off := 23) ((y.2 (m.next) (by omega)).trans g1) (by simp only [aggOf, Try.underlying49]) ts49 (by simp)
  have q4 : ∀ M, Ext m0 M → opLoad Try.prog 36 (.pointer (some ⟨m.next + 1, 4, none⟩)) M = some (bal b.br b.bn) := fun M y => load_agg (P := Try.prog) (t := 36) (sz := 2) (off := 4) ((y.2 (m.next + 1) (by omega)).trans g2) (by simp only [aggOf, Try.underlying36]) ts36 (by simp)
  have q6 : ∀ M, Ext m0 M → opLoad Try.prog 36 (.pointer (some ⟨m.next + 1, 6, none⟩)) M = some (bal b.wr b.wn) := fun M y => load_agg (P := Try.prog) (t := 36) (sz := 2) (off := 6) ((y.2 (m.next + 1) (by omega)).trans g2) (by simp only [aggOf, Try.underlying36]) ts36 (by simp)
  have q9 : ∀ M, Ext m0 M → opLoad Try.prog 44 (.pointer (some ⟨m.next + 1, 9, none⟩)) M = some (entW b.E.kind b.E.tr b.E.nu b.E.pc (.slice c1 b.E.args.length y1) (.slice c2 b.E.mem.length y2)) := fun M y => load_agg (P := Try.prog) (t := 44) (sz := 6) (off := 9) ((y.2 (m.next + 1) (by omega)).trans g2) (by simp only [aggOf, Try.underlying44]) ts44 (by simp)
  have q15 : ∀ M, Ext m0 M → opLoad Try.prog 46 (.pointer (some ⟨m.next + 1, 15, none⟩)) M = some (viewV b.vn (.slice c3 b.vm.length y3)) := fun M y => load_agg (P := Try.prog) (t := 46) (sz := 2) (off := 15) ((y.2 (m.next + 1) (by omega)).trans g2) (by simp only [aggOf, Try.underlying46]) ts46 (by simp)
  have q17 : ∀ M, Ext m0 M → opLoad Try.prog 41 (.pointer (some ⟨m.next + 1, 17, none⟩)) M = some (callW b.C.t b.C.n b.C.p (.slice c4 b.C.s.length y4)) := fun M y => load_agg (P := Try.prog) (t := 41) (sz := 4) (off := 17) ((y.2 (m.next + 1) (by omega)).trans g2) (by simp only [aggOf, Try.underlying41]) ts41 (by simp)
  have q21 : ∀ M, Ext m0 M → opLoad Try.prog 39 (.pointer (some ⟨m.next + 1, 21, none⟩)) M = some (.agg #[.int .u16 b.it, .int .u16 b.nn]) := fun M y => load_agg (P := Try.prog) (t := 39) (sz := 2) (off := 21) ((y.2 (m.next + 1) (by omega)).trans g2) (by simp only [aggOf, Try.underlying39]) ts39 (by simp)
  have q23 : ∀ M, Ext m0 M → opLoad Try.prog 49 (.pointer (some ⟨m.next + 1, 23, none⟩)) M = some (ansV b.A.e b.A.q (.slice c5 b.A.s.length y5)) := fun M y => load_agg (P := Try.prog) (t := 49) (sz := 3) (off := 23) ((y.2 (m.next + 1) (by omega)).trans g2) (by simp only [aggOf, Try.underlying49]) ts49 (by simp)
  have p4 := p4 m0 r0
  have q4 := q4 m0 r0
  have p6 := p6 m0 r0
  have q6 := q6 m0 r0
  have p9 := p9 m0 r0
  have q9 := q9 m0 r0
  cases d1 : decide (a.kd = b.kd) with
  | false =>
    rw [d1] at hK
    simp only [Nat.reduceAdd, reduceIte, Nat.reduceEqDiff, reduceCtorEq, opLen, Int.reduceLT, Int.reduceEq, opConvert, opIndexAddr, Nat.reduceLT, undef, Nat.reduceLeDiff, Array.toList, List.append_eq, bin_lbeq, wk4, wk5, wk0, fxC17k, p0, q0, p1, q1, p2, q2, p3, q3, p4, q4, p6, q6, p8, q8, p9, q9, d1]
    exact hK _ x0
  | true =>
  rw [d1, Bool.true_and] at hK
  cases d2 : decide (a.fr = b.fr) with
  | false =>
    rw [d2] at hK
    simp only [Nat.reduceAdd, reduceIte, Nat.reduceEqDiff, reduceCtorEq, opLen, Int.reduceLT, Int.reduceEq, opConvert, opIndexAddr, Nat.reduceLT, undef, Nat.reduceLeDiff, Array.toList, List.append_eq, bin_lbeq, wk4, wk5, wk0, fxC17k, p0, q0, p1, q1, p2, q2, p3, q3, p4, q4, p6, q6, p8, q8, p9, q9, d1, d2]
    exact hK _ x0
  | true =>
  rw [d2, Bool.true_and] at hK
  cases d3 : decide (a.to = b.to) with
  | false =>
    rw [d3] at hK
    simp only [Nat.reduceAdd, reduceIte, Nat.reduceEqDiff, reduceCtorEq, opLen, Int.reduceLT, Int.reduceEq, opConvert, opIndexAddr, Nat.reduceLT, undef, Nat.reduceLeDiff, Array.toList, List.append_eq, bin_lbeq, wk4, wk5, wk0, fxC17k, p0, q0, p1, q1, p2, q2, p3, q3, p4, q4, p6, q6, p8, q8, p9, q9, d1, d2, d3]
    exact hK _ x0
  | true =>
  rw [d3, Bool.true_and] at hK
  cases d4 : decide (a.pl = b.pl) with
  | false =>
    rw [d4] at hK
    simp only [Nat.reduceAdd, reduceIte, Nat.reduceEqDiff, reduceCtorEq, opLen, Int.reduceLT, Int.reduceEq, opConvert, opIndexAddr, Nat.reduceLT, undef, Nat.reduceLeDiff, Array.toList, List.append_eq, bin_lbeq, wk4, wk5, wk0, fxC17k, p0, q0, p1, q1, p2, q2, p3, q3, p4, q4, p6, q6, p8, q8, p9, q9, d1, d2, d3, d4]
    exact hK _ x0
  | true =>
  rw [d4, Bool.true_and] at hK
  cases d5 : decide (a.br = b.br ∧ a.bn = b.bn) with
  | false =>
    rw [d5] at hK
    simp only [Nat.reduceAdd, reduceIte, Nat.reduceEqDiff, reduceCtorEq, opLen, Int.reduceLT, Int.reduceEq, opConvert, opIndexAddr, Nat.reduceLT, undef, Nat.reduceLeDiff, Array.toList, List.append_eq, bin_lbeq, wk4, wk5, wk0, fxC17k, p0, q0, p1, q1, p2, q2, p3, q3, p4, q4, p6, q6, p8, q8, p9, q9, d1, d2, d3, d4, d5]
    exact hK _ x0
  | true =>
  rw [d5, Bool.true_and] at hK
  cases d6 : decide (a.wr = b.wr ∧ a.wn = b.wn) with
  | false =>
    rw [d6] at hK
    simp only [Nat.reduceAdd, reduceIte, Nat.reduceEqDiff, reduceCtorEq, opLen, Int.reduceLT, Int.reduceEq, opConvert, opIndexAddr, Nat.reduceLT, undef, Nat.reduceLeDiff, Array.toList, List.append_eq, bin_lbeq, wk4, wk5, wk0, fxC17k, p0, q0, p1, q1, p2, q2, p3, q3, p4, q4, p6, q6, p8, q8, p9, q9, d1, d2, d3, d4, d5, d6]
    exact hK _ x0
  | true =>
  rw [d6, Bool.true_and] at hK
  cases hsm : (a.sm == b.sm) with
  | false =>
    rw [hsm] at hK
    have d7 : binV Try.prog .eql 4 (.bool a.sm) (.bool b.sm) = some (.bool false) := by rw [← hsm]; cases a.sm <;> cases b.sm <;> kernel_rfl
    simp only [Nat.reduceAdd, reduceIte, Nat.reduceEqDiff, reduceCtorEq, opLen, Int.reduceLT, Int.reduceEq, opConvert, opIndexAddr, Nat.reduceLT, undef, Nat.reduceLeDiff, Array.toList, List.append_eq, bin_lbeq, wk4, wk5, optV_some, guardV_true, guardV_false, condV_true, condV_false, wpc_skip, wpc_label, wpc_exit, wpc_ret, wpc_region, wpc_seq, wpc_cond, wpc_block, wpc_scope, wpc_loop, wpo_nil, wpo_cons, wps_open, put_get, put_none, keep_some, bin_add, bin_sub, bin_mul, bin_quo, bin_rem, bin_and, bin_or, bin_xor, bin_shl, bin_shr, bin_lss, bin_leq, bin_gtr, bin_geq, bin_eql, bin_neq, bin_seql, un_neg, un_xor, un_not, oneOf_one, fxC17k, p0, q0, p1, q1, p2, q2, p3, q3, p4, q4, p6, q6, p8, q8, p9, q9, d1, d2, d3, d4, d5, d6, d7]
    exact hK _ x0
  | true =>
  rw [hsm, Bool.true_and] at hK
  have d7 : binV Try.prog .eql 4 (.bool a.sm) (.bool b.sm) = some (.bool true) := by rw [← hsm]; cases a.sm <;> cases b.sm <;> kernel_rfl
  simp only [Nat.reduceAdd, reduceIte, Nat.reduceEqDiff, reduceCtorEq, opLen, Int.reduceLT, Int.reduceEq, opConvert, opIndexAddr, Nat.reduceLT, undef, Nat.reduceLeDiff, Array.toList, List.append_eq, bin_lbeq, wk4, wk5, optV_some, guardV_true, guardV_false, condV_true, condV_false, wpc_skip, wpc_label, wpc_exit, wpc_ret, wpc_region, wpc_seq, wpc_cond, wpc_block, wpc_scope, wpc_loop, wpo_nil, wpo_cons, wps_open, put_get, put_none, keep_some, bin_add, bin_sub, bin_mul, bin_quo, bin_rem, bin_and, bin_or, bin_xor, bin_shl, bin_shr, bin_lss, bin_leq, bin_gtr, bin_geq, bin_eql, bin_neq, bin_seql, un_neg, un_xor, un_not, oneOf_one, fxC17k, p0, q0, p1, q1, p2, q2, p3, q3, p4, q4, p6, q6, p8, q8, p9, q9, d1, d2, d3, d4, d5, d6, d7]
  refine esame_ret ⟨_, _, rfl, h.ea.pz x0.pz, h.em.pz x0.pz⟩ ⟨_, _, rfl, g.ea.pz x0.pz, g.em.pz x0.pz⟩ ha.em fun m1 x1 => ?_
  have X1 := x0.trans x1
  cases d8 : sameE a.E b.E with
  | false =>
    rw [d8] at hK
    simp only [Nat.reduceAdd, reduceIte, Nat.reduceEqDiff, reduceCtorEq, opLen, Int.reduceLT, Int.reduceEq, opConvert, opIndexAddr, Nat.reduceLT, undef, Nat.reduceLeDiff, Array.toList, List.append_eq, bin_lbeq, wk4, wk5, wk0, fxC17k]
    exact hK _ X1
  | true =>
  rw [d8, Bool.true_and] at hK
  have p15 := p15 m1 x1
  have q15 := q15 m1 x1
  simp only [Nat.reduceAdd, reduceIte, Nat.reduceEqDiff, reduceCtorEq, opLen, Int.reduceLT, Int.reduceEq, opConvert, opIndexAddr, Nat.reduceLT, undef, Nat.reduceLeDiff, Array.toList, List.append_eq, bin_lbeq, wk4, wk5, wk0, fxC17k, p15, q15]
  refine vsame_ret (h.vm.pz X1.pz).rd (g.vm.pz X1.pz).rd ha.vm fun m2 x2 => ?_
  have X2 := X1.trans x2
  have w2 := x1.trans x2
  cases d9 : (decide (a.vn = b.vn) && decide (a.vm = b.vm)) with
  | false =>
    rw [d9] at hK
    simp only [Nat.reduceAdd, reduceIte, Nat.reduceEqDiff, reduceCtorEq, opLen, Int.reduceLT, Int.reduceEq, opConvert, opIndexAddr, Nat.reduceLT, undef, Nat.reduceLeDiff, Array.toList, List.append_eq, bin_lbeq, wk4, wk5, wk0, fxC17k]
    exact hK _ X2
  | true =>
  rw [d9, Bool.true_and] at hK
  have p17 := p17 m2 w2
  have q17 := q17 m2 w2
  simp only [Nat.reduceAdd, reduceIte, Nat.reduceEqDiff, reduceCtorEq, opLen, Int.reduceLT, Int.reduceEq, opConvert, opIndexAddr, Nat.reduceLT, undef, Nat.reduceLeDiff, Array.toList, List.append_eq, bin_lbeq, wk4, wk5, wk0, fxC17k, p17, q17]
  refine csame_ret (h.ca.pz X2.pz) (g.ca.pz X2.pz) fun m3 x3 => ?_
  have X3 := X2.trans x3
  have w3 := w2.trans x3
  have e10 : (decide (a.C.t = b.C.t ∧ a.C.n = b.C.n) && (decide (a.C.p = b.C.p) && decide (strOf a.C.s = strOf b.C.s))) = sameC a.C b.C := rfl
  rw [e10]
  cases d10 : sameC a.C b.C with
  | false =>
    rw [d10] at hK
    simp only [Nat.reduceAdd, reduceIte, Nat.reduceEqDiff, reduceCtorEq, opLen, Int.reduceLT, Int.reduceEq, opConvert, opIndexAddr, Nat.reduceLT, undef, Nat.reduceLeDiff, Array.toList, List.append_eq, bin_lbeq, wk4, wk5, wk0, fxC17k]
    exact hK _ X3
  | true =>
  rw [d10, Bool.true_and] at hK
  have p21 := p21 m3 w3
  have q21 := q21 m3 w3
  have p23 := p23 m3 w3
  have q23 := q23 m3 w3
  cases d11 : decide (a.it = b.it ∧ a.nn = b.nn) with
  | false =>
    rw [d11] at hK
    simp only [Nat.reduceAdd, reduceIte, Nat.reduceEqDiff, reduceCtorEq, opLen, Int.reduceLT, Int.reduceEq, opConvert, opIndexAddr, Nat.reduceLT, undef, Nat.reduceLeDiff, Array.toList, List.append_eq, bin_lbeq, wk4, wk5, wk0, fxC17k, p21, q21, d11]
    exact hK _ X3
  | true =>
  rw [d11, Bool.true_and] at hK
  simp only [Nat.reduceAdd, reduceIte, Nat.reduceEqDiff, reduceCtorEq, opLen, Int.reduceLT, Int.reduceEq, opConvert, opIndexAddr, Nat.reduceLT, undef, Nat.reduceLeDiff, Array.toList, List.append_eq, bin_lbeq, wk4, wk5, wk0, fxC17k, p21, q21, p23, q23, d11]
  refine ans_alike_ret (fun M y => (h.aa.pz (X3.trans y).pz).shows) (fun M y => (g.aa.pz (X3.trans y).pz).shows) fun m4 x4 => ?_
  simp only [Nat.reduceAdd, reduceIte, Nat.reduceEqDiff, reduceCtorEq, opLen, Int.reduceLT, Int.reduceEq, opConvert, opIndexAddr, opLoad, Nat.reduceLT, undef, Nat.reduceLeDiff, Array.toList, List.append_eq, bin_lbeq, wk4, wk5, wk0, fxC17k]
  exact hK _ (X3.trans x4)
end Go.Proofs.Ytejgoooanapjbaa
