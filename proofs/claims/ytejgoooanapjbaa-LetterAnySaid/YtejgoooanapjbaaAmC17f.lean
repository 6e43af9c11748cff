/- A text of the abstract machine. -/






/- Entries: checked, put, and their bytes. -/
import Derived.Test.YtejgoooanapjbaaAmC17e
import Derived.Test.YtejgoooanapjbaaAmC17a
import Derived.Test.YtejgoooanapjbaaAmC17an
import Derived.Test.YtejgoooanapjbaaAmC17q
import Derived.Test.YtejgoooanapjbaaAmBun
set_option linter.unusedSimpArgs false
set_option linter.unusedVariables false
set_option maxRecDepth 100000
set_option maxHeartbeats 4000000
namespace Go.Proofs.Ytejgoooanapjbaa
open Go Go.AM Go.AM.Crc Go.AM.Wire
theorem fxC17f : type_of% (And.intro (And.intro (And.intro (And.intro (And.intro (And.intro (And.intro @Try.underlying3 (And.intro @Try.underlying4 @Try.underlying5)) (And.intro (And.intro @Try.underlying9 @Try.underlying42) (And.intro @Try.underlying46 @Try.underlying47))) (And.intro (And.intro @Try.underlying123 (And.intro @Try.underlying23 @Try.underlying26)) (And.intro (And.intro @Try.underlying28 @Try.underlying39) (And.intro @Try.underlying41 @Try.underlying44)))) (And.intro (And.intro (And.intro @Try.underlying24 (And.intro @Try.underlying37 @Try.underlying22)) (And.intro (And.intro @Try.underlying0 @Try.underlying100) (And.intro @Try.underlying66 @Try.underlying68))) (And.intro (And.intro @Try.underlying78 (And.intro @Try.underlying103 @Try.underlying49)) (And.intro (And.intro @Try.underlying34 @Try.underlying36) (And.intro @Try.underlying51 @Try.underlying53))))) (And.intro (And.intro (And.intro (And.intro @Try.underlying55 (And.intro @Try.underlying88 @Try.underlying32)) (And.intro (And.intro @Try.underlying30 @Try.underlying61) (And.intro @Try.underlying63 @Try.underlying90))) (And.intro (And.intro @Try.underlying92 (And.intro @Try.underlying94 @ts3)) (And.intro (And.intro @ts4 @ts5) (And.intro @ts9 @ts42)))) (And.intro (And.intro (And.intro @ts46 (And.intro @ts47 @ts123)) (And.intro (And.intro @ts23 @ts26) (And.intro @ts28 @ts39))) (And.intro (And.intro @ts41 (And.intro @ts44 @ts24)) (And.intro (And.intro @ts37 @ts22) (And.intro @ts0 @ts100)))))) (And.intro (And.intro (And.intro (And.intro (And.intro @ts66 (And.intro @ts68 @ts78)) (And.intro (And.intro @ts103 @ts49) (And.intro @ts34 @ts36))) (And.intro (And.intro @ts51 (And.intro @ts53 @ts55)) (And.intro (And.intro @ts88 @ts32) (And.intro @ts30 @ts61)))) (And.intro (And.intro (And.intro @ts63 (And.intro @ts90 @ts92)) (And.intro (And.intro @ts94 @tz3) (And.intro @tz4 @tz5))) (And.intro (And.intro @tz9 (And.intro @tz42 @tz46)) (And.intro (And.intro @tz47 @tz123) (And.intro @tz23 @tz26))))) (And.intro (And.intro (And.intro (And.intro @tz28 (And.intro @tz39 @tz41)) (And.intro (And.intro @tz44 @tz24) (And.intro @tz37 @tz22))) (And.intro (And.intro @tz0 (And.intro @tz100 @tz66)) (And.intro (And.intro @tz68 @tz78) (And.intro @tz103 @tz49)))) (And.intro (And.intro (And.intro @tz34 (And.intro @tz36 @tz51)) (And.intro (And.intro @tz53 @tz55) (And.intro @tz88 @tz32))) (And.intro (And.intro @tz30 (And.intro @tz61 @tz63)) (And.intro (And.intro @tz90 @tz92) (And.intro @tz94 @tb3))))))) (And.intro (And.intro (And.intro (And.intro (And.intro (And.intro @tb4 (And.intro @tb5 @tb9)) (And.intro (And.intro @tb42 @tb46) (And.intro @tb47 @tb123))) (And.intro (And.intro @tb23 (And.intro @tb26 @tb28)) (And.intro (And.intro @tb39 @tb41) (And.intro @tb44 @tb24)))) (And.intro (And.intro (And.intro @tb37 (And.intro @tb22 @tb0)) (And.intro (And.intro @tb100 @tb66) (And.intro @tb68 @tb78))) (And.intro (And.intro @tb103 (And.intro @tb49 @tb34)) (And.intro (And.intro @tb36 @tb51) (And.intro @tb53 @tb55))))) (And.intro (And.intro (And.intro (And.intro @tb88 (And.intro @tb32 @tb30)) (And.intro (And.intro @tb61 @tb63) (And.intro @tb90 @tb92))) (And.intro (And.intro @tb94 (And.intro @fr18 @fr21)) (And.intro (And.intro @fr22 @fr40) (And.intro @fr41 @fr44)))) (And.intro (And.intro (And.intro @fr46 (And.intro @fr49 @fr50)) (And.intro (And.intro @fr53 @fr60) (And.intro @bz46 @al46))) (And.intro (And.intro @fa46_0 (And.intro @fa46_1 @bz28)) (And.intro (And.intro @bz26 @bz41) (And.intro @bz44 @al41)))))) (And.intro (And.intro (And.intro (And.intro (And.intro @al44 (And.intro @fa44_0 @fa44_1)) (And.intro (And.intro @fa44_2 @fa41_0) (And.intro @fa41_1 @fa41_2))) (And.intro (And.intro @fa28_0 (And.intro @fa28_1 @fa28_2)) (And.intro (And.intro @fa26_0 @fa26_1) (And.intro @fa26_2 @fa26_3)))) (And.intro (And.intro (And.intro @bz103 (And.intro @al68 @al103)) (And.intro (And.intro @fa68_0 @fa103_0) (And.intro @fa103_1 @fa103_2))) (And.intro (And.intro @bin_weq (And.intro @bin_wneq @bin_req)) (And.intro (And.intro @bin_rneq @bz39) (And.intro @fa39_0 @fa39_1))))) (And.intro (And.intro (And.intro (And.intro @bz68 (And.intro @bz49 @al49)) (And.intro (And.intro @fa49_0 @fa49_1) (And.intro @fa49_2 @bz51))) (And.intro (And.intro @al51 (And.intro @fa51_0 @fa51_1)) (And.intro (And.intro @fa51_2 @fa51_3) (And.intro @fa51_4 @fa51_5)))) (And.intro (And.intro (And.intro @fa51_6 (And.intro @fa51_7 @fa51_8)) (And.intro (And.intro @fa51_9 @fa51_10) (And.intro @fa51_11 @bz36))) (And.intro (And.intro @al36 (And.intro @fa36_0 @fa36_1)) (And.intro (And.intro @al24 @al90) (And.intro @bz32 @bldI)))))))) := (And.intro (And.intro (And.intro (And.intro (And.intro (And.intro (And.intro @Try.underlying3 (And.intro @Try.underlying4 @Try.underlying5)) (And.intro (And.intro @Try.underlying9 @Try.underlying42) (And.intro @Try.underlying46 @Try.underlying47))) (And.intro (And.intro @Try.underlying123 (And.intro @Try.underlying23 @Try.underlying26)) (And.intro (And.intro @Try.underlying28 @Try.underlying39) (And.intro @Try.underlying41 @Try.underlying44)))) (And.intro (And.intro (And.intro @Try.underlying24 (And.intro @Try.underlying37 @Try.underlying22)) (And.intro (And.intro @Try.underlying0 @Try.underlying100) (And.intro @Try.underlying66 @Try.underlying68))) (And.intro (And.intro @Try.underlying78 (And.intro @Try.underlying103 @Try.underlying49)) (And.intro (And.intro @Try.underlying34 @Try.underlying36) (And.intro @Try.underlying51 @Try.underlying53))))) (And.intro (And.intro (And.intro (And.intro @Try.underlying55 (And.intro @Try.underlying88 @Try.underlying32)) (And.intro (And.intro @Try.underlying30 @Try.underlying61) (And.intro @Try.underlying63 @Try.underlying90))) (And.intro (And.intro @Try.underlying92 (And.intro @Try.underlying94 @ts3)) (And.intro (And.intro @ts4 @ts5) (And.intro @ts9 @ts42)))) (And.intro (And.intro (And.intro @ts46 (And.intro @ts47 @ts123)) (And.intro (And.intro @ts23 @ts26) (And.intro @ts28 @ts39))) (And.intro (And.intro @ts41 (And.intro @ts44 @ts24)) (And.intro (And.intro @ts37 @ts22) (And.intro @ts0 @ts100)))))) (And.intro (And.intro (And.intro (And.intro (And.intro @ts66 (And.intro @ts68 @ts78)) (And.intro (And.intro @ts103 @ts49) (And.intro @ts34 @ts36))) (And.intro (And.intro @ts51 (And.intro @ts53 @ts55)) (And.intro (And.intro @ts88 @ts32) (And.intro @ts30 @ts61)))) (And.intro (And.intro (And.intro @ts63 (And.intro @ts90 @ts92)) (And.intro (And.intro @ts94 @tz3) (And.intro @tz4 @tz5))) (And.intro (And.intro @tz9 (And.intro @tz42 @tz46)) (And.intro (And.intro @tz47 @tz123) (And.intro @tz23 @tz26))))) (And.intro (And.intro (And.intro (And.intro @tz28 (And.intro @tz39 @tz41)) (And.intro (And.intro @tz44 @tz24) (And.intro @tz37 @tz22))) (And.intro (And.intro @tz0 (And.intro @tz100 @tz66)) (And.intro (And.intro @tz68 @tz78) (And.intro @tz103 @tz49)))) (And.intro (And.intro (And.intro @tz34 (And.intro @tz36 @tz51)) (And.intro (And.intro @tz53 @tz55) (And.intro @tz88 @tz32))) (And.intro (And.intro @tz30 (And.intro @tz61 @tz63)) (And.intro (And.intro @tz90 @tz92) (And.intro @tz94 @tb3))))))) (And.intro (And.intro (And.intro (And.intro (And.intro (And.intro @tb4 (And.intro @tb5 @tb9)) (And.intro (And.intro @tb42 @tb46) (And.intro @tb47 @tb123))) (And.intro (And.intro @tb23 (And.intro @tb26 @tb28)) (And.intro (And.intro @tb39 @tb41) (And.intro @tb44 @tb24)))) (And.intro (And.intro (And.intro @tb37 (And.intro @tb22 @tb0)) (And.intro (And.intro @tb100 @tb66) (And.intro @tb68 @tb78))) (And.intro (And.intro @tb103 (And.intro @tb49 @tb34)) (And.intro (And.intro @tb36 @tb51) (And.intro @tb53 @tb55))))) (And.intro (And.intro (And.intro (And.intro @tb88 (And.intro @tb32 @tb30)) (And.intro (And.intro @tb61 @tb63) (And.intro @tb90 @tb92))) (And.intro (And.intro @tb94 (And.intro @fr18 @fr21)) (And.intro (And.intro @fr22 @fr40) (And.intro @fr41 @fr44)))) (And.intro (And.intro (And.intro @fr46 (And.intro @fr49 @fr50)) (And.intro (And.intro @fr53 @fr60) (And.intro @bz46 @al46))) (And.intro (And.intro @fa46_0 (And.intro @fa46_1 @bz28)) (And.intro (And.intro @bz26 @bz41) (And.intro @bz44 @al41)))))) (And.intro (And.intro (And.intro (And.intro (And.intro @al44 (And.intro @fa44_0 @fa44_1)) (And.intro (And.intro @fa44_2 @fa41_0) (And.intro @fa41_1 @fa41_2))) (And.intro (And.intro @fa28_0 (And.intro @fa28_1 @fa28_2)) (And.intro (And.intro @fa26_0 @fa26_1) (And.intro @fa26_2 @fa26_3)))) (And.intro (And.intro (And.intro @bz103 (And.intro @al68 @al103)) (And.intro (And.intro @fa68_0 @fa103_0) (And.intro @fa103_1 @fa103_2))) (And.intro (And.intro @bin_weq (And.intro @bin_wneq @bin_req)) (And.intro (And.intro @bin_rneq @bz39) (And.intro @fa39_0 @fa39_1))))) (And.intro (And.intro (And.intro (And.intro @bz68 (And.intro @bz49 @al49)) (And.intro (And.intro @fa49_0 @fa49_1) (And.intro @fa49_2 @bz51))) (And.intro (And.intro @al51 (And.intro @fa51_0 @fa51_1)) (And.intro (And.intro @fa51_2 @fa51_3) (And.intro @fa51_4 @fa51_5)))) (And.intro (And.intro (And.intro @fa51_6 (And.intro @fa51_7 @fa51_8)) (And.intro (And.intro @fa51_9 @fa51_10) (And.intro @fa51_11 @bz36))) (And.intro (And.intro @al36 (And.intro @fa36_0 @fa36_1)) (And.intro (And.intro @al24 @al90) (And.intro @bz32 @bldI))))))))
theorem oneOf_two (a b : Value) : oneOf [a, b] = .tuple #[a, b] := rfl
abbrev intCells (l : List Int) : List Value := l.map (.int .i64)
theorem bldC0 : opBuild Try.prog 41 [] = some (.agg #[.int .u16 0, .int .u16 0, .int .i64 0, .slice none 0 0]) := by kernel_rfl
def ccheckOf (p : Int) (n : Nat) : Int := if p < 0 ∨ p > 65535 then 2 else if (n : Int) > 4000 then 6 else 0
theorem ccheck_ret {m : Mem} {t n p : Int} {v : Value} {len : Nat} (hl : opLen Try.prog (some 24) v = some (.int .i64 len)) {K : Value → Mem → Prop} (hK : ∀ m', Ext m m' → K (.int .i64 (ccheckOf p len)) m') : Ret Try.prog 41 [.agg #[.int .u16 t, .int .u16 n, .int .i64 p, v]] m K := by
  refine ret_wp [] Try.func41 rfl (by decide) (by kernel_rfl) ?_
  by_cases h1 : p < 0
  · have e : ccheckOf p len = 2 := by rw [ccheckOf, if_pos (.inl h1)]
    rw [e] at hK
    simp only [Nat.reduceAdd, reduceIte, Nat.reduceEqDiff, reduceCtorEq, Int.reduceLT, Int.reduceEq, opConvert, opIndexAddr, opLoad, Nat.reduceLT, undef, Nat.reduceLeDiff, Array.toList, oneOf_two, bldC0, wk4, wk5, wk0, fxC17f, h1]
    exact hK _ (Ext.new _ _)
  · by_cases h2 : 65535 < p
    · have e : ccheckOf p len = 2 := by rw [ccheckOf, if_pos (.inr h2)]
      rw [e] at hK
      simp only [Nat.reduceAdd, reduceIte, Nat.reduceEqDiff, reduceCtorEq, Int.reduceLT, Int.reduceEq, opConvert, opIndexAddr, opLoad, Nat.reduceLT, undef, Nat.reduceLeDiff, Array.toList, oneOf_two, bldC0, wk4, wk5, wk0, fxC17f, h1, h2]
      exact hK _ (Ext.new _ _)
    · have h3 : ¬ (p < 0 ∨ p > 65535) := by omega
      by_cases h4 : 4000 < (len : Int)
      · have e : ccheckOf p len = 6 := by rw [ccheckOf, if_neg h3, if_pos h4]
        rw [e] at hK
        simp only [Nat.reduceAdd, reduceIte, Nat.reduceEqDiff, reduceCtorEq, Int.reduceLT, Int.reduceEq, opConvert, opIndexAddr, opLoad, Nat.reduceLT, undef, Nat.reduceLeDiff, Array.toList, oneOf_two, bldC0, wk4, wk5, wk0, fxC17f, h1, h2, hl, h4]
        exact hK _ (Ext.new _ _)
      · have e : ccheckOf p len = 0 := by rw [ccheckOf, if_neg h3, if_neg h4]
        rw [e] at hK
        simp only [Nat.reduceAdd, reduceIte, Nat.reduceEqDiff, reduceCtorEq, Int.reduceLT, Int.reduceEq, opConvert, opIndexAddr, opLoad, Nat.reduceLT, undef, Nat.reduceLeDiff, Array.toList, oneOf_two, bldC0, wk4, wk5, wk0, fxC17f, h1, h2, hl, h4]
        exact hK _ (Ext.new _ _)

def csameB (t n p t' n' p' : Int) (s s' : List Int) : Bool := decide (t = t' ∧ n = n') && (decide (p = p') && decide (strOf s = strOf s'))
def echeckOf (k t n p : Int) (args mem : List Int) : Int :=
  if 3 ≤ k then 5 else if (k ≠ 1 ∧ csameB t n p 0 0 0 args [] = false) ∨ (k ≠ 2 ∧ 0 < mem.length) then 4
  else if k = 1 then ccheckOf p args.length else if k = 2 then memCk mem else 0
def echk (E : Ent) : Int := echeckOf E.kind E.tr E.nu E.pc E.args E.mem
theorem echeck_ret {m : Mem} {v : Value} {E : Ent} (hk : 0 ≤ E.kind) (he : EnF m v E) (hl : E.mem.length < 2 ^ 40) {K : Value → Mem → Prop} (hK : ∀ m', Ext m m' → K (.int .i64 (echk E)) m') : Ret Try.prog 40 [v] m K := by
  obtain ⟨k, t, n, p, args, mem⟩ := E
  obtain ⟨va, vb, rfl, s1, s2⟩ := he
  obtain ⟨a1, c1, rfl⟩ := s1.is
  obtain ⟨a2, c2, rfl⟩ := s2.is
  have hK : ∀ m', Ext m m' → K (.int .i64 (echeckOf k t n p args mem)) m' := hK
  replace hk : 0 ≤ k := hk
  replace s1 : FRow m (.slice a1 args.length c1) 1 args.length (byteCells args) := s1
  replace s2 : FRow m (.slice a2 mem.length c2) 1 mem.length (ints mem) := s2
  refine ret_wp [] Try.func40 rfl (by decide) (by kernel_rfl) ?_
  simp only [Nat.reduceAdd, reduceIte, Nat.reduceEqDiff, reduceCtorEq, opLen, Int.reduceLT, Int.reduceEq, opConvert, opIndexAddr, opLoad, Nat.reduceLT, undef, Nat.reduceLeDiff, Array.toList, oneOf_two, bldC0, wk4, wk5, wk0, fxC17f]
  have x0 : Ext m (m.new (.cells [.int .u8 k, .int .u16 t, .int .u16 n, .int .i64 p, .slice a1 args.length c1, .slice a2 mem.length c2] 44 true)) := Ext.new _ _
  have g0 := new_get m (.cells [.int .u8 k, .int .u16 t, .int .u16 n, .int .i64 p, .slice a1 args.length c1, .slice a2 mem.length c2] 44 true)
  refine csame_ret (s' := []) (s1.pz x0.pz) FRow.nil fun m1 x1 => ?_
  rw [← x1.2 m.next (by simp only [new_next]; omega)] at g0
  have xx := x0.trans x1
  have la : opLen Try.prog (some 24) (.slice a1 args.length c1) = some (.int .i64 args.length) := s1.len Try.underlying24
  have lb : opLen Try.prog (some 42) (.slice a2 mem.length c2) = some (.int .i64 mem.length) := s2.len Try.underlying42
  have ed : (decide (t = 0 ∧ n = 0) && (decide (p = 0) && decide (strOf args = strOf []))) = csameB t n p 0 0 0 args [] := rfl
  rw [ed]
  by_cases k3 : 3 ≤ k
  · have e : echeckOf k t n p args mem = 5 := by rw [echeckOf, if_pos k3]
    rw [e] at hK
    simp only [Nat.reduceAdd, reduceIte, Nat.reduceEqDiff, reduceCtorEq, opLen, Int.reduceLT, Int.reduceEq, opConvert, opIndexAddr, opLoad, Nat.reduceLT, undef, Nat.reduceLeDiff, Array.toList, oneOf_two, bldC0, wk4, wk5, wk0, fxC17f, g0, k3]
    exact hK _ xx
  have kk : k = 0 ∨ k = 1 ∨ k = 2 := by omega
  have e0 : echeckOf k t n p args mem = if (k ≠ 1 ∧ csameB t n p 0 0 0 args [] = false) ∨ (k ≠ 2 ∧ 0 < mem.length) then 4
      else if k = 1 then ccheckOf p args.length else if k = 2 then memCk mem else 0 := by rw [echeckOf, if_neg k3]
  rw [e0] at hK
  clear e0
  rcases kk with rfl | rfl | rfl
  · cases d : csameB t n p 0 0 0 args [] with
    | false =>
      rw [if_pos (.inl ⟨by omega, d⟩)] at hK
      simp only [Nat.reduceAdd, reduceIte, Nat.reduceEqDiff, reduceCtorEq, Int.reduceLT, Int.reduceEq, opConvert, opIndexAddr, opLoad, Nat.reduceLT, undef, Nat.reduceLeDiff, Array.toList, oneOf_two, bldC0, wk4, wk5, wk0, fxC17f, lb, g0, Int.reduceLE, Int.reduceNe, ne_eq, not_true_eq_false, not_false_eq_true]
      exact hK _ xx
    | true =>
      by_cases hm : 0 < (mem.length : Int)
      · rw [if_pos (.inr ⟨by omega, by omega⟩)] at hK
        simp only [Nat.reduceAdd, reduceIte, Nat.reduceEqDiff, reduceCtorEq, Int.reduceLT, Int.reduceEq, opConvert, opIndexAddr, opLoad, Nat.reduceLT, undef, Nat.reduceLeDiff, Array.toList, oneOf_two, bldC0, wk4, wk5, wk0, fxC17f, lb, g0, hm, Int.reduceLE, Int.reduceNe, ne_eq, not_true_eq_false, not_false_eq_true]
        exact hK _ xx
      · rw [if_neg (by exact fun h => h.elim (fun h => Bool.noConfusion (d.symm.trans h.2)) (fun h => by have := h.2; omega))] at hK
        simp only [Nat.reduceAdd, reduceIte, Nat.reduceEqDiff, reduceCtorEq, Int.reduceLT, Int.reduceEq, opConvert, opIndexAddr, opLoad, Nat.reduceLT, undef, Nat.reduceLeDiff, Array.toList, oneOf_two, bldC0, wk4, wk5, wk0, fxC17f, lb, g0, hm, Int.reduceLE, Int.reduceNe, ne_eq, not_true_eq_false, not_false_eq_true]
        exact hK _ xx
  · by_cases hm : 0 < (mem.length : Int)
    · rw [if_pos (.inr ⟨by omega, by omega⟩)] at hK
      simp only [Nat.reduceAdd, reduceIte, Nat.reduceEqDiff, reduceCtorEq, Int.reduceLT, Int.reduceEq, opConvert, opIndexAddr, opLoad, Nat.reduceLT, undef, Nat.reduceLeDiff, Array.toList, oneOf_two, bldC0, wk4, wk5, wk0, fxC17f, lb, g0, hm, Int.reduceLE, Int.reduceNe, ne_eq, not_true_eq_false, not_false_eq_true]
      exact hK _ xx
    · rw [if_neg (by exact fun h => h.elim (fun h => h.1 rfl) (fun h => by have := h.2; omega)), if_pos rfl] at hK
      simp only [Nat.reduceAdd, reduceIte, Nat.reduceEqDiff, reduceCtorEq, Int.reduceLT, Int.reduceEq, opConvert, opIndexAddr, opLoad, Nat.reduceLT, undef, Nat.reduceLeDiff, Array.toList, oneOf_two, bldC0, wk4, wk5, wk0, fxC17f, lb, g0, hm, Int.reduceLE, Int.reduceNe, ne_eq, not_true_eq_false, not_false_eq_true]
      refine ccheck_ret la fun m2 x2 => ?_
      simp only [Nat.reduceAdd, reduceIte, Nat.reduceEqDiff, reduceCtorEq, opLen, Int.reduceLT, Int.reduceEq, opConvert, opIndexAddr, opLoad, Nat.reduceLT, undef, Nat.reduceLeDiff, Array.toList, oneOf_two, bldC0, wk4, wk5, wk0, fxC17f]
      exact hK _ (xx.trans x2)
  · cases d : csameB t n p 0 0 0 args [] with
    | false =>
      rw [if_pos (.inl ⟨by omega, d⟩)] at hK
      simp only [Nat.reduceAdd, reduceIte, Nat.reduceEqDiff, reduceCtorEq, Int.reduceLT, Int.reduceEq, opConvert, opIndexAddr, opLoad, Nat.reduceLT, undef, Nat.reduceLeDiff, Array.toList, oneOf_two, bldC0, wk4, wk5, wk0, fxC17f, lb, g0, Int.reduceLE, Int.reduceNe, ne_eq, not_true_eq_false, not_false_eq_true]
      exact hK _ xx
    | true =>
      rw [if_neg (by exact fun h => h.elim (fun h => Bool.noConfusion (d.symm.trans h.2)) (fun h => h.1 rfl)), if_neg (by omega), if_pos rfl] at hK
      simp only [Nat.reduceAdd, reduceIte, Nat.reduceEqDiff, reduceCtorEq, Int.reduceLT, Int.reduceEq, opConvert, opIndexAddr, opLoad, Nat.reduceLT, undef, Nat.reduceLeDiff, Array.toList, oneOf_two, bldC0, wk4, wk5, wk0, fxC17f, lb, g0, Int.reduceLE, Int.reduceNe, ne_eq, not_true_eq_false, not_false_eq_true]
      refine members_ret (s2.pz xx.pz).rd hl ?_
      simp only [Nat.reduceAdd, reduceIte, Nat.reduceEqDiff, reduceCtorEq, opLen, Int.reduceLT, Int.reduceEq, opConvert, opIndexAddr, opLoad, Nat.reduceLT, undef, Nat.reduceLeDiff, Array.toList, oneOf_two, bldC0, wk4, wk5, wk0, fxC17f]
      exact hK _ xx

/-- An entry that may be. -/
structure Fit (E : Ent) : Prop where
  kd : E.kind = 0 ∨ E.kind = 1 ∨ E.kind = 2
  c0 : E.kind ≠ 1 → E.tr = 0 ∧ E.nu = 0 ∧ E.pc = 0 ∧ E.args = []
  c1 : E.kind ≠ 2 → E.mem = []
  t : 0 ≤ E.tr ∧ E.tr < 65536
  n : 0 ≤ E.nu ∧ E.nu < 65536
  p : 0 ≤ E.pc ∧ E.pc < 65536
  by_ : Bytes E.args
  al : E.args.length ≤ 4000
  ml : E.mem.length ≤ 16
  mx : ∀ x ∈ E.mem, 0 ≤ x ∧ x < 16
  mc : E.kind = 2 → memCk E.mem = 0
/-- An entry's bytes. -/
def entB (E : Ent) : List Int := wordB E.kind ++ (if E.kind = 1 then callB E.tr E.nu E.pc E.args else if E.kind = 2 then wordB E.mem.length ++ E.mem.flatMap wordB else [])
theorem ent0 {E : Ent} (h : E.kind = 0) : entB E = wordB 0 := by rw [entB, h, if_neg (by decide), if_neg (by decide), List.append_nil]
theorem ent1 {E : Ent} (h : E.kind = 1) : entB E = wordB 1 ++ callB E.tr E.nu E.pc E.args := by rw [entB, h, if_pos rfl]
theorem ent2 {E : Ent} (h : E.kind = 2) : entB E = wordB 2 ++ (wordB E.mem.length ++ E.mem.flatMap wordB) := by rw [entB, h, if_neg (by decide), if_pos rfl]
theorem words_len (l : List Int) : (l.flatMap wordB).length = l.length * 2 := by
  induction l with
  | nil => rfl
  | cons a l ih => rw [List.flatMap_cons, List.length_append, ih, List.length_cons, wordB_length]; omega
theorem entB_len {E : Ent} (f : Fit E) : (entB E).length ≤ 4300 := by
  rcases f.kd with h | h | h
  · rw [ent0 h]; decide
  · rw [ent1 h, List.length_append, callB_length, wordB_length]; have := f.al; omega
  · rw [ent2 h, List.length_append, List.length_append, words_len, wordB_length, wordB_length]; have := f.ml; omega
theorem entB_bytes {E : Ent} (f : Fit E) : Bytes (entB E) := by
  rcases f.kd with h | h | h
  · rw [ent0 h]; exact bytes_word (by decide) (by decide)
  · rw [ent1 h]
    exact bytes_append (bytes_word (by decide) (by decide)) (bytes_append (bytes_word f.t.1 f.t.2) (bytes_append (bytes_word f.n.1 f.n.2) (bytes_append (bytes_word f.p.1 f.p.2) (bytes_text f.by_ (by have := f.al; omega)))))
  · rw [ent2 h]
    exact bytes_append (bytes_word (by decide) (by decide)) (bytes_append (bytes_word (by omega) (by have := f.ml; omega)) (flat_bytes _ fun x hx => bytes_word (f.mx x hx).1 (by have := (f.mx x hx).2; omega)))

theorem wri_frow {m M : Mem} {i r sz n : Nat} {bs : List Int} {v : Value} {cs : List Value} (hw : Wri m i r bs) (y : Fr2 i r m M) (h : FRow m v sz n cs) : FRow M v sz n cs := by
  refine h.pz ⟨y.1, fun j c e hj g => (y.2 j hj ?_ ?_).trans g⟩
  · rintro rfl
    rcases hw.2.2 with ⟨_, _, h3⟩ | ⟨_, h3, _⟩ <;> (rw [h3] at g; simp at g)
  · rintro rfl
    rcases hw.2.2 with ⟨h1, _, h3⟩ | ⟨_, _, h3⟩
    · rw [h1, h3] at g; simp at g
    · rw [h3] at g; simp at g
theorem rri_frow {m M : Mem} {i r sz n : Nat} {all : List Int} {s : Nat × Int} {v : Value} {cs : List Value} (hw : Rri m i r all s) (y : Fr1 i m M) (h : FRow m v sz n cs) : FRow M v sz n cs := by
  refine h.pz ⟨y.1, fun j c e hj g => (y.2 j hj ?_).trans g⟩
  rintro rfl
  rw [hw.2.2.2.2.1] at g
  simp at g
theorem vput_ret {m : Mem} {i r : Nat} {bs : List Int} {v : Value} {E : Ent} (f : Fit E) (hw : Wri m i r bs) (he : EnF m v E) (hl : bs.length < 2 ^ 36)
    {K : Value → Mem → Prop} (hK : ∀ m' r', Wri m' i r' (bs ++ entB E) → (r' = r ∨ m.next ≤ r') → Fr2 i r m m' → K (.tuple #[]) m') : Ret Try.prog 21 [v, .pointer (some ⟨i, 0, none⟩)] m K := by
  obtain ⟨va, vb, rfl, s1, s2⟩ := he
  obtain ⟨a1, z1, rfl⟩ := s1.is
  obtain ⟨a2, z2, rfl⟩ := s2.is
  have sh1 : ∀ M, Fr2 i r m M → Shows M (.slice a1 E.args.length z1) (byteCells E.args) := fun M y => (wri_frow hw y s1).shows
  have sh2 : ∀ M, Fr2 i r m M → Shows M (.slice a2 E.mem.length z2) (intCells E.mem) := fun M y => (wri_frow hw y s2).shows
  have l2 : opLen Try.prog (some 42) (.slice a2 E.mem.length z2) = some (.int .i64 E.mem.length) := s2.len Try.underlying42
  refine ret_wp [] Try.func21 rfl (by decide) (by kernel_rfl) ?_
  have ek : IntKind.u16.wrap E.kind = E.kind := by rw [u16_lo]; have := f.kd; omega
  simp only [Nat.reduceAdd, reduceIte, Nat.reduceEqDiff, reduceCtorEq, opLen, Int.reduceLT, Int.reduceEq, opConvert, opIndexAddr, opLoad, Nat.reduceLT, undef, Nat.reduceLeDiff, Array.toList, oneOf_two, bldC0, wk4, wk5, wk0, fxC17f, ek]
  have hi := hw.1
  have hr := hw.2.1
  obtain ⟨Z, hZ⟩ : ∃ Z, Z = Blk.cells [.int .u8 E.kind, .int .u16 E.tr, .int .u16 E.nu, .int .i64 E.pc, .slice a1 E.args.length z1, .slice a2 E.mem.length z2] 44 true := ⟨_, rfl⟩
  rw [← hZ]
  have w0 := hw.ext (Ext.new m Z)
  have g0 := new_get m Z
  have f0 : Fr2 i r m (m.new Z) := ⟨Nat.le_succ _, fun j hj _ _ => new_get_ne _ (by omega)⟩
  have nx : m.next < (m.new Z).next := Nat.lt_succ_self _
  generalize m.new Z = m0 at w0 g0 f0 nx ⊢
  subst hZ
  refine word_ret w0 (by have := f.kd; omega) (by have := f.kd; omega) (by omega) fun m1 r1 w1 y1 f1 => ?_
  have g1 := (f1.2 m.next nx (by omega) (by omega)).trans g0
  have f01 := f0.trans f1 (.inl rfl)
  have l1 := f1.1
  have y1' : r1 = r ∨ m.next ≤ r1 := by have := f0.1; omega
  rcases f.kd with h | h | h
  · simp only [Nat.reduceAdd, reduceIte, Nat.reduceEqDiff, reduceCtorEq, opLen, Int.reduceLT, Int.reduceEq, opConvert, opIndexAddr, opLoad, Nat.reduceLT, undef, Nat.reduceLeDiff, Array.toList, oneOf_two, bldC0, wk4, wk5, wk0, fxC17f, g1, h]
    rw [h, ← ent0 h] at w1
    exact hK _ r1 w1 y1' f01
  · simp only [Nat.reduceAdd, reduceIte, Nat.reduceEqDiff, reduceCtorEq, opLen, Int.reduceLT, Int.reduceEq, opConvert, opIndexAddr, opLoad, Nat.reduceLT, undef, Nat.reduceLeDiff, Array.toList, oneOf_two, bldC0, wk4, wk5, wk0, fxC17f, g1, h]
    refine call_put_ret w1 (fun M y => sh1 M (f01.trans y y1')) f.t f.n f.p f.by_ (by rw [List.length_append, wordB_length]; omega) (by have := f.al; omega) fun m2 r2 w2 y2 f2 => ?_
    simp only [Nat.reduceAdd, reduceIte, Nat.reduceEqDiff, reduceCtorEq, opLen, Int.reduceLT, Int.reduceEq, opConvert, opIndexAddr, opLoad, Nat.reduceLT, undef, Nat.reduceLeDiff, Array.toList, oneOf_two, bldC0, wk4, wk5, wk0, fxC17f]
    rw [h, List.append_assoc, ← ent1 h] at w2
    have := f01.1
    exact hK _ r2 w2 (by omega) (f01.trans f2 y1')
  · have el : IntKind.u16.wrap (E.mem.length : Int) = E.mem.length := by rw [u16_lo]; have := f.ml; omega
    simp only [Nat.reduceAdd, reduceIte, Nat.reduceEqDiff, reduceCtorEq, Int.reduceLT, Int.reduceEq, opConvert, opIndexAddr, opLoad, Nat.reduceLT, undef, Nat.reduceLeDiff, Array.toList, oneOf_two, bldC0, wk4, wk5, wk0, fxC17f, g1, h, l2, el]
    refine word_ret w1 (by omega) (by have := f.ml; omega) (by rw [List.length_append, wordB_length]; omega) fun m2 r2 w2 y2 f2 => ?_
    have g2 := (f2.2 m.next (by omega) (by omega) (by omega)).trans g1
    have f02 := f01.trans f2 y1'
    have y2' : r2 = r ∨ m.next ≤ r2 := by have := f01.1; omega
    simp only [Nat.reduceAdd, reduceIte, Nat.reduceEqDiff, reduceCtorEq, Int.reduceLT, Int.reduceEq, opConvert, opIndexAddr, opLoad, Nat.reduceLT, undef, Nat.reduceLeDiff, Array.toList, oneOf_two, bldC0, wk4, wk5, wk0, fxC17f, g2, l2]
    obtain ⟨B, hB⟩ : ∃ B, B = bs ++ wordB E.kind ++ wordB E.mem.length := ⟨_, rfl⟩
    have hBl : B.length = bs.length + 4 := by rw [hB]; simp only [List.length_append, wordB_length]
    rw [← hB] at w2
    refine loop_wp [] (by kernel_rfl) (fun k env μ => ∃ (j r' : Nat) (bs' : List Int), k + j = E.mem.length ∧ bs' = B ++ (E.mem.take j).flatMap wordB ∧ bs'.length = B.length + j * 2 ∧ Wri μ i r' bs' ∧ (r' = r ∨ m.next ≤ r') ∧ Fr2 i r m μ ∧ env 1 = some (.pointer (some ⟨i, 0, none⟩)) ∧ env 28 = some (.slice a2 E.mem.length z2) ∧ env 29 = some (.int .i64 E.mem.length) ∧ env 30 = some (.int .i64 j)) ?_ E.mem.length
      ⟨0, r2, B, rfl, by simp, by omega, w2, y2', f02, rfl, rfl, rfl, rfl⟩
    rintro k env μ ⟨j, r', bs', hk, hbs, hbl, w, y, fr, e1, e28, e29, e30⟩
    simp only [Nat.reduceAdd, reduceIte, Nat.reduceEqDiff, reduceCtorEq, opLen, Int.reduceLT, Int.reduceEq, opConvert, opIndexAddr, opLoad, Nat.reduceLT, undef, Nat.reduceLeDiff, Array.toList, oneOf_two, bldC0, wk4, wk5, wk0, fxC17f, e29, e30]
    refine cond_by (fun hlt => ?_) (fun hge => ?_)
    · have hj' : j < E.mem.length := by omega
      have hj : j < (intCells E.mem).length := by simp only [intCells, List.length_map]; omega
      obtain ⟨p1, q1, s1, _⟩ := (sh2 μ fr).at (P := Try.prog) Try.underlying42 ts3 (by simp only [aggOf, Try.underlying3]) hj
      have ev : (intCells E.mem)[j] = .int .i64 E.mem[j] := by simp only [intCells, List.getElem_map]
      rw [ev] at s1
      have hx := f.mx E.mem[j] (List.getElem_mem _)
      have e16 : IntKind.u16.wrap E.mem[j] = E.mem[j] := by rw [u16_lo]; omega
      simp only [Nat.reduceAdd, reduceIte, Nat.reduceEqDiff, reduceCtorEq, opLen, Int.reduceLT, Int.reduceEq, opConvert, Nat.reduceLT, undef, Nat.reduceLeDiff, Array.toList, oneOf_two, bldC0, wk4, wk5, wk0, fxC17f, e1, e28, e29, e30, q1, s1, e16]
      refine word_ret w hx.1 (by omega) (by have := f.ml; omega) fun m3 r3 w3 y3 f3 => ?_
      have hw1 : IntKind.i64.wrap ((j : Int) + 1) = ((j + 1 : Nat) : Int) := by rw [wrap_i64 (by omega) (by have := f.ml; omega)]; rfl
      simp only [Nat.reduceAdd, reduceIte, Nat.reduceEqDiff, reduceCtorEq, opLen, Int.reduceLT, Int.reduceEq, opConvert, Nat.reduceLT, undef, Nat.reduceLeDiff, Array.toList, oneOf_two, bldC0, wk4, wk5, wk0, fxC17f, e1, e28, e29, e30, hw1]
      exact ⟨k - 1, by omega, j + 1, r3, _, by omega, by rw [flat_succ _ hj', ← List.append_assoc, ← hbs], by rw [List.length_append, wordB_length]; omega, w3, by have := fr.1; omega, fr.trans f3 y, rfl⟩
    · have hj : j = E.mem.length := by omega
      subst hj
      simp only [Nat.reduceAdd, reduceIte, Nat.reduceEqDiff, reduceCtorEq, opLen, Int.reduceLT, Int.reduceEq, opConvert, opIndexAddr, opLoad, Nat.reduceLT, undef, Nat.reduceLeDiff, Array.toList, oneOf_two, bldC0, wk4, wk5, wk0, fxC17f, e29, e30]
      rw [List.take_length] at hbs
      rw [hbs, hB, h, List.append_assoc, List.append_assoc, ← List.append_assoc (wordB 2), List.append_assoc (wordB 2), ← ent2 h] at w
      exact hK _ r' w y fr
end Go.Proofs.Ytejgoooanapjbaa
