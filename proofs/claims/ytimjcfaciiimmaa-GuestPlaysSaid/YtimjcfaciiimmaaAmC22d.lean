/- A text of the abstract machine. -/

/- A guest: time, results. -/
import Derived.Test.YtimjcfaciiimmaaAmC22c
import Derived.Test.YtimjcfaciiimmaaAmBun
set_option linter.unusedSimpArgs false
set_option linter.unusedVariables false
set_option maxRecDepth 100000
set_option maxHeartbeats 4000000
namespace Go.Proofs.Ytimjcfaciiimmaa
open Go Go.AM Go.AM.Crc Go.AM.Wire
theorem fxC22d : type_of% (And.intro (And.intro (And.intro (And.intro (And.intro (And.intro (And.intro @Try.underlying3 @Try.underlying4) (And.intro @Try.underlying5 @Try.underlying9)) (And.intro (And.intro @Try.underlying22 @Try.underlying23) (And.intro @Try.underlying25 (And.intro @Try.underlying26 @Try.underlying30)))) (And.intro (And.intro (And.intro @Try.underlying32 @Try.underlying34) (And.intro @Try.underlying35 @Try.underlying39)) (And.intro (And.intro @Try.underlying40 @Try.underlying45) (And.intro @Try.underlying56 (And.intro @Try.underlying62 @Try.underlying66))))) (And.intro (And.intro (And.intro (And.intro @Try.underlying72 @Try.underlying75) (And.intro @Try.underlying77 @Try.underlying83)) (And.intro (And.intro @Try.underlying85 @Try.underlying92) (And.intro @Try.underlying93 (And.intro @Try.underlying94 @Try.underlying98)))) (And.intro (And.intro (And.intro @ts3 @ts4) (And.intro @ts5 (And.intro @ts9 @ts22))) (And.intro (And.intro @ts23 @ts25) (And.intro @ts26 (And.intro @ts30 @ts32)))))) (And.intro (And.intro (And.intro (And.intro (And.intro @ts34 @ts35) (And.intro @ts39 @ts40)) (And.intro (And.intro @ts45 @ts56) (And.intro @ts62 (And.intro @ts66 @ts72)))) (And.intro (And.intro (And.intro @ts75 @ts77) (And.intro @ts83 @ts85)) (And.intro (And.intro @ts92 @ts93) (And.intro @ts94 (And.intro @ts98 @tz3))))) (And.intro (And.intro (And.intro (And.intro @tz4 @tz5) (And.intro @tz9 @tz22)) (And.intro (And.intro @tz23 @tz25) (And.intro @tz26 (And.intro @tz30 @tz32)))) (And.intro (And.intro (And.intro @tz34 @tz35) (And.intro @tz39 (And.intro @tz40 @tz45))) (And.intro (And.intro @tz56 @tz62) (And.intro @tz66 (And.intro @tz72 @tz75))))))) (And.intro (And.intro (And.intro (And.intro (And.intro (And.intro @tz77 @tz83) (And.intro @tz85 @tz92)) (And.intro (And.intro @tz93 @tz94) (And.intro @tz98 (And.intro @tb3 @tb4)))) (And.intro (And.intro (And.intro @tb5 @tb9) (And.intro @tb22 @tb23)) (And.intro (And.intro @tb25 @tb26) (And.intro @tb30 (And.intro @tb32 @tb34))))) (And.intro (And.intro (And.intro (And.intro @tb35 @tb39) (And.intro @tb40 @tb45)) (And.intro (And.intro @tb56 @tb62) (And.intro @tb66 (And.intro @tb72 @tb75)))) (And.intro (And.intro (And.intro @tb77 @tb83) (And.intro @tb85 (And.intro @tb92 @tb93))) (And.intro (And.intro @tb94 @tb98) (And.intro @fr7 (And.intro @fr8 @fr9)))))) (And.intro (And.intro (And.intro (And.intro (And.intro @fr10 @fr11) (And.intro @fr12 @fr13)) (And.intro (And.intro @fr14 @fr23) (And.intro @fr24 (And.intro @fr25 @fr26)))) (And.intro (And.intro (And.intro @bz39 @bz32) (And.intro @bz92 @al39)) (And.intro (And.intro @al32 @al92) (And.intro @al62 (And.intro @bz85 @fa32_0))))) (And.intro (And.intro (And.intro (And.intro @fa32_5 @fa39_0) (And.intro @fa39_1 @fa39_2)) (And.intro (And.intro @fa62_0 @fa62_1) (And.intro @fa62_2 (And.intro @fa85_0 @fa85_1)))) (And.intro (And.intro (And.intro @fa85_2 @fa85_3) (And.intro @fa85_4 (And.intro @fa85_5 @fa85_6))) (And.intro (And.intro @fa92_1 @fa92_4) (And.intro @fa92_5 (And.intro @fa98_0 @fa98_2)))))))) := (And.intro (And.intro (And.intro (And.intro (And.intro (And.intro (And.intro @Try.underlying3 @Try.underlying4) (And.intro @Try.underlying5 @Try.underlying9)) (And.intro (And.intro @Try.underlying22 @Try.underlying23) (And.intro @Try.underlying25 (And.intro @Try.underlying26 @Try.underlying30)))) (And.intro (And.intro (And.intro @Try.underlying32 @Try.underlying34) (And.intro @Try.underlying35 @Try.underlying39)) (And.intro (And.intro @Try.underlying40 @Try.underlying45) (And.intro @Try.underlying56 (And.intro @Try.underlying62 @Try.underlying66))))) (And.intro (And.intro (And.intro (And.intro @Try.underlying72 @Try.underlying75) (And.intro @Try.underlying77 @Try.underlying83)) (And.intro (And.intro @Try.underlying85 @Try.underlying92) (And.intro @Try.underlying93 (And.intro @Try.underlying94 @Try.underlying98)))) (And.intro (And.intro (And.intro @ts3 @ts4) (And.intro @ts5 (And.intro @ts9 @ts22))) (And.intro (And.intro @ts23 @ts25) (And.intro @ts26 (And.intro @ts30 @ts32)))))) (And.intro (And.intro (And.intro (And.intro (And.intro @ts34 @ts35) (And.intro @ts39 @ts40)) (And.intro (And.intro @ts45 @ts56) (And.intro @ts62 (And.intro @ts66 @ts72)))) (And.intro (And.intro (And.intro @ts75 @ts77) (And.intro @ts83 @ts85)) (And.intro (And.intro @ts92 @ts93) (And.intro @ts94 (And.intro @ts98 @tz3))))) (And.intro (And.intro (And.intro (And.intro @tz4 @tz5) (And.intro @tz9 @tz22)) (And.intro (And.intro @tz23 @tz25) (And.intro @tz26 (And.intro @tz30 @tz32)))) (And.intro (And.intro (And.intro @tz34 @tz35) (And.intro @tz39 (And.intro @tz40 @tz45))) (And.intro (And.intro @tz56 @tz62) (And.intro @tz66 (And.intro @tz72 @tz75))))))) (And.intro (And.intro (And.intro (And.intro (And.intro (And.intro @tz77 @tz83) (And.intro @tz85 @tz92)) (And.intro (And.intro @tz93 @tz94) (And.intro @tz98 (And.intro @tb3 @tb4)))) (And.intro (And.intro (And.intro @tb5 @tb9) (And.intro @tb22 @tb23)) (And.intro (And.intro @tb25 @tb26) (And.intro @tb30 (And.intro @tb32 @tb34))))) (And.intro (And.intro (And.intro (And.intro @tb35 @tb39) (And.intro @tb40 @tb45)) (And.intro (And.intro @tb56 @tb62) (And.intro @tb66 (And.intro @tb72 @tb75)))) (And.intro (And.intro (And.intro @tb77 @tb83) (And.intro @tb85 (And.intro @tb92 @tb93))) (And.intro (And.intro @tb94 @tb98) (And.intro @fr7 (And.intro @fr8 @fr9)))))) (And.intro (And.intro (And.intro (And.intro (And.intro @fr10 @fr11) (And.intro @fr12 @fr13)) (And.intro (And.intro @fr14 @fr23) (And.intro @fr24 (And.intro @fr25 @fr26)))) (And.intro (And.intro (And.intro @bz39 @bz32) (And.intro @bz92 @al39)) (And.intro (And.intro @al32 @al92) (And.intro @al62 (And.intro @bz85 @fa32_0))))) (And.intro (And.intro (And.intro (And.intro @fa32_5 @fa39_0) (And.intro @fa39_1 @fa39_2)) (And.intro (And.intro @fa62_0 @fa62_1) (And.intro @fa62_2 (And.intro @fa85_0 @fa85_1)))) (And.intro (And.intro (And.intro @fa85_2 @fa85_3) (And.intro @fa85_4 (And.intro @fa85_5 @fa85_6))) (And.intro (And.intro @fa92_1 @fa92_4) (And.intro @fa92_5 (And.intro @fa98_0 @fa98_2))))))))
theorem gopen_ret {m : Mem} {g : Nat} {G : Gs} (H : GAt m g G) {K : Value → Mem → Prop} (hK : K (.int .i64 G.opn.length) m) : Ret Try.prog 12 [.pointer (some ⟨g, 0, none⟩)] m K := by
  obtain ⟨ob, rb, r, pv, sv, ov, H⟩ := H
  refine ret_wp [] Try.func12 rfl (by decide) (by kernel_rfl) ?_
  have gg := H.gg
  have e := H.mo.len (P := Try.prog) Try.underlying83
  simp only [Nat.reduceAdd, reduceIte, Nat.reduceEqDiff, reduceCtorEq, opLen, Int.reduceLT, Int.reduceEq, opConvert, opIndexAddr, opLoad, Nat.reduceLT, undef, Nat.reduceLeDiff, Array.toList, bin_geq26, bin_mapn, bin_pnn, bin_pne, veq_map, bld66, bld98, bld56, bld62, one_u16, one_letter, no_ints, no_bytes, wk4, wk5, wk0, fxC22d, gg, e]
  exact hK
theorem gnums_ret {m : Mem} {g : Nat} {G : Gs} (H : GAt m g G) (hl : G.order.length < 2 ^ 30) {K : Value → Mem → Prop} (hK : ∀ m' a q, Ext m m' → K (.slice a G.order.length q) m') : Ret Try.prog 14 [.pointer (some ⟨g, 0, none⟩)] m K := by
  obtain ⟨ob, rb, r, pv, sv, ov, H⟩ := H
  refine ret_wp [] Try.func14 rfl (by decide) (by kernel_rfl) ?_
  have nob : opBuildSlice Try.prog 45 0 [] m = some (.slice (some ⟨m.next, 0, none⟩) 0 1, m.new (.cells [] 22 true)) := by kernel_rfl
  have x1 := Ext.new m (.cells [] 22 true)
  have H1 := H.ext x1
  have gg1 := H1.gg
  have o2 : OwnI m.next 22 1 (m.new (.cells [] 22 true)) (.slice (some ⟨m.next, 0, none⟩) 0 1) 0 [] := OwnI.made rfl
  obtain ⟨a1, q1, m1, b1, e1, e2, hb1, e3, e4⟩ := OwnI.push (P := Try.prog) (t := 45) (tx := 45) o2 Try.underlying45 ⟨_, Try.underlying45⟩ ts22 (by decide) tz22 tb22 (by decide) rfl rfl H1.oo.rd.showsR (by omega)
  simp only [new_next, Nat.zero_add] at e1 e2 e3 e4 hb1
  have lov : opLoad Try.prog 45 (.pointer (some ⟨g, 11, none⟩)) (m.new (.cells [] 22 true)) = some ov := load_cell gg1 (by simp only [aggOf, Try.underlying45]) rfl
  simp only [Nat.reduceAdd, reduceIte, Nat.reduceEqDiff, reduceCtorEq, opLen, Int.reduceLT, Int.reduceEq, opConvert, opIndexAddr, Nat.reduceLT, undef, Nat.reduceLeDiff, Array.toList, bin_geq26, bin_mapn, bin_pnn, bin_pne, veq_map, bld66, bld98, bld56, bld62, one_u16, one_letter, no_ints, no_bytes, wk4, wk5, wk0, fxC22d, nob, lov, e1]
  exact hK _ _ _ ⟨by omega, fun j hj => by rw [e4 j (by omega) (by omega), new_get_ne _ (by omega)]⟩
theorem gresult_ret {m : Mem} {g : Nat} {G : Gs} {n : Int} (H : GAt m g G) (hs : ∀ a, mget G.res n = some a → a.s.length < 2 ^ 46) {K : Value → Mem → Prop} (hK : ∀ m' w r, Ext m m' → OwnI r 5 1 m' w ((mget G.res n).getD ⟨0, 0, []⟩).s.length (byteCells ((mget G.res n).getD ⟨0, 0, []⟩).s) → m.next ≤ r → K (.tuple #[ansV ((mget G.res n).getD ⟨0, 0, []⟩).e ((mget G.res n).getD ⟨0, 0, []⟩).q w, .bool (mget G.res n).isSome]) m') : Ret Try.prog 11 [.pointer (some ⟨g, 0, none⟩), .int .u16 n] m K := by
  obtain ⟨ob, rb, r, pv, sv, ov, H⟩ := H
  refine ret_wp [] Try.func11 rfl (by decide) (by kernel_rfl) ?_
  have x1 := Ext.new m (.cells [.int .i64 0, .int .i64 0, .slice none 0 0] 39 true)
  have H1 := H.ext x1
  have g1 := new_get m (.cells [.int .i64 0, .int .i64 0, .slice none 0 0] 39 true)
  have n1 : (m.new (.cells [.int .i64 0, .int .i64 0, .slice none 0 0] 39 true)).next = m.next + 1 := rfl
  obtain ⟨A, hA⟩ : ∃ A, A = (mget G.res n).getD ⟨0, 0, []⟩ := ⟨_, rfl⟩
  have hL : ∃ w, FRow m w 1 A.s.length (byteCells A.s) ∧ opLookup Try.prog 72 (.map (some rb)) (.int .u16 n) true (m.new (.cells [.int .i64 0, .int .i64 0, .slice none 0 0] 39 true)) = some (.tuple #[ansV A.e A.q w, .bool (mget G.res n).isSome]) ∧ A.s.length < 2 ^ 46 := by
    have mr := H.mr.keep (x1.2 rb H.lr)
    cases hg : mget G.res n with
    | none =>
      rw [hg] at hA
      refine ⟨.slice none 0 0, ?_, ?_, ?_⟩
      · rw [hA]; exact FRow.nil
      · rw [hA]; exact mr.absent (P := Try.prog) keyU_ok Try.underlying72 tz39 rfl hg true
      · rw [hA]; decide
    | some a =>
      rw [hg] at hA
      obtain ⟨x, ⟨w, hx, hf⟩, e⟩ := mr.lookup (P := Try.prog) keyU_ok Try.underlying72 hg true
      refine ⟨w, ?_, ?_, ?_⟩
      · rw [hA]; exact hf
      · rw [hA, e, hx]; rfl
      · rw [hA]; exact hs a hg
  rw [← hA] at hK
  clear hA
  obtain ⟨w, fw, eL, hAs⟩ := hL
  obtain ⟨wa, wq, rfl⟩ := fw.is
  have gg1 := H1.gg
  have lmr : opLoad Try.prog 72 (.pointer (some ⟨g, 10, none⟩)) (m.new (.cells [.int .i64 0, .int .i64 0, .slice none 0 0] 39 true)) = some (.map (some rb)) := load_cell gg1 (by simp only [aggOf, Try.underlying72]) rfl
  obtain ⟨m1, hm1⟩ : ∃ m1, m1 = m.new (.cells [.int .i64 0, .int .i64 0, .slice none 0 0] 39 true) := ⟨_, rfl⟩
  rw [← hm1] at x1 H1 g1 n1 eL gg1 lmr
  have st2 := st_ans m1 A.e A.q (.slice wa A.s.length wq) rfl
  obtain ⟨m2, hm2⟩ : ∃ m2, m2 = (m1.new (.cells [.int .i64 0, .int .i64 0, .slice none 0 0] 39 true)).set m1.next (.cells [.int .i64 A.e, .int .i64 A.q, .slice wa A.s.length wq] 39 true) := ⟨_, rfl⟩
  have x2 : Ext m1 m2 := by rw [hm2]; exact (Ext.new _ _).set (Nat.le_refl _)
  have g2 : m2.get m1.next = some (.cells [.int .i64 A.e, .int .i64 A.q, .slice wa A.s.length wq] 39 true) := by rw [hm2]; exact set_get _ _ _
  have n2 : m1.next < m2.next := by rw [hm2]; exact Nat.lt_succ_self _
  rw [← hm2] at st2
  clear hm2
  have sh : Shows (m2.new (.cells [] 5 true)) (.slice wa A.s.length wq) (byteCells A.s) := (fw.pz ((x1.trans x2).trans (Ext.new _ _)).pz).shows
  obtain ⟨m3, r3, q1, q2, q3, q4, x3⟩ := copy_row (P := Try.prog) wtc (added_bytes wtc sh) (by omega)
  have hx3 := x3.1
  have lw : opLoad Try.prog 23 (.pointer (some ⟨m1.next, 2, none⟩)) (m2.new (.cells [] 5 true)) = some (.slice wa A.s.length wq) := load_cell (((Ext.new m2 _).2 m1.next n2).trans g2) (by simp only [aggOf, Try.underlying23]) rfl
  have g3 := (x3.2 m1.next n2).trans g2
  have st3 : opStore Try.prog 23 (.pointer (some ⟨m1.next, 2, none⟩)) (.slice (some ⟨r3, 0, none⟩) A.s.length 1) m3 = some (m3.set m1.next (.cells [.int .i64 A.e, .int .i64 A.q, .slice (some ⟨r3, 0, none⟩) A.s.length 1] 39 true)) := store_one (P := Try.prog) g3 ts23 rfl (by simp)
  obtain ⟨m4, hm4⟩ : ∃ m4, m4 = m3.set m1.next (.cells [.int .i64 A.e, .int .i64 A.q, .slice (some ⟨r3, 0, none⟩) A.s.length 1] 39 true) := ⟨_, rfl⟩
  have g4 : m4.get m1.next = some (.cells [.int .i64 A.e, .int .i64 A.q, .slice (some ⟨r3, 0, none⟩) A.s.length 1] 39 true) := by rw [hm4]; exact set_get _ _ _
  have k4 : ∀ j, j ≠ m1.next → m4.get j = m3.get j := fun j hj => by rw [hm4]; exact set_get_ne _ hj
  have n4 : m4.next = m3.next := by rw [hm4]; rfl
  rw [← hm4] at st3
  clear hm4
  have ld4 := ld37 g4
  have g40 := (k4 m.next (by omega)).trans (((x2.trans x3).2 m.next (by omega)).trans g1)
  have st5 := st37 (e' := A.e) (q' := A.q) (w' := .slice (some ⟨r3, 0, none⟩) A.s.length 1) g40 rfl
  have ld6 := ld37 (set_get m4 m.next (.cells [.int .i64 A.e, .int .i64 A.q, .slice (some ⟨r3, 0, none⟩) A.s.length 1] 39 true))
  simp only [evOp, evParts, okVal, ev1, evs, evOpt, envOf, List.lookup_nil, List.size_toArray, List.length_cons, List.length_nil, List.range, List.range.loop, Nat.zero_add, Nat.reduceAdd, Bool.not_false, Bool.not_true, Bool.true_or, if_true, if_false, reduceIte, Nat.reduceEqDiff, reduceCtorEq, List.getElem?_toArray, List.getElem?_cons_zero, List.getElem?_cons_succ, guardOf, constOk, constCell, evBuiltin, opLen, List.head?_cons, foldV, min2V, max2V, Int.reduceLT, Int.reduceEq, Kend, resOf, Bool.false_eq_true, Bool.true_eq_false, IntKind.signed, IntKind.max, opConvert, opIndexAddr, aggOf, Option.some.injEq, Value.bool.injEq, exists_eq_left', true_and, forall_const, decide_eq_true_eq, decide_eq_false_iff_not, Int.natCast_nonneg, and_self, Int.toNat_natCast, Nat.mul_one, List.append_nil, beq_self_eq_true, Nat.lt_irrefl, Nat.zero_lt_succ, Nat.reduceLT, Option.bind_some, new_next, set_get_if, set_next, decide_true, decide_false, beq_tt, beq_tf, beq_ft, beq_ff, undef, Nat.left_eq_add, Nat.add_eq_left, List.drop_zero, List.drop_succ_cons, List.take_succ_cons, List.take_zero, List.drop_nil, opBox, Value.cells, setCells, List.length_append, Nat.reduceLeDiff, Nat.add_zero, Nat.add_assoc, Nat.add_right_cancel_iff, List.cons_append, List.nil_append, Array.toList, Option.isNone_none, Option.isNone_some, ne_eq, not_true_eq_false, not_false_eq_true, bin_geq26, bin_mapn, bin_pnn, bin_pne, veq_map, bld66, bld98, bld56, bld62, one_u16, one_letter, no_ints, no_bytes, wk0, fxC22d, ← hm1, lmr, eL, st2, no_bytes, lw, q1, st3, ld4, st5, ld6, two_of]
  refine hK _ _ r3 ⟨by simp only [set_next]; have := x2.1; have := x1.1; omega, fun z hz => ?_⟩ (Brow.own (TB := 5) ⟨by simp only [set_next]; omega, ?_⟩) (by have := x2.1; have := x1.1; omega)
  · rw [set_get_ne _ (by omega), k4 z (by omega), (x2.trans x3).2 z (by omega), x1.2 z hz]
  · rw [set_get_ne _ (by have := x2.1; omega), k4 r3 (by omega)]
    exact q2
/-- A call is answered. -/
theorem gend_ret {m : Mem} {g : Nat} {G : Gs} {n : Int} {a : Ans} {v : Value} (H : GAt m g G) (fv : FRow m v 1 a.s.length (byteCells a.s)) {K : Value → Mem → Prop} (hK : ∀ m', GAt m' g { G with opn := mdel G.opn n, res := mput G.res n a } → Pz m m' → K (.tuple #[]) m') : Ret Try.prog 26 [.pointer (some ⟨g, 0, none⟩), .int .u16 n, ansV a.e a.q v] m K := by
  obtain ⟨ob, rb, r, pv, sv, ov, H⟩ := H
  obtain ⟨va, vq, rfl⟩ := fv.is
  refine ret_wp [] Try.func26 rfl (by decide) (by kernel_rfl) ?_
  have x1 := Ext.new m (.cells [.int .i64 a.e, .int .i64 a.q, .slice va a.s.length vq] 39 true)
  have H1 := H.ext x1
  have g1 := new_get m (.cells [.int .i64 a.e, .int .i64 a.q, .slice va a.s.length vq] 39 true)
  have n1 : (m.new (.cells [.int .i64 a.e, .int .i64 a.q, .slice va a.s.length vq] 39 true)).next = m.next + 1 := rfl
  have gg1 := H1.gg
  have f1 := fv.pz x1.pz
  obtain ⟨m1, hm1⟩ : ∃ m1, m1 = m.new (.cells [.int .i64 a.e, .int .i64 a.q, .slice va a.s.length vq] 39 true) := ⟨_, rfl⟩
  rw [← hm1] at x1 H1 g1 n1 gg1 f1
  have lg := H.lg
  have lo := H.lo
  have lr := H.lr
  obtain ⟨es0, hob, _⟩ := id H1.mo
  obtain ⟨es1, hrb, _⟩ := id H1.mr
  have hgo : g ≠ ob := mapne gg1 hob
  have hgr : g ≠ rb := mapne gg1 hrb
  have lmo : opLoad Try.prog 83 (.pointer (some ⟨g, 9, none⟩)) m1 = some (.map (some ob)) := load_cell gg1 (by simp only [aggOf, Try.underlying83]) rfl
  obtain ⟨es, w1, w2⟩ := H1.mo.delete (P := Try.prog) (u := 22) keyU_ok Try.underlying83 n
  obtain ⟨m2, hm2⟩ : ∃ m2, m2 = m1.set ob (.map es) := ⟨_, rfl⟩
  have k2 : ∀ j, j ≠ ob → m2.get j = m1.get j := fun j hj => by rw [hm2]; exact set_get_ne _ hj
  have n2 : m2.next = m1.next := by rw [hm2]; rfl
  have z2 : Pz m1 m2 := by rw [hm2]; exact Pz.mset hob _
  rw [← hm2] at w1 w2
  clear hm2
  have gg2 := (k2 g hgo).trans gg1
  have g12 := (k2 m.next (by omega)).trans g1
  have lmr : opLoad Try.prog 72 (.pointer (some ⟨g, 10, none⟩)) m2 = some (.map (some rb)) := load_cell gg2 (by simp only [aggOf, Try.underlying72]) rfl
  have ld2 := ld37 g12
  have mr2 := (H1.mr.keep (k2 rb (fun h => H.ne h.symm))).mono (AnsR.pz z2)
  obtain ⟨es2, w3, w4⟩ := mr2.update (P := Try.prog) (v := ansV a.e a.q (.slice va a.s.length vq)) keyU_ok Try.underlying72 n (a := a) ⟨_, rfl, f1.pz z2⟩
  have hrb2 := (k2 rb (fun h => H.ne h.symm)).trans hrb
  obtain ⟨m3, hm3⟩ : ∃ m3, m3 = m2.set rb (.map es2) := ⟨_, rfl⟩
  have k3 : ∀ j, j ≠ rb → m3.get j = m2.get j := fun j hj => by rw [hm3]; exact set_get_ne _ hj
  have n3 : m3.next = m2.next := by rw [hm3]; rfl
  have z3 : Pz m2 m3 := by rw [hm3]; exact Pz.mset hrb2 _
  rw [← hm3] at w3 w4
  clear hm3
  simp only [Nat.reduceAdd, reduceIte, Nat.reduceEqDiff, reduceCtorEq, opLen, Int.reduceLT, Int.reduceEq, opConvert, opIndexAddr, Nat.reduceLT, new_next, set_get_if, set_next, decide_true, decide_false, beq_tt, beq_tf, beq_ft, beq_ff, undef, Nat.left_eq_add, Nat.add_eq_left, List.drop_zero, List.drop_succ_cons, List.take_succ_cons, List.take_zero, List.drop_nil, List.length_append, Nat.reduceLeDiff, Nat.add_zero, Nat.add_assoc, Nat.add_right_cancel_iff, List.cons_append, List.nil_append, Array.toList, Option.isNone_none, Option.isNone_some, ne_eq, not_true_eq_false, not_false_eq_true, bin_geq26, bin_mapn, bin_pnn, bin_pne, veq_map, bld66, bld98, bld56, bld62, one_u16, one_letter, no_ints, no_bytes, wk4, wk0, fxC22d, ← hm1, lmo, w1, lmr, ld2, w3]
  have z13 := z2.trans z3
  refine hK m3 ⟨ob, rb, r, pv, sv, ov, (k3 g hgr).trans gg2, H1.fp.pz z13, H1.fs.pz z13, w2.keep (k3 ob H.ne), w4.mono (AnsR.pz z3), H1.oo.keep (by omega) (fun _ => by rw [k3 r H.rr, k2 r H.ro]), fun p hp => ?_, by omega, by omega, by omega, H.ne, H.rg, H.ro, H.rr⟩ (x1.pz.trans z13)
  have hp' : p ∈ G.opn := by
    have : ∀ {l : List (Int × (Nat × Int))}, p ∈ mdel l n → p ∈ l := by
      intro l
      induction l with
      | nil => intro h; exact h
      | cons x r ih =>
        intro h
        simp only [mdel] at h
        split at h
        · exact List.mem_cons_of_mem _ h
        · rcases List.mem_cons.1 h with h | h
          · rw [h]; exact List.mem_cons_self ..
          · exact List.mem_cons_of_mem _ (ih h)
    exact this hp
  obtain ⟨q1, u, n', pr, a', k, z, tp, q2⟩ := H1.pe p hp'
  exact ⟨by omega, u, n', pr, a', k, z, tp, by rw [k3 _ (mapne q2 hrb), k2 _ (mapne q2 hob), q2]⟩
end Go.Proofs.Ytimjcfaciiimmaa
