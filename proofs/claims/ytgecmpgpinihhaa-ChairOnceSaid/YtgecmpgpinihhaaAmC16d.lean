/- A text of the abstract machine. -/



/- A chair: promises that count. -/
import Derived.Test.YtgecmpgpinihhaaAmC16c
import Derived.Test.YtgecmpgpinihhaaAmBun
set_option linter.unusedSimpArgs false
set_option linter.unusedVariables false
set_option maxRecDepth 100000
set_option maxHeartbeats 4000000
namespace Go.Proofs.Ytgecmpgpinihhaa
open Go Go.AM Go.AM.Crc Go.AM.Wire
theorem fxC16d : type_of% (And.intro (And.intro (And.intro (And.intro (And.intro (And.intro (And.intro @Try.underlying3 @Try.underlying4) (And.intro @Try.underlying5 @Try.underlying9)) (And.intro (And.intro @Try.underlying30 @Try.underlying33) (And.intro @Try.underlying103 (And.intro @Try.underlying78 @Try.underlying22)))) (And.intro (And.intro (And.intro @Try.underlying26 @Try.underlying28) (And.intro @Try.underlying41 @Try.underlying43)) (And.intro (And.intro @Try.underlying45 @Try.underlying24) (And.intro @Try.underlying39 (And.intro @Try.underlying23 @Try.underlying34))))) (And.intro (And.intro (And.intro (And.intro @Try.underlying37 @Try.underlying49) (And.intro @Try.underlying51 @Try.underlying57)) (And.intro (And.intro @Try.underlying73 @Try.underlying76) (And.intro @ts3 (And.intro @ts4 @ts5)))) (And.intro (And.intro (And.intro @ts9 @ts30) (And.intro @ts33 @ts103)) (And.intro (And.intro @ts78 @ts22) (And.intro @ts26 (And.intro @ts28 @ts41)))))) (And.intro (And.intro (And.intro (And.intro (And.intro @ts43 @ts45) (And.intro @ts24 @ts39)) (And.intro (And.intro @ts23 @ts34) (And.intro @ts37 (And.intro @ts49 @ts51)))) (And.intro (And.intro (And.intro @ts57 @ts73) (And.intro @ts76 @tz3)) (And.intro (And.intro @tz4 @tz5) (And.intro @tz9 (And.intro @tz30 @tz33))))) (And.intro (And.intro (And.intro (And.intro @tz103 @tz78) (And.intro @tz22 @tz26)) (And.intro (And.intro @tz28 @tz41) (And.intro @tz43 (And.intro @tz45 @tz24)))) (And.intro (And.intro (And.intro @tz39 @tz23) (And.intro @tz34 (And.intro @tz37 @tz49))) (And.intro (And.intro @tz51 @tz57) (And.intro @tz73 (And.intro @tz76 @tb3))))))) (And.intro (And.intro (And.intro (And.intro (And.intro (And.intro @tb4 @tb5) (And.intro @tb9 @tb30)) (And.intro (And.intro @tb33 @tb103) (And.intro @tb78 (And.intro @tb22 @tb26)))) (And.intro (And.intro (And.intro @tb28 @tb41) (And.intro @tb43 @tb45)) (And.intro (And.intro @tb24 @tb39) (And.intro @tb23 (And.intro @tb34 @tb37))))) (And.intro (And.intro (And.intro (And.intro @tb49 @tb51) (And.intro @tb57 @tb73)) (And.intro (And.intro @tb76 @fr7) (And.intro @fr8 (And.intro @fr9 @fr10)))) (And.intro (And.intro (And.intro @fr11 @fr12) (And.intro @fr15 @fr16)) (And.intro (And.intro @fr19 @fr21) (And.intro @fr22 (And.intro @fr23 @bz33)))))) (And.intro (And.intro (And.intro (And.intro (And.intro @al33 @fa33_0) (And.intro @fa33_1 @bz28)) (And.intro (And.intro @bz26 @bz43) (And.intro @bz45 (And.intro @al43 @al45)))) (And.intro (And.intro (And.intro @fa45_0 @fa45_1) (And.intro @fa45_2 @fa43_0)) (And.intro (And.intro @fa43_1 @fa43_2) (And.intro @fa28_0 (And.intro @fa28_1 @fa28_2))))) (And.intro (And.intro (And.intro (And.intro @fa26_0 @fa26_1) (And.intro @fa26_2 @fa26_3)) (And.intro (And.intro @bz37 @bz76) (And.intro @al37 (And.intro @fa37_0 @fa37_1)))) (And.intro (And.intro (And.intro @fa76_0 @fa76_1) (And.intro @fa76_2 (And.intro @fa76_3 @fa76_4))) (And.intro (And.intro @fa76_5 @fa76_6) (And.intro @fa76_7 (And.intro @fa76_8 @oneOf_two)))))))) := (And.intro (And.intro (And.intro (And.intro (And.intro (And.intro (And.intro @Try.underlying3 @Try.underlying4) (And.intro @Try.underlying5 @Try.underlying9)) (And.intro (And.intro @Try.underlying30 @Try.underlying33) (And.intro @Try.underlying103 (And.intro @Try.underlying78 @Try.underlying22)))) (And.intro (And.intro (And.intro @Try.underlying26 @Try.underlying28) (And.intro @Try.underlying41 @Try.underlying43)) (And.intro (And.intro @Try.underlying45 @Try.underlying24) (And.intro @Try.underlying39 (And.intro @Try.underlying23 @Try.underlying34))))) (And.intro (And.intro (And.intro (And.intro @Try.underlying37 @Try.underlying49) (And.intro @Try.underlying51 @Try.underlying57)) (And.intro (And.intro @Try.underlying73 @Try.underlying76) (And.intro @ts3 (And.intro @ts4 @ts5)))) (And.intro (And.intro (And.intro @ts9 @ts30) (And.intro @ts33 @ts103)) (And.intro (And.intro @ts78 @ts22) (And.intro @ts26 (And.intro @ts28 @ts41)))))) (And.intro (And.intro (And.intro (And.intro (And.intro @ts43 @ts45) (And.intro @ts24 @ts39)) (And.intro (And.intro @ts23 @ts34) (And.intro @ts37 (And.intro @ts49 @ts51)))) (And.intro (And.intro (And.intro @ts57 @ts73) (And.intro @ts76 @tz3)) (And.intro (And.intro @tz4 @tz5) (And.intro @tz9 (And.intro @tz30 @tz33))))) (And.intro (And.intro (And.intro (And.intro @tz103 @tz78) (And.intro @tz22 @tz26)) (And.intro (And.intro @tz28 @tz41) (And.intro @tz43 (And.intro @tz45 @tz24)))) (And.intro (And.intro (And.intro @tz39 @tz23) (And.intro @tz34 (And.intro @tz37 @tz49))) (And.intro (And.intro @tz51 @tz57) (And.intro @tz73 (And.intro @tz76 @tb3))))))) (And.intro (And.intro (And.intro (And.intro (And.intro (And.intro @tb4 @tb5) (And.intro @tb9 @tb30)) (And.intro (And.intro @tb33 @tb103) (And.intro @tb78 (And.intro @tb22 @tb26)))) (And.intro (And.intro (And.intro @tb28 @tb41) (And.intro @tb43 @tb45)) (And.intro (And.intro @tb24 @tb39) (And.intro @tb23 (And.intro @tb34 @tb37))))) (And.intro (And.intro (And.intro (And.intro @tb49 @tb51) (And.intro @tb57 @tb73)) (And.intro (And.intro @tb76 @fr7) (And.intro @fr8 (And.intro @fr9 @fr10)))) (And.intro (And.intro (And.intro @fr11 @fr12) (And.intro @fr15 @fr16)) (And.intro (And.intro @fr19 @fr21) (And.intro @fr22 (And.intro @fr23 @bz33)))))) (And.intro (And.intro (And.intro (And.intro (And.intro @al33 @fa33_0) (And.intro @fa33_1 @bz28)) (And.intro (And.intro @bz26 @bz43) (And.intro @bz45 (And.intro @al43 @al45)))) (And.intro (And.intro (And.intro @fa45_0 @fa45_1) (And.intro @fa45_2 @fa43_0)) (And.intro (And.intro @fa43_1 @fa43_2) (And.intro @fa28_0 (And.intro @fa28_1 @fa28_2))))) (And.intro (And.intro (And.intro (And.intro @fa26_0 @fa26_1) (And.intro @fa26_2 @fa26_3)) (And.intro (And.intro @bz37 @bz76) (And.intro @al37 (And.intro @fa37_0 @fa37_1)))) (And.intro (And.intro (And.intro @fa76_0 @fa76_1) (And.intro @fa76_2 (And.intro @fa76_3 @fa76_4))) (And.intro (And.intro @fa76_5 @fa76_6) (And.intro @fa76_7 (And.intro @fa76_8 @oneOf_two))))))))
theorem one_intP (m : Mem) (n : Int) : opBuildSlice Try.prog 30 1 [(0, .int .i64 n)] m = some (.slice (some ⟨m.next, 0, none⟩) 1 1, m.new (.cells [.int .i64 n] 3 true)) := by kernel_rfl
theorem set_set (m : Mem) (i : Nat) (a b : Blk) : (m.set i a).set i b = m.set i b := by
  simp only [Mem.set]
  congr 1
  funext j
  split <;> rfl
def Ch.hear (C : Ch) (x : Int) : Ch := { C with heard := C.heard ++ [x] }
def Ch.took (C : Ch) (wr wn : Int) (X : Ent) : Ch := { C with xr := wr, xn := wn, found := X, s := true }
def Ch.take (C : Ch) (s : Bool) (wr wn : Int) (X : Ent) : Ch := if (s && (!C.s || lessB C.xr C.xn wr wn)) = true then C.took wr wn X else C
def Ch.put (C : Ch) : Ch := { C with ph := 2, heard := [], ent := if C.s = true then C.found else C.own }
def Ch.most (C : Ch) : Bool := decide (C.mem.length < 2 * manyIn C.mem C.heard)
def Ch.fin (C : Ch) : Ch := if C.most = true then C.put else C
theorem vqE {k t n p : Int} {a b : Option Addr} {l1 l2 z1 z2 : Nat} : veq (.agg #[.int .u8 k, .int .u16 t, .int .u16 n, .int .i64 p, .slice a l1 z1, .slice b l2 z2]) (.agg #[.int .u8 k, .int .u16 t, .int .u16 n, .int .i64 p, .slice a l1 z1, .slice b l2 z2]) = true := by simp [veq, veqList, veqCell]
theorem prom_yes {m : Mem} {i r : Nat} {C : Ch} {x br bn wr wn : Int} {v : Value} {X : Ent} {s : Bool} (H : ChAt m i r C) (hX : EnF m v X) (hl : C.heard.length < 1000000) (c1 : C.ph = 1) (c2 : br = C.br ∧ bn = C.bn) (c3 : x ∈ C.mem) (c4 : x ∉ C.heard) {K : Value → Mem → Prop}
    (hK : ∀ m' r', ChAt m' i r' ((C.hear x).take s wr wn X).fin → Pz m m' → (∀ j, j < m.next → j ≠ i → j ≠ r → m'.get j = m.get j) → m.next < r' → K (.bool ((C.hear x).take s wr wn X).most) m') : Ret Try.prog 10 [.pointer (some ⟨i, 0, none⟩), .int .i64 x, bal br bn, bal wr wn, v, .bool s] m K := by
  obtain ⟨vm, oa, om, fa, fm, hv, ea, em, H⟩ := H
  obtain ⟨va, vb, rfl, f1, f2⟩ := hX
  obtain ⟨a1, z1, rfl⟩ := f1.is
  obtain ⟨a2, z2, rfl⟩ := f2.is
  refine ret_wp [(5, [4])] Try.func10 rfl (by decide) (by kernel_rfl) ?_
  have li := H.li
  simp only [wk6, Nat.reduceBEq, wk1, forall_eq, Nat.reduceAdd, reduceIte, Nat.reduceEqDiff, reduceCtorEq, opLen, Int.reduceLT, Int.reduceEq, opConvert, opIndexAddr, Nat.reduceLT, undef, Nat.reduceLeDiff, Array.toList, bin_cneq, bin_cne, bin_bne, bin_beq, bld76n, bld37z, wk4, wk5, wk0, fxC16d]
  obtain ⟨m0, hm0⟩ : ∃ m0, m0 = ((m.new (.cells [.int .i64 br, .int .i64 bn] 37 true)).new (.cells [.int .i64 wr, .int .i64 wn] 37 true)).new (.cells [.int .u8 X.kind, .int .u16 X.tr, .int .u16 X.nu, .int .i64 X.pc, .slice a1 X.args.length z1, .slice a2 X.mem.length z2] 45 true) := ⟨_, rfl⟩
  have x0 : Ext m m0 := by rw [hm0]; exact ((Ext.new _ _).trans (Ext.new _ _)).trans (Ext.new _ _)
  have nx0 : m0.next = m.next + 3 := by rw [hm0]; rfl
  have g0 : m0.get m.next = some (.cells [.int .i64 br, .int .i64 bn] 37 true) := by rw [hm0, new_get_ne _ (by simp only [new_next]; omega), new_get_ne _ (by simp only [new_next]; omega), new_get]
  have g1 : m0.get (m.next + 1) = some (.cells [.int .i64 wr, .int .i64 wn] 37 true) := by rw [hm0, new_get_ne _ (by simp only [new_next]; omega)]; exact new_get (m.new _) _
  have g2 : m0.get (m.next + 1 + 1) = some (.cells [.int .u8 X.kind, .int .u16 X.tr, .int .u16 X.nu, .int .i64 X.pc, .slice a1 X.args.length z1, .slice a2 X.mem.length z2] 45 true) := by rw [hm0]; exact new_get ((m.new _).new _) _
  have H0 := H.ext x0
  have gi := H0.gi
  rw [← hm0]
  clear hm0
  have lph : opLoad Try.prog 73 (.pointer (some ⟨i, 2, none⟩)) m0 = some (.int .u8 C.ph) := load_cell gi (by simp only [aggOf, Try.underlying73, Try.underlying5]) rfl
  have lbal : opLoad Try.prog 37 (.pointer (some ⟨i, 3, none⟩)) m0 = some (bal C.br C.bn) := load_agg (P := Try.prog) (t := 37) (sz := 2) (off := 3) gi (by simp only [aggOf, Try.underlying37]) ts37 (by simp)
  have lvw : opLoad Try.prog 33 (.pointer (some ⟨i, 0, none⟩)) m0 = some (viewV 0 vm) := load_agg (P := Try.prog) (t := 33) (sz := 2) (off := 0) gi (by simp only [aggOf, Try.underlying33]) ts33 (by simp)
  have l0 : ∀ M, Ext m0 M → opLoad Try.prog 37 (.pointer (some ⟨m.next, 0, none⟩)) M = some (bal br bn) := fun M y => load_agg (P := Try.prog) (t := 37) (sz := 2) (off := 0) ((y.2 m.next (by omega)).trans g0) (by simp only [aggOf, Try.underlying37]) ts37 (by simp)
  have l00 := l0 m0 (Ext.refl _)
  have d2 := decide_eq_true c2
  simp only [wk6, Nat.reduceBEq, wk1, forall_eq, Nat.reduceAdd, reduceIte, Nat.reduceEqDiff, reduceCtorEq, opLen, Int.reduceLT, Int.reduceEq, opConvert, opIndexAddr, Nat.reduceLT, undef, Nat.reduceLeDiff, Array.toList, bin_cneq, bin_cne, bin_bne, bin_beq, bld76n, bld37z, wk4, wk5, wk0, fxC16d, lph, lbal, l00, lvw, c1, d2]
  refine has_ret H0.fv.rd (by have := H0.hm; omega) fun m1 x1 => ?_
  have d3 := decide_eq_true c3
  have d4 := decide_eq_false c4
  simp only [wk6, Nat.reduceBEq, wk1, forall_eq, Nat.reduceAdd, reduceIte, Nat.reduceEqDiff, reduceCtorEq, opLen, Int.reduceLT, Int.reduceEq, opConvert, opIndexAddr, Nat.reduceLT, undef, Nat.reduceLeDiff, Array.toList, bin_cneq, bin_cne, bin_bne, bin_beq, bld76n, bld37z, wk4, wk5, wk0, fxC16d, d3]
  have H1 := H0.ext x1
  refine phas_ret ⟨_, _, _, _, _, _, _, _, H1⟩ ?_
  obtain ⟨qa, qz, rfl⟩ := H1.oh.is
  have lhv := ld20 H1.gi
  obtain ⟨a', q', m2, r2, p1, o2, lr2, lr2', zz2, f2', g2'⟩ := hear_push (x := x) H1 hl
  have sh := st20 (w := .slice a' (C.heard.length + 1) q') rfl g2'
  have x01 := x0.trans x1
  have nx1 := x1.1
  obtain ⟨m3, hm3⟩ : ∃ m3, m3 = m2.set i (.cells (chC C vm oa om fa fm (.slice a' (C.heard.length + 1) q') ea em) 76 true) := ⟨_, rfl⟩
  have g3 : m3.get i = some (.cells (chC C vm oa om fa fm (.slice a' (C.heard.length + 1) q') ea em) 76 true) := by rw [hm3]; exact set_get _ _ _
  have z23 : Pz m2 m3 := by rw [hm3]; exact Pz.set g2' _
  have k3 : ∀ j, j ≠ i → m3.get j = m2.get j := fun j hj => by rw [hm3, set_get_ne _ hj]
  have n3 : m3.next = m2.next := by rw [hm3]; rfl
  rw [← hm3] at sh
  clear hm3
  have z13 := zz2.trans z23
  have li3 : i < m3.next := by have := z13.1; have := x01.1; omega
  have nr : r2 ≠ i := by have := x01.1; omega
  have H3 : ChIs m3 i r2 (C.hear x) vm oa om fa fm (.slice a' (C.heard.length + 1) q') ea em := ⟨g3, li3, H1.fv.pz z13, H1.fo.pz z13, H1.go.pz z13, H1.ff.pz z13, H1.gf.pz z13, H1.fe.pz z13, H1.ge.pz z13, by
    have hlen : (C.hear x).heard.length = C.heard.length + 1 := by simp [Ch.hear]
    rw [hlen]
    exact o2.keep (by omega) (fun _ => k3 _ nr), H1.hm, by simp only [Ch.hear, List.length_append, List.length_cons, List.length_nil]; omega, by omega⟩
  have Z3 : Pz m m3 := x01.pz.trans z13
  have fr3 : ∀ j, j < m.next → j ≠ i → j ≠ r → m3.get j = m.get j := fun j hj h1 h2 => by rw [k3 j h1, f2' j (by have := x01.1; omega) h2, x01.2 j hj]
  have b3 : ∀ j, j = m.next ∨ j = m.next + 1 ∨ j = m.next + 1 + 1 → m3.get j = m0.get j := fun j hj => by
    have := x0.1
    have := H.lr
    rw [k3 j (by omega), f2' j (by omega) (by omega), x1.2 j (by omega)]
  simp only [wk6, Nat.reduceBEq, wk1, forall_eq, evOp, evParts, okVal, ev1, evs, evOpt, envOf, List.lookup_nil, List.size_toArray, List.length_cons, List.length_nil, List.range, List.range.loop, Nat.zero_add, Nat.reduceAdd, Bool.not_false, Bool.not_true, Bool.true_or, if_true, if_false, reduceIte, Nat.reduceEqDiff, reduceCtorEq, List.getElem?_toArray, List.getElem?_cons_zero, List.getElem?_cons_succ, guardOf, constOk, constCell, evBuiltin, opLen, List.head?_cons, foldV, min2V, max2V, Int.reduceLT, Int.reduceEq, Kend, resOf, Bool.false_eq_true, Bool.true_eq_false, IntKind.signed, IntKind.max, opConvert, opIndexAddr, aggOf, Option.some.injEq, Value.bool.injEq, exists_eq_left', true_and, forall_const, decide_eq_true_eq, decide_eq_false_iff_not, Int.natCast_nonneg, and_self, Int.toNat_natCast, Nat.mul_one, List.append_nil, beq_self_eq_true, Nat.lt_irrefl, Nat.zero_lt_succ, Nat.reduceLT, Option.bind_some, undef, opBox, Value.cells, setCells, Nat.reduceLeDiff, Array.toList, bin_cneq, bin_cne, bin_bne, bin_beq, bld76n, bld37z, wk5, wk0, fxC16d, d4, lhv, one_intP, p1, sh]
  have b1 := (b3 (m.next + 1) (by omega)).trans g1
  have b2 := (b3 (m.next + 1 + 1) (by omega)).trans g2
  have lw : opLoad Try.prog 37 (.pointer (some ⟨m.next + 1, 0, none⟩)) m3 = some (bal wr wn) := load_agg (P := Try.prog) (t := 37) (sz := 2) (off := 0) b1 (by simp only [aggOf, Try.underlying37]) ts37 (by simp)
  have l19 := ld19 g3
  have l11 := ld11 g3
  cases s with
  | false =>
    obtain ⟨D, hD⟩ : ∃ D, D = (C.hear x).take false wr wn X := ⟨_, rfl⟩
    have eD : D = C.hear x := by rw [hD, Ch.take, Bool.false_and, if_neg (by decide)]
    rw [← hD] at hK
    rw [← eD] at H3
    have H4 := H3
    have Z4 := Z3
    have F4 := fr3
    have R2 : m.next < r2 := by have := x01.1; omega
    simp only [wk6, Nat.reduceBEq, wk1, forall_eq, evOp, evParts, okVal, ev1, evs, evOpt, envOf, List.lookup_nil, List.size_toArray, List.length_cons, List.length_nil, List.range, List.range.loop, Nat.zero_add, Nat.reduceAdd, Bool.not_false, Bool.not_true, Bool.true_or, if_true, if_false, reduceIte, Nat.reduceEqDiff, reduceCtorEq, List.getElem?_toArray, List.getElem?_cons_zero, List.getElem?_cons_succ, guardOf, constOk, constCell, evBuiltin, opLen, List.head?_cons, foldV, min2V, max2V, Int.reduceLT, Int.reduceEq, Kend, resOf, Bool.false_eq_true, Bool.true_eq_false, IntKind.signed, IntKind.max, opConvert, opIndexAddr, aggOf, Option.some.injEq, Value.bool.injEq, exists_eq_left', true_and, forall_const, decide_eq_true_eq, decide_eq_false_iff_not, Int.natCast_nonneg, and_self, Int.toNat_natCast, Nat.mul_one, List.append_nil, beq_self_eq_true, Nat.lt_irrefl, Nat.zero_lt_succ, Nat.reduceLT, Option.bind_some, undef, opBox, Value.cells, setCells, Nat.reduceLeDiff, Array.toList, bin_cneq, bin_cne, bin_bne, bin_beq, bld76n, bld37z, wk5, wk0, fxC16d]
    obtain ⟨m4, hm4⟩ : ∃ m4, m4 = m3 := ⟨_, rfl⟩
    rw [← hm4] at H4 Z4 F4 ⊢
    obtain ⟨fA, hfA⟩ : ∃ fA, fA = fa := ⟨_, rfl⟩
    obtain ⟨fM, hfM⟩ : ∃ fM, fM = fm := ⟨_, rfl⟩
    obtain ⟨hV, hhV⟩ : ∃ hV, hV = Value.slice a' (C.heard.length + 1) q' := ⟨_, rfl⟩
    rw [← hfA, ← hfM, ← hhV] at H4
    have lvw4 := ld0 H4.gi
    have lhv4 := ld20 H4.gi
    simp only [wk6, Nat.reduceBEq, wk1, forall_eq, evOp, evParts, okVal, ev1, evs, evOpt, envOf, List.lookup_nil, List.size_toArray, List.length_cons, List.length_nil, List.range, List.range.loop, Nat.zero_add, Nat.reduceAdd, Bool.not_false, Bool.not_true, Bool.true_or, if_true, if_false, reduceIte, Nat.reduceEqDiff, reduceCtorEq, List.getElem?_toArray, List.getElem?_cons_zero, List.getElem?_cons_succ, guardOf, constOk, constCell, evBuiltin, opLen, List.head?_cons, foldV, min2V, max2V, Int.reduceLT, Int.reduceEq, Kend, resOf, Bool.false_eq_true, Bool.true_eq_false, IntKind.signed, IntKind.max, opConvert, opIndexAddr, aggOf, Option.some.injEq, Value.bool.injEq, exists_eq_left', true_and, forall_const, decide_eq_true_eq, decide_eq_false_iff_not, Int.natCast_nonneg, and_self, Int.toNat_natCast, Nat.mul_one, List.append_nil, beq_self_eq_true, Nat.lt_irrefl, Nat.zero_lt_succ, Nat.reduceLT, Option.bind_some, undef, opBox, Value.cells, setCells, Nat.reduceLeDiff, Array.toList, bin_cneq, bin_cne, bin_bne, bin_beq, bld76n, bld37z, wk5, wk0, fxC16d, lvw4, lhv4]
    refine most_ret H4.fv.rd H4.oh.rd (by have := H4.hm; omega) (by have := H4.hh; omega) fun m5 x5 => ?_
    have H5 := H4.ext x5
    have F5 : ∀ j, j < m.next → j ≠ i → j ≠ r → m5.get j = m.get j := fun j hj h1 h2 => (x5.2 j (by have := Z4.1; omega)).trans (F4 j hj h1 h2)
    cases hmo : decide (D.mem.length < 2 * manyIn D.mem D.heard) with
    | false =>
      have e1 : D.most = false := hmo
      have e2 : D.fin = D := by rw [Ch.fin, e1, if_neg (by decide)]
      simp only [wk6, Nat.reduceBEq, wk1, forall_eq, Nat.reduceAdd, reduceIte, Nat.reduceEqDiff, reduceCtorEq, opLen, Int.reduceLT, Int.reduceEq, opConvert, opIndexAddr, opLoad, Nat.reduceLT, undef, Nat.reduceLeDiff, Array.toList, bin_cneq, bin_cne, bin_bne, bin_beq, bld76n, bld37z, wk4, wk5, wk0, fxC16d, hmo]
      rw [e1] at hK
      exact hK _ r2 (by rw [e2]; exact ⟨_, _, _, _, _, _, _, _, H5⟩) (Z4.trans x5.pz) F5 (by have := R2; omega)
    | true =>
      have e1 : D.most = true := hmo
      have lown := ld5 H5.gi
      have s2 := st2 (p := 2) H5.gi
      have s20 := st20 (w := .slice none 0 0) rfl (set_get m5 i (.cells (chC { D with ph := 2 } vm oa om fA fM hV ea em) 76 true))
      have s21 := st21 (X := D.own) (va := oa) (vb := om) (set_get (m5.set i (.cells (chC { D with ph := 2 } vm oa om fA fM hV ea em) 76 true)) i (.cells (chC { D with ph := 2 } vm oa om fA fM (.slice none 0 0) ea em) 76 true))
      rw [set_set] at s21 s20
      rw [set_set] at s21
      have l19 := ld19 (set_get m5 i (.cells (chC { D with ph := 2, ent := D.own } vm oa om fA fM (.slice none 0 0) oa om) 76 true))
      have Z6 : Pz m5 (m5.set i (.cells (chC { D with ph := 2, ent := D.own } vm oa om fA fM (.slice none 0 0) oa om) 76 true)) := Pz.set H5.gi _
      have fr6 : ∀ b, ∀ j, j < m.next → j ≠ i → j ≠ r → (m5.set i b).get j = m.get j := fun b j hj h1 h2 => by rw [set_get_ne _ h1, F5 j hj h1 h2]
      have sd : ({ D with ph := 2 } : Ch).s = D.s := rfl
      rw [e1] at hK
      cases hs : D.s with
      | false =>
        have e2 : D.fin = { D with ph := 2, heard := [], ent := D.own } := by rw [Ch.fin, e1, if_pos rfl, Ch.put, hs, if_neg (by decide)]
        rw [e2] at hK
        have l19' := l19.trans (congrArg (fun b => some (Value.bool b)) hs)
        simp only [wk6, Nat.reduceBEq, wk1, forall_eq, evOp, evParts, okVal, ev1, evs, evOpt, envOf, List.lookup_nil, List.size_toArray, List.length_cons, List.length_nil, List.range, List.range.loop, Nat.zero_add, Nat.reduceAdd, Bool.not_false, Bool.not_true, Bool.true_or, if_true, if_false, reduceIte, Nat.reduceEqDiff, reduceCtorEq, List.getElem?_toArray, List.getElem?_cons_zero, List.getElem?_cons_succ, guardOf, constOk, constCell, evBuiltin, opLen, List.head?_cons, foldV, min2V, max2V, Int.reduceLT, Int.reduceEq, Kend, resOf, Bool.false_eq_true, Bool.true_eq_false, IntKind.signed, IntKind.max, opConvert, opIndexAddr, aggOf, Option.some.injEq, Value.bool.injEq, exists_eq_left', true_and, forall_const, decide_eq_true_eq, decide_eq_false_iff_not, Int.natCast_nonneg, and_self, Int.toNat_natCast, Nat.mul_one, List.append_nil, beq_self_eq_true, Nat.lt_irrefl, Nat.zero_lt_succ, Nat.reduceLT, Option.bind_some, undef, opBox, Value.cells, setCells, Nat.reduceLeDiff, Array.toList, bin_cneq, bin_cne, bin_bne, bin_beq, bld76n, bld37z, wk5, wk0, fxC16d, hmo, lown, s2, s20, s21, l19']
        exact hK _ r2 ⟨_, _, _, _, _, _, _, _, set_get _ _ _, H5.li, H5.fv.pz Z6, H5.fo.pz Z6, H5.go.pz Z6, H5.ff.pz Z6, H5.gf.pz Z6, H5.fo.pz Z6, H5.go.pz Z6, OwnI.nil, H5.hm, show 0 < 2 ^ 20 by decide, H5.lr⟩ ((Z4.trans x5.pz).trans Z6) (fr6 _) (by have := R2; omega)
      | true =>
        have e2 : D.fin = { D with ph := 2, heard := [], ent := D.found } := by rw [Ch.fin, e1, if_pos rfl, Ch.put, hs, if_pos rfl]
        rw [e2] at hK
        have l13 := ld13 (set_get m5 i (.cells (chC { D with ph := 2, ent := D.own } vm oa om fA fM (.slice none 0 0) oa om) 76 true))
        have s21' := st21 (X := D.found) (va := fA) (vb := fM) (set_get m5 i (.cells (chC { D with ph := 2, ent := D.own } vm oa om fA fM (.slice none 0 0) oa om) 76 true))
        rw [set_set] at s21'
        have l19' := l19.trans (congrArg (fun b => some (Value.bool b)) hs)
        simp only [wk6, Nat.reduceBEq, wk1, forall_eq, evOp, evParts, okVal, ev1, evs, evOpt, envOf, List.lookup_nil, List.size_toArray, List.length_cons, List.length_nil, List.range, List.range.loop, Nat.zero_add, Nat.reduceAdd, Bool.not_false, Bool.not_true, Bool.true_or, if_true, if_false, reduceIte, Nat.reduceEqDiff, reduceCtorEq, List.getElem?_toArray, List.getElem?_cons_zero, List.getElem?_cons_succ, guardOf, constOk, constCell, evBuiltin, opLen, List.head?_cons, foldV, min2V, max2V, Int.reduceLT, Int.reduceEq, Kend, resOf, Bool.false_eq_true, Bool.true_eq_false, IntKind.signed, IntKind.max, opConvert, opIndexAddr, aggOf, Option.some.injEq, Value.bool.injEq, exists_eq_left', true_and, forall_const, decide_eq_true_eq, decide_eq_false_iff_not, Int.natCast_nonneg, and_self, Int.toNat_natCast, Nat.mul_one, List.append_nil, beq_self_eq_true, Nat.lt_irrefl, Nat.zero_lt_succ, Nat.reduceLT, Option.bind_some, undef, opBox, Value.cells, setCells, Nat.reduceLeDiff, Array.toList, bin_cneq, bin_cne, bin_bne, bin_beq, bld76n, bld37z, wk5, wk0, fxC16d, hmo, lown, s2, s20, s21, l19', l13, s21']
        have Z7 : Pz m5 (m5.set i (.cells (chC { D with ph := 2, ent := D.found } vm oa om fA fM (.slice none 0 0) fA fM) 76 true)) := Pz.set H5.gi _
        exact hK _ r2 ⟨_, _, _, _, _, _, _, _, set_get _ _ _, H5.li, H5.fv.pz Z7, H5.fo.pz Z7, H5.go.pz Z7, H5.ff.pz Z7, H5.gf.pz Z7, H5.ff.pz Z7, H5.gf.pz Z7, OwnI.nil, H5.hm, show 0 < 2 ^ 20 by decide, H5.lr⟩ ((Z4.trans x5.pz).trans Z7) (fr6 _) (by have := R2; omega)
  | true =>
    cases hs0 : C.s with
    | false =>
      have hcc : (true && (!(C.hear x).s || lessB (C.hear x).xr (C.hear x).xn wr wn)) = true := by
        have : (C.hear x).s = false := hs0
        rw [this]; rfl
      have l19' := l19.trans (congrArg (fun b => some (Value.bool b)) hs0)
      simp only [wk6, Nat.reduceBEq, wk1, forall_eq, evOp, evParts, okVal, ev1, evs, evOpt, envOf, List.lookup_nil, List.size_toArray, List.length_cons, List.length_nil, List.range, List.range.loop, Nat.zero_add, Nat.reduceAdd, Bool.not_false, Bool.not_true, Bool.true_or, if_true, if_false, reduceIte, Nat.reduceEqDiff, reduceCtorEq, List.getElem?_toArray, List.getElem?_cons_zero, List.getElem?_cons_succ, guardOf, constOk, constCell, evBuiltin, opLen, List.head?_cons, foldV, min2V, max2V, Int.reduceLT, Int.reduceEq, Kend, resOf, Bool.false_eq_true, Bool.true_eq_false, IntKind.signed, IntKind.max, opConvert, opIndexAddr, aggOf, Option.some.injEq, Value.bool.injEq, exists_eq_left', true_and, forall_const, decide_eq_true_eq, decide_eq_false_iff_not, Int.natCast_nonneg, and_self, Int.toNat_natCast, Nat.mul_one, List.append_nil, beq_self_eq_true, Nat.lt_irrefl, Nat.zero_lt_succ, Nat.reduceLT, Option.bind_some, undef, opBox, Value.cells, setCells, Nat.reduceLeDiff, Array.toList, bin_cneq, bin_cne, bin_bne, bin_beq, bld76n, bld37z, wk5, wk0, fxC16d, l19']
      obtain ⟨mA, hmA⟩ : ∃ mA, mA = m3 := ⟨_, rfl⟩
      have HA := H3
      have ZA := Z3
      have FA := fr3
      have bA1 := b1
      have bA2 := b2
      rw [← hmA] at HA ZA FA bA1 bA2 ⊢
      have lwA : opLoad Try.prog 37 (.pointer (some ⟨m.next + 1, 0, none⟩)) mA = some (bal wr wn) := load_agg (P := Try.prog) (t := 37) (sz := 2) (off := 0) bA1 (by simp only [aggOf, Try.underlying37]) ts37 (by simp)
      have leA : opLoad Try.prog 45 (.pointer (some ⟨m.next + 1 + 1, 0, none⟩)) mA = some (entW X.kind X.tr X.nu X.pc (.slice a1 X.args.length z1) (.slice a2 X.mem.length z2)) := load_agg (P := Try.prog) (t := 45) (sz := 6) (off := 0) bA2 (by simp only [aggOf, Try.underlying45]) ts45 (by simp)
      have s11 := st11 (p := wr) (q := wn) HA.gi
      have s13 := st13 (X := X) (va := .slice a1 X.args.length z1) (vb := .slice a2 X.mem.length z2) (set_get mA i (.cells (chC { C.hear x with xr := wr, xn := wn } vm oa om fa fm (.slice a' (C.heard.length + 1) q') ea em) 76 true))
      have s19 := st19 (b := true) (set_get mA i (.cells (chC { C.hear x with xr := wr, xn := wn, found := X } vm oa om (.slice a1 X.args.length z1) (.slice a2 X.mem.length z2) (.slice a' (C.heard.length + 1) q') ea em) 76 true))
      rw [set_set] at s13 s19
      have ni2 : ¬ m.next + 2 = i := by omega
      refine Loose.by (fun y => y = m.next + 1 + 1) ?_
      simp only [wk6, Nat.reduceBEq, wk1, forall_eq, evOp, evParts, okVal, ev1, evs, evOpt, envOf, List.lookup_nil, List.size_toArray, List.length_cons, List.length_nil, List.range, List.range.loop, Nat.zero_add, Nat.reduceAdd, Bool.not_false, Bool.not_true, Bool.true_or, if_true, if_false, reduceIte, Nat.reduceEqDiff, reduceCtorEq, List.getElem?_toArray, List.getElem?_cons_zero, List.getElem?_cons_succ, guardOf, constOk, constCell, evBuiltin, opLen, List.head?_cons, foldV, min2V, max2V, Int.reduceLT, Int.reduceEq, Kend, resOf, Bool.false_eq_true, Bool.true_eq_false, IntKind.signed, IntKind.max, opConvert, opIndexAddr, aggOf, Option.some.injEq, Value.bool.injEq, exists_eq_left', true_and, forall_const, decide_eq_true_eq, decide_eq_false_iff_not, Int.natCast_nonneg, and_self, Int.toNat_natCast, Nat.mul_one, List.append_nil, beq_self_eq_true, Nat.lt_irrefl, Nat.zero_lt_succ, Nat.reduceLT, Option.bind_some, undef, opBox, Value.cells, setCells, Nat.reduceLeDiff, Array.toList, bin_cneq, bin_cne, bin_bne, bin_beq, bld76n, bld37z, wk5, wk0, fxC16d, lwA, leA, s11, s13, s19, vqE, ni2]
      obtain ⟨m4, hm4⟩ : ∃ m4, m4 = mA.set i (.cells (chC { C.hear x with xr := wr, xn := wn, found := X, s := true } vm oa om (.slice a1 X.args.length z1) (.slice a2 X.mem.length z2) (.slice a' (C.heard.length + 1) q') ea em) 76 true) := ⟨_, rfl⟩
      have Z34 : Pz mA m4 := by rw [hm4]; exact Pz.set HA.gi _
      have g4 : m4.get i = some (.cells (chC { C.hear x with xr := wr, xn := wn, found := X, s := true } vm oa om (.slice a1 X.args.length z1) (.slice a2 X.mem.length z2) (.slice a' (C.heard.length + 1) q') ea em) 76 true) := by rw [hm4]; exact set_get _ _ _
      have k4 : ∀ j, j ≠ i → m4.get j = mA.get j := fun j hj => by rw [hm4, set_get_ne _ hj]
      have n4 : m4.next = mA.next := by rw [hm4]; rfl
      rw [← hm4]
      clear hm4
      have Z4 := ZA.trans Z34
      have F4 : ∀ j, j < m.next → j ≠ i → j ≠ r → m4.get j = m.get j := fun j hj h1 h2 => (k4 j h1).trans (FA j hj h1 h2)
      obtain ⟨D, hD⟩ : ∃ D, D = (C.hear x).take true wr wn X := ⟨_, rfl⟩
      have eD : D = (C.hear x).took wr wn X := by rw [hD, Ch.take, if_pos hcc]
      rw [← hD] at hK
      have hlen : (C.hear x).heard.length = C.heard.length + 1 := by simp [Ch.hear]
      have oA := HA.oh
      have H4 : ChIs m4 i r2 ((C.hear x).took wr wn X) vm oa om (.slice a1 X.args.length z1) (.slice a2 X.mem.length z2) (.slice a' (C.heard.length + 1) q') ea em := ⟨g4, by have := HA.li; omega, HA.fv.pz Z34, HA.fo.pz Z34, HA.go.pz Z34, f1.pz Z4, f2.pz Z4, HA.fe.pz Z34, HA.ge.pz Z34, oA.keep (by omega) (fun _ => k4 _ nr), HA.hm, HA.hh, by have := HA.lr; omega⟩
      rw [← eD] at H4
      have R2 : m.next < r2 := by have := x01.1; omega
      obtain ⟨fA, hfA⟩ : ∃ fA, fA = Value.slice a1 X.args.length z1 := ⟨_, rfl⟩
      obtain ⟨fM, hfM⟩ : ∃ fM, fM = Value.slice a2 X.mem.length z2 := ⟨_, rfl⟩
      obtain ⟨hV, hhV⟩ : ∃ hV, hV = Value.slice a' (C.heard.length + 1) q' := ⟨_, rfl⟩
      rw [← hfA, ← hfM, ← hhV] at H4
      have lvw4 := ld0 H4.gi
      have lhv4 := ld20 H4.gi
      simp only [wk6, Nat.reduceBEq, wk1, forall_eq, evOp, evParts, okVal, ev1, evs, evOpt, envOf, List.lookup_nil, List.size_toArray, List.length_cons, List.length_nil, List.range, List.range.loop, Nat.zero_add, Nat.reduceAdd, Bool.not_false, Bool.not_true, Bool.true_or, if_true, if_false, reduceIte, Nat.reduceEqDiff, reduceCtorEq, List.getElem?_toArray, List.getElem?_cons_zero, List.getElem?_cons_succ, guardOf, constOk, constCell, evBuiltin, opLen, List.head?_cons, foldV, min2V, max2V, Int.reduceLT, Int.reduceEq, Kend, resOf, Bool.false_eq_true, Bool.true_eq_false, IntKind.signed, IntKind.max, opConvert, opIndexAddr, aggOf, Option.some.injEq, Value.bool.injEq, exists_eq_left', true_and, forall_const, decide_eq_true_eq, decide_eq_false_iff_not, Int.natCast_nonneg, and_self, Int.toNat_natCast, Nat.mul_one, List.append_nil, beq_self_eq_true, Nat.lt_irrefl, Nat.zero_lt_succ, Nat.reduceLT, Option.bind_some, undef, opBox, Value.cells, setCells, Nat.reduceLeDiff, Array.toList, bin_cneq, bin_cne, bin_bne, bin_beq, bld76n, bld37z, wk5, wk0, fxC16d, lvw4, lhv4]
      refine most_ret H4.fv.rd H4.oh.rd (by have := H4.hm; omega) (by have := H4.hh; omega) fun m5 x5 => ?_
      have H5 := H4.ext x5
      have F5 : ∀ j, j < m.next → j ≠ i → j ≠ r → m5.get j = m.get j := fun j hj h1 h2 => (x5.2 j (by have := Z4.1; omega)).trans (F4 j hj h1 h2)
      cases hmo : decide (D.mem.length < 2 * manyIn D.mem D.heard) with
      | false =>
        have e1 : D.most = false := hmo
        have e2 : D.fin = D := by rw [Ch.fin, e1, if_neg (by decide)]
        simp only [wk6, Nat.reduceBEq, wk1, forall_eq, Nat.reduceAdd, reduceIte, Nat.reduceEqDiff, reduceCtorEq, opLen, Int.reduceLT, Int.reduceEq, opConvert, opIndexAddr, opLoad, Nat.reduceLT, undef, Nat.reduceLeDiff, Array.toList, bin_cneq, bin_cne, bin_bne, bin_beq, bld76n, bld37z, wk4, wk5, wk0, fxC16d, hmo]
        rw [e1] at hK
        exact hK _ r2 (by rw [e2]; exact ⟨_, _, _, _, _, _, _, _, H5⟩) (Z4.trans x5.pz) F5 (by have := R2; omega)
      | true =>
        have e1 : D.most = true := hmo
        have lown := ld5 H5.gi
        have s2 := st2 (p := 2) H5.gi
        have s20 := st20 (w := .slice none 0 0) rfl (set_get m5 i (.cells (chC { D with ph := 2 } vm oa om fA fM hV ea em) 76 true))
        have s21 := st21 (X := D.own) (va := oa) (vb := om) (set_get (m5.set i (.cells (chC { D with ph := 2 } vm oa om fA fM hV ea em) 76 true)) i (.cells (chC { D with ph := 2 } vm oa om fA fM (.slice none 0 0) ea em) 76 true))
        rw [set_set] at s21 s20
        rw [set_set] at s21
        have l19 := ld19 (set_get m5 i (.cells (chC { D with ph := 2, ent := D.own } vm oa om fA fM (.slice none 0 0) oa om) 76 true))
        have Z6 : Pz m5 (m5.set i (.cells (chC { D with ph := 2, ent := D.own } vm oa om fA fM (.slice none 0 0) oa om) 76 true)) := Pz.set H5.gi _
        have fr6 : ∀ b, ∀ j, j < m.next → j ≠ i → j ≠ r → (m5.set i b).get j = m.get j := fun b j hj h1 h2 => by rw [set_get_ne _ h1, F5 j hj h1 h2]
        have sd : ({ D with ph := 2 } : Ch).s = D.s := rfl
        rw [e1] at hK
        cases hs : D.s with
        | false =>
          have e2 : D.fin = { D with ph := 2, heard := [], ent := D.own } := by rw [Ch.fin, e1, if_pos rfl, Ch.put, hs, if_neg (by decide)]
          rw [e2] at hK
          have l19' := l19.trans (congrArg (fun b => some (Value.bool b)) hs)
          simp only [wk6, Nat.reduceBEq, wk1, forall_eq, evOp, evParts, okVal, ev1, evs, evOpt, envOf, List.lookup_nil, List.size_toArray, List.length_cons, List.length_nil, List.range, List.range.loop, Nat.zero_add, Nat.reduceAdd, Bool.not_false, Bool.not_true, Bool.true_or, if_true, if_false, reduceIte, Nat.reduceEqDiff, reduceCtorEq, List.getElem?_toArray, List.getElem?_cons_zero, List.getElem?_cons_succ, guardOf, constOk, constCell, evBuiltin, opLen, List.head?_cons, foldV, min2V, max2V, Int.reduceLT, Int.reduceEq, Kend, resOf, Bool.false_eq_true, Bool.true_eq_false, IntKind.signed, IntKind.max, opConvert, opIndexAddr, aggOf, Option.some.injEq, Value.bool.injEq, exists_eq_left', true_and, forall_const, decide_eq_true_eq, decide_eq_false_iff_not, Int.natCast_nonneg, and_self, Int.toNat_natCast, Nat.mul_one, List.append_nil, beq_self_eq_true, Nat.lt_irrefl, Nat.zero_lt_succ, Nat.reduceLT, Option.bind_some, undef, opBox, Value.cells, setCells, Nat.reduceLeDiff, Array.toList, bin_cneq, bin_cne, bin_bne, bin_beq, bld76n, bld37z, wk5, wk0, fxC16d, hmo, lown, s2, s20, s21, l19']
          exact hK _ r2 ⟨_, _, _, _, _, _, _, _, set_get _ _ _, H5.li, H5.fv.pz Z6, H5.fo.pz Z6, H5.go.pz Z6, H5.ff.pz Z6, H5.gf.pz Z6, H5.fo.pz Z6, H5.go.pz Z6, OwnI.nil, H5.hm, show 0 < 2 ^ 20 by decide, H5.lr⟩ ((Z4.trans x5.pz).trans Z6) (fr6 _) (by have := R2; omega)
        | true =>
          have e2 : D.fin = { D with ph := 2, heard := [], ent := D.found } := by rw [Ch.fin, e1, if_pos rfl, Ch.put, hs, if_pos rfl]
          rw [e2] at hK
          have l13 := ld13 (set_get m5 i (.cells (chC { D with ph := 2, ent := D.own } vm oa om fA fM (.slice none 0 0) oa om) 76 true))
          have s21' := st21 (X := D.found) (va := fA) (vb := fM) (set_get m5 i (.cells (chC { D with ph := 2, ent := D.own } vm oa om fA fM (.slice none 0 0) oa om) 76 true))
          rw [set_set] at s21'
          have l19' := l19.trans (congrArg (fun b => some (Value.bool b)) hs)
          simp only [wk6, Nat.reduceBEq, wk1, forall_eq, evOp, evParts, okVal, ev1, evs, evOpt, envOf, List.lookup_nil, List.size_toArray, List.length_cons, List.length_nil, List.range, List.range.loop, Nat.zero_add, Nat.reduceAdd, Bool.not_false, Bool.not_true, Bool.true_or, if_true, if_false, reduceIte, Nat.reduceEqDiff, reduceCtorEq, List.getElem?_toArray, List.getElem?_cons_zero, List.getElem?_cons_succ, guardOf, constOk, constCell, evBuiltin, opLen, List.head?_cons, foldV, min2V, max2V, Int.reduceLT, Int.reduceEq, Kend, resOf, Bool.false_eq_true, Bool.true_eq_false, IntKind.signed, IntKind.max, opConvert, opIndexAddr, aggOf, Option.some.injEq, Value.bool.injEq, exists_eq_left', true_and, forall_const, decide_eq_true_eq, decide_eq_false_iff_not, Int.natCast_nonneg, and_self, Int.toNat_natCast, Nat.mul_one, List.append_nil, beq_self_eq_true, Nat.lt_irrefl, Nat.zero_lt_succ, Nat.reduceLT, Option.bind_some, undef, opBox, Value.cells, setCells, Nat.reduceLeDiff, Array.toList, bin_cneq, bin_cne, bin_bne, bin_beq, bld76n, bld37z, wk5, wk0, fxC16d, hmo, lown, s2, s20, s21, l19', l13, s21']
          have Z7 : Pz m5 (m5.set i (.cells (chC { D with ph := 2, ent := D.found } vm oa om fA fM (.slice none 0 0) fA fM) 76 true)) := Pz.set H5.gi _
          exact hK _ r2 ⟨_, _, _, _, _, _, _, _, set_get _ _ _, H5.li, H5.fv.pz Z7, H5.fo.pz Z7, H5.go.pz Z7, H5.ff.pz Z7, H5.gf.pz Z7, H5.ff.pz Z7, H5.gf.pz Z7, OwnI.nil, H5.hm, show 0 < 2 ^ 20 by decide, H5.lr⟩ ((Z4.trans x5.pz).trans Z7) (fr6 _) (by have := R2; omega)
    | true =>
      have l19' := l19.trans (congrArg (fun b => some (Value.bool b)) hs0)
      simp only [wk6, Nat.reduceBEq, wk1, forall_eq, evOp, evParts, okVal, ev1, evs, evOpt, envOf, List.lookup_nil, List.size_toArray, List.length_cons, List.length_nil, List.range, List.range.loop, Nat.zero_add, Nat.reduceAdd, Bool.not_false, Bool.not_true, Bool.true_or, if_true, if_false, reduceIte, Nat.reduceEqDiff, reduceCtorEq, List.getElem?_toArray, List.getElem?_cons_zero, List.getElem?_cons_succ, guardOf, constOk, constCell, evBuiltin, opLen, List.head?_cons, foldV, min2V, max2V, Int.reduceLT, Int.reduceEq, Kend, resOf, Bool.false_eq_true, Bool.true_eq_false, IntKind.signed, IntKind.max, opConvert, opIndexAddr, aggOf, Option.some.injEq, Value.bool.injEq, exists_eq_left', true_and, forall_const, decide_eq_true_eq, decide_eq_false_iff_not, Int.natCast_nonneg, and_self, Int.toNat_natCast, Nat.mul_one, List.append_nil, beq_self_eq_true, Nat.lt_irrefl, Nat.zero_lt_succ, Nat.reduceLT, Option.bind_some, undef, opBox, Value.cells, setCells, Nat.reduceLeDiff, Array.toList, bin_cneq, bin_cne, bin_bne, bin_beq, bld76n, bld37z, wk5, wk0, fxC16d, l19', l11, lw]
      refine less_ret fun mA xA => ?_
      have HA := H3.ext xA
      have ZA := Z3.trans xA.pz
      have FA : ∀ j, j < m.next → j ≠ i → j ≠ r → mA.get j = m.get j := fun j hj h1 h2 => (xA.2 j (by have := Z3.1; omega)).trans (fr3 j hj h1 h2)
      have nx3 := z13.1
      have bA1 := (xA.2 (m.next + 1) (by have := x1.1; omega)).trans b1
      have bA2 := (xA.2 (m.next + 1 + 1) (by have := x1.1; omega)).trans b2
      cases hle : lessB C.xr C.xn wr wn with
      | true =>
        have hcc : (true && (!(C.hear x).s || lessB (C.hear x).xr (C.hear x).xn wr wn)) = true := by
          have : lessB (C.hear x).xr (C.hear x).xn wr wn = true := hle
          rw [this, Bool.or_true]; rfl
        simp only [wk6, Nat.reduceBEq, wk1, forall_eq, evOp, evParts, okVal, ev1, evs, evOpt, envOf, List.lookup_nil, List.size_toArray, List.length_cons, List.length_nil, List.range, List.range.loop, Nat.zero_add, Nat.reduceAdd, Bool.not_false, Bool.not_true, Bool.true_or, if_true, if_false, reduceIte, Nat.reduceEqDiff, reduceCtorEq, List.getElem?_toArray, List.getElem?_cons_zero, List.getElem?_cons_succ, guardOf, constOk, constCell, evBuiltin, opLen, List.head?_cons, foldV, min2V, max2V, Int.reduceLT, Int.reduceEq, Kend, resOf, Bool.false_eq_true, Bool.true_eq_false, IntKind.signed, IntKind.max, opConvert, opIndexAddr, aggOf, Option.some.injEq, Value.bool.injEq, exists_eq_left', true_and, forall_const, decide_eq_true_eq, decide_eq_false_iff_not, Int.natCast_nonneg, and_self, Int.toNat_natCast, Nat.mul_one, List.append_nil, beq_self_eq_true, Nat.lt_irrefl, Nat.zero_lt_succ, Nat.reduceLT, Option.bind_some, undef, opBox, Value.cells, setCells, Nat.reduceLeDiff, Array.toList, bin_cneq, bin_cne, bin_bne, bin_beq, bld76n, bld37z, wk5, wk0, fxC16d]
        have lwA : opLoad Try.prog 37 (.pointer (some ⟨m.next + 1, 0, none⟩)) mA = some (bal wr wn) := load_agg (P := Try.prog) (t := 37) (sz := 2) (off := 0) bA1 (by simp only [aggOf, Try.underlying37]) ts37 (by simp)
        have leA : opLoad Try.prog 45 (.pointer (some ⟨m.next + 1 + 1, 0, none⟩)) mA = some (entW X.kind X.tr X.nu X.pc (.slice a1 X.args.length z1) (.slice a2 X.mem.length z2)) := load_agg (P := Try.prog) (t := 45) (sz := 6) (off := 0) bA2 (by simp only [aggOf, Try.underlying45]) ts45 (by simp)
        have s11 := st11 (p := wr) (q := wn) HA.gi
        have s13 := st13 (X := X) (va := .slice a1 X.args.length z1) (vb := .slice a2 X.mem.length z2) (set_get mA i (.cells (chC { C.hear x with xr := wr, xn := wn } vm oa om fa fm (.slice a' (C.heard.length + 1) q') ea em) 76 true))
        have s19 := st19 (b := true) (set_get mA i (.cells (chC { C.hear x with xr := wr, xn := wn, found := X } vm oa om (.slice a1 X.args.length z1) (.slice a2 X.mem.length z2) (.slice a' (C.heard.length + 1) q') ea em) 76 true))
        rw [set_set] at s13 s19
        have ni2 : ¬ m.next + 2 = i := by omega
        refine Loose.by (fun y => y = m.next + 1 + 1) ?_
        simp only [wk6, Nat.reduceBEq, wk1, forall_eq, evOp, evParts, okVal, ev1, evs, evOpt, envOf, List.lookup_nil, List.size_toArray, List.length_cons, List.length_nil, List.range, List.range.loop, Nat.zero_add, Nat.reduceAdd, Bool.not_false, Bool.not_true, Bool.true_or, if_true, if_false, reduceIte, Nat.reduceEqDiff, reduceCtorEq, List.getElem?_toArray, List.getElem?_cons_zero, List.getElem?_cons_succ, guardOf, constOk, constCell, evBuiltin, opLen, List.head?_cons, foldV, min2V, max2V, Int.reduceLT, Int.reduceEq, Kend, resOf, Bool.false_eq_true, Bool.true_eq_false, IntKind.signed, IntKind.max, opConvert, opIndexAddr, aggOf, Option.some.injEq, Value.bool.injEq, exists_eq_left', true_and, forall_const, decide_eq_true_eq, decide_eq_false_iff_not, Int.natCast_nonneg, and_self, Int.toNat_natCast, Nat.mul_one, List.append_nil, beq_self_eq_true, Nat.lt_irrefl, Nat.zero_lt_succ, Nat.reduceLT, Option.bind_some, undef, opBox, Value.cells, setCells, Nat.reduceLeDiff, Array.toList, bin_cneq, bin_cne, bin_bne, bin_beq, bld76n, bld37z, wk5, wk0, fxC16d, lwA, leA, s11, s13, s19, vqE, ni2]
        obtain ⟨m4, hm4⟩ : ∃ m4, m4 = mA.set i (.cells (chC { C.hear x with xr := wr, xn := wn, found := X, s := true } vm oa om (.slice a1 X.args.length z1) (.slice a2 X.mem.length z2) (.slice a' (C.heard.length + 1) q') ea em) 76 true) := ⟨_, rfl⟩
        have Z34 : Pz mA m4 := by rw [hm4]; exact Pz.set HA.gi _
        have g4 : m4.get i = some (.cells (chC { C.hear x with xr := wr, xn := wn, found := X, s := true } vm oa om (.slice a1 X.args.length z1) (.slice a2 X.mem.length z2) (.slice a' (C.heard.length + 1) q') ea em) 76 true) := by rw [hm4]; exact set_get _ _ _
        have k4 : ∀ j, j ≠ i → m4.get j = mA.get j := fun j hj => by rw [hm4, set_get_ne _ hj]
        have n4 : m4.next = mA.next := by rw [hm4]; rfl
        rw [← hm4]
        clear hm4
        have Z4 := ZA.trans Z34
        have F4 : ∀ j, j < m.next → j ≠ i → j ≠ r → m4.get j = m.get j := fun j hj h1 h2 => (k4 j h1).trans (FA j hj h1 h2)
        obtain ⟨D, hD⟩ : ∃ D, D = (C.hear x).take true wr wn X := ⟨_, rfl⟩
        have eD : D = (C.hear x).took wr wn X := by rw [hD, Ch.take, if_pos hcc]
        rw [← hD] at hK
        have hlen : (C.hear x).heard.length = C.heard.length + 1 := by simp [Ch.hear]
        have oA := HA.oh
        have H4 : ChIs m4 i r2 ((C.hear x).took wr wn X) vm oa om (.slice a1 X.args.length z1) (.slice a2 X.mem.length z2) (.slice a' (C.heard.length + 1) q') ea em := ⟨g4, by have := HA.li; omega, HA.fv.pz Z34, HA.fo.pz Z34, HA.go.pz Z34, f1.pz Z4, f2.pz Z4, HA.fe.pz Z34, HA.ge.pz Z34, oA.keep (by omega) (fun _ => k4 _ nr), HA.hm, HA.hh, by have := HA.lr; omega⟩
        rw [← eD] at H4
        have R2 : m.next < r2 := by have := x01.1; omega
        obtain ⟨fA, hfA⟩ : ∃ fA, fA = Value.slice a1 X.args.length z1 := ⟨_, rfl⟩
        obtain ⟨fM, hfM⟩ : ∃ fM, fM = Value.slice a2 X.mem.length z2 := ⟨_, rfl⟩
        obtain ⟨hV, hhV⟩ : ∃ hV, hV = Value.slice a' (C.heard.length + 1) q' := ⟨_, rfl⟩
        rw [← hfA, ← hfM, ← hhV] at H4
        have lvw4 := ld0 H4.gi
        have lhv4 := ld20 H4.gi
        simp only [wk6, Nat.reduceBEq, wk1, forall_eq, evOp, evParts, okVal, ev1, evs, evOpt, envOf, List.lookup_nil, List.size_toArray, List.length_cons, List.length_nil, List.range, List.range.loop, Nat.zero_add, Nat.reduceAdd, Bool.not_false, Bool.not_true, Bool.true_or, if_true, if_false, reduceIte, Nat.reduceEqDiff, reduceCtorEq, List.getElem?_toArray, List.getElem?_cons_zero, List.getElem?_cons_succ, guardOf, constOk, constCell, evBuiltin, opLen, List.head?_cons, foldV, min2V, max2V, Int.reduceLT, Int.reduceEq, Kend, resOf, Bool.false_eq_true, Bool.true_eq_false, IntKind.signed, IntKind.max, opConvert, opIndexAddr, aggOf, Option.some.injEq, Value.bool.injEq, exists_eq_left', true_and, forall_const, decide_eq_true_eq, decide_eq_false_iff_not, Int.natCast_nonneg, and_self, Int.toNat_natCast, Nat.mul_one, List.append_nil, beq_self_eq_true, Nat.lt_irrefl, Nat.zero_lt_succ, Nat.reduceLT, Option.bind_some, undef, opBox, Value.cells, setCells, Nat.reduceLeDiff, Array.toList, bin_cneq, bin_cne, bin_bne, bin_beq, bld76n, bld37z, wk5, wk0, fxC16d, lvw4, lhv4]
        refine most_ret H4.fv.rd H4.oh.rd (by have := H4.hm; omega) (by have := H4.hh; omega) fun m5 x5 => ?_
        have H5 := H4.ext x5
        have F5 : ∀ j, j < m.next → j ≠ i → j ≠ r → m5.get j = m.get j := fun j hj h1 h2 => (x5.2 j (by have := Z4.1; omega)).trans (F4 j hj h1 h2)
        cases hmo : decide (D.mem.length < 2 * manyIn D.mem D.heard) with
        | false =>
          have e1 : D.most = false := hmo
          have e2 : D.fin = D := by rw [Ch.fin, e1, if_neg (by decide)]
          simp only [wk6, Nat.reduceBEq, wk1, forall_eq, Nat.reduceAdd, reduceIte, Nat.reduceEqDiff, reduceCtorEq, opLen, Int.reduceLT, Int.reduceEq, opConvert, opIndexAddr, opLoad, Nat.reduceLT, undef, Nat.reduceLeDiff, Array.toList, bin_cneq, bin_cne, bin_bne, bin_beq, bld76n, bld37z, wk4, wk5, wk0, fxC16d, hmo]
          rw [e1] at hK
          exact hK _ r2 (by rw [e2]; exact ⟨_, _, _, _, _, _, _, _, H5⟩) (Z4.trans x5.pz) F5 (by have := R2; omega)
        | true =>
          have e1 : D.most = true := hmo
          have lown := ld5 H5.gi
          have s2 := st2 (p := 2) H5.gi
          have s20 := st20 (w := .slice none 0 0) rfl (set_get m5 i (.cells (chC { D with ph := 2 } vm oa om fA fM hV ea em) 76 true))
          have s21 := st21 (X := D.own) (va := oa) (vb := om) (set_get (m5.set i (.cells (chC { D with ph := 2 } vm oa om fA fM hV ea em) 76 true)) i (.cells (chC { D with ph := 2 } vm oa om fA fM (.slice none 0 0) ea em) 76 true))
          rw [set_set] at s21 s20
          rw [set_set] at s21
          have l19 := ld19 (set_get m5 i (.cells (chC { D with ph := 2, ent := D.own } vm oa om fA fM (.slice none 0 0) oa om) 76 true))
          have Z6 : Pz m5 (m5.set i (.cells (chC { D with ph := 2, ent := D.own } vm oa om fA fM (.slice none 0 0) oa om) 76 true)) := Pz.set H5.gi _
          have fr6 : ∀ b, ∀ j, j < m.next → j ≠ i → j ≠ r → (m5.set i b).get j = m.get j := fun b j hj h1 h2 => by rw [set_get_ne _ h1, F5 j hj h1 h2]
          have sd : ({ D with ph := 2 } : Ch).s = D.s := rfl
          rw [e1] at hK
          cases hs : D.s with
          | false =>
            have e2 : D.fin = { D with ph := 2, heard := [], ent := D.own } := by rw [Ch.fin, e1, if_pos rfl, Ch.put, hs, if_neg (by decide)]
            rw [e2] at hK
            have l19' := l19.trans (congrArg (fun b => some (Value.bool b)) hs)
            simp only [wk6, Nat.reduceBEq, wk1, forall_eq, evOp, evParts, okVal, ev1, evs, evOpt, envOf, List.lookup_nil, List.size_toArray, List.length_cons, List.length_nil, List.range, List.range.loop, Nat.zero_add, Nat.reduceAdd, Bool.not_false, Bool.not_true, Bool.true_or, if_true, if_false, reduceIte, Nat.reduceEqDiff, reduceCtorEq, List.getElem?_toArray, List.getElem?_cons_zero, List.getElem?_cons_succ, guardOf, constOk, constCell, evBuiltin, opLen, List.head?_cons, foldV, min2V, max2V, Int.reduceLT, Int.reduceEq, Kend, resOf, Bool.false_eq_true, Bool.true_eq_false, IntKind.signed, IntKind.max, opConvert, opIndexAddr, aggOf, Option.some.injEq, Value.bool.injEq, exists_eq_left', true_and, forall_const, decide_eq_true_eq, decide_eq_false_iff_not, Int.natCast_nonneg, and_self, Int.toNat_natCast, Nat.mul_one, List.append_nil, beq_self_eq_true, Nat.lt_irrefl, Nat.zero_lt_succ, Nat.reduceLT, Option.bind_some, undef, opBox, Value.cells, setCells, Nat.reduceLeDiff, Array.toList, bin_cneq, bin_cne, bin_bne, bin_beq, bld76n, bld37z, wk5, wk0, fxC16d, hmo, lown, s2, s20, s21, l19']
            exact hK _ r2 ⟨_, _, _, _, _, _, _, _, set_get _ _ _, H5.li, H5.fv.pz Z6, H5.fo.pz Z6, H5.go.pz Z6, H5.ff.pz Z6, H5.gf.pz Z6, H5.fo.pz Z6, H5.go.pz Z6, OwnI.nil, H5.hm, show 0 < 2 ^ 20 by decide, H5.lr⟩ ((Z4.trans x5.pz).trans Z6) (fr6 _) (by have := R2; omega)
          | true =>
            have e2 : D.fin = { D with ph := 2, heard := [], ent := D.found } := by rw [Ch.fin, e1, if_pos rfl, Ch.put, hs, if_pos rfl]
            rw [e2] at hK
            have l13 := ld13 (set_get m5 i (.cells (chC { D with ph := 2, ent := D.own } vm oa om fA fM (.slice none 0 0) oa om) 76 true))
            have s21' := st21 (X := D.found) (va := fA) (vb := fM) (set_get m5 i (.cells (chC { D with ph := 2, ent := D.own } vm oa om fA fM (.slice none 0 0) oa om) 76 true))
            rw [set_set] at s21'
            have l19' := l19.trans (congrArg (fun b => some (Value.bool b)) hs)
            simp only [wk6, Nat.reduceBEq, wk1, forall_eq, evOp, evParts, okVal, ev1, evs, evOpt, envOf, List.lookup_nil, List.size_toArray, List.length_cons, List.length_nil, List.range, List.range.loop, Nat.zero_add, Nat.reduceAdd, Bool.not_false, Bool.not_true, Bool.true_or, if_true, if_false, reduceIte, Nat.reduceEqDiff, reduceCtorEq, List.getElem?_toArray, List.getElem?_cons_zero, List.getElem?_cons_succ, guardOf, constOk, constCell, evBuiltin, opLen, List.head?_cons, foldV, min2V, max2V, Int.reduceLT, Int.reduceEq, Kend, resOf, Bool.false_eq_true, Bool.true_eq_false, IntKind.signed, IntKind.max, opConvert, opIndexAddr, aggOf, Option.some.injEq, Value.bool.injEq, exists_eq_left', true_and, forall_const, decide_eq_true_eq, decide_eq_false_iff_not, Int.natCast_nonneg, and_self, Int.toNat_natCast, Nat.mul_one, List.append_nil, beq_self_eq_true, Nat.lt_irrefl, Nat.zero_lt_succ, Nat.reduceLT, Option.bind_some, undef, opBox, Value.cells, setCells, Nat.reduceLeDiff, Array.toList, bin_cneq, bin_cne, bin_bne, bin_beq, bld76n, bld37z, wk5, wk0, fxC16d, hmo, lown, s2, s20, s21, l19', l13, s21']
            have Z7 : Pz m5 (m5.set i (.cells (chC { D with ph := 2, ent := D.found } vm oa om fA fM (.slice none 0 0) fA fM) 76 true)) := Pz.set H5.gi _
            exact hK _ r2 ⟨_, _, _, _, _, _, _, _, set_get _ _ _, H5.li, H5.fv.pz Z7, H5.fo.pz Z7, H5.go.pz Z7, H5.ff.pz Z7, H5.gf.pz Z7, H5.ff.pz Z7, H5.gf.pz Z7, OwnI.nil, H5.hm, show 0 < 2 ^ 20 by decide, H5.lr⟩ ((Z4.trans x5.pz).trans Z7) (fr6 _) (by have := R2; omega)
      | false =>
        have hcc : ¬ (true && (!(C.hear x).s || lessB (C.hear x).xr (C.hear x).xn wr wn)) = true := by
          have h1 : lessB (C.hear x).xr (C.hear x).xn wr wn = false := hle
          have h2 : (C.hear x).s = true := hs0
          rw [h1, h2]; decide
        obtain ⟨D, hD⟩ : ∃ D, D = (C.hear x).take true wr wn X := ⟨_, rfl⟩
        have eD : D = C.hear x := by rw [hD, Ch.take, if_neg hcc]
        rw [← hD] at hK
        rw [← eD] at HA
        have R2 : m.next < r2 := by have := x01.1; omega
        simp only [wk6, Nat.reduceBEq, wk1, forall_eq, evOp, evParts, okVal, ev1, evs, evOpt, envOf, List.lookup_nil, List.size_toArray, List.length_cons, List.length_nil, List.range, List.range.loop, Nat.zero_add, Nat.reduceAdd, Bool.not_false, Bool.not_true, Bool.true_or, if_true, if_false, reduceIte, Nat.reduceEqDiff, reduceCtorEq, List.getElem?_toArray, List.getElem?_cons_zero, List.getElem?_cons_succ, guardOf, constOk, constCell, evBuiltin, opLen, List.head?_cons, foldV, min2V, max2V, Int.reduceLT, Int.reduceEq, Kend, resOf, Bool.false_eq_true, Bool.true_eq_false, IntKind.signed, IntKind.max, opConvert, opIndexAddr, aggOf, Option.some.injEq, Value.bool.injEq, exists_eq_left', true_and, forall_const, decide_eq_true_eq, decide_eq_false_iff_not, Int.natCast_nonneg, and_self, Int.toNat_natCast, Nat.mul_one, List.append_nil, beq_self_eq_true, Nat.lt_irrefl, Nat.zero_lt_succ, Nat.reduceLT, Option.bind_some, undef, opBox, Value.cells, setCells, Nat.reduceLeDiff, Array.toList, bin_cneq, bin_cne, bin_bne, bin_beq, bld76n, bld37z, wk5, wk0, fxC16d]
        obtain ⟨m4, hm4⟩ : ∃ m4, m4 = mA := ⟨_, rfl⟩
        have H4 := HA
        have Z4 := ZA
        have F4 := FA
        rw [← hm4] at H4 Z4 F4 ⊢
        obtain ⟨fA, hfA⟩ : ∃ fA, fA = fa := ⟨_, rfl⟩
        obtain ⟨fM, hfM⟩ : ∃ fM, fM = fm := ⟨_, rfl⟩
        obtain ⟨hV, hhV⟩ : ∃ hV, hV = Value.slice a' (C.heard.length + 1) q' := ⟨_, rfl⟩
        rw [← hfA, ← hfM, ← hhV] at H4
        have lvw4 := ld0 H4.gi
        have lhv4 := ld20 H4.gi
        simp only [wk6, Nat.reduceBEq, wk1, forall_eq, evOp, evParts, okVal, ev1, evs, evOpt, envOf, List.lookup_nil, List.size_toArray, List.length_cons, List.length_nil, List.range, List.range.loop, Nat.zero_add, Nat.reduceAdd, Bool.not_false, Bool.not_true, Bool.true_or, if_true, if_false, reduceIte, Nat.reduceEqDiff, reduceCtorEq, List.getElem?_toArray, List.getElem?_cons_zero, List.getElem?_cons_succ, guardOf, constOk, constCell, evBuiltin, opLen, List.head?_cons, foldV, min2V, max2V, Int.reduceLT, Int.reduceEq, Kend, resOf, Bool.false_eq_true, Bool.true_eq_false, IntKind.signed, IntKind.max, opConvert, opIndexAddr, aggOf, Option.some.injEq, Value.bool.injEq, exists_eq_left', true_and, forall_const, decide_eq_true_eq, decide_eq_false_iff_not, Int.natCast_nonneg, and_self, Int.toNat_natCast, Nat.mul_one, List.append_nil, beq_self_eq_true, Nat.lt_irrefl, Nat.zero_lt_succ, Nat.reduceLT, Option.bind_some, undef, opBox, Value.cells, setCells, Nat.reduceLeDiff, Array.toList, bin_cneq, bin_cne, bin_bne, bin_beq, bld76n, bld37z, wk5, wk0, fxC16d, lvw4, lhv4]
        refine most_ret H4.fv.rd H4.oh.rd (by have := H4.hm; omega) (by have := H4.hh; omega) fun m5 x5 => ?_
        have H5 := H4.ext x5
        have F5 : ∀ j, j < m.next → j ≠ i → j ≠ r → m5.get j = m.get j := fun j hj h1 h2 => (x5.2 j (by have := Z4.1; omega)).trans (F4 j hj h1 h2)
        cases hmo : decide (D.mem.length < 2 * manyIn D.mem D.heard) with
        | false =>
          have e1 : D.most = false := hmo
          have e2 : D.fin = D := by rw [Ch.fin, e1, if_neg (by decide)]
          simp only [wk6, Nat.reduceBEq, wk1, forall_eq, Nat.reduceAdd, reduceIte, Nat.reduceEqDiff, reduceCtorEq, opLen, Int.reduceLT, Int.reduceEq, opConvert, opIndexAddr, opLoad, Nat.reduceLT, undef, Nat.reduceLeDiff, Array.toList, bin_cneq, bin_cne, bin_bne, bin_beq, bld76n, bld37z, wk4, wk5, wk0, fxC16d, hmo]
          rw [e1] at hK
          exact hK _ r2 (by rw [e2]; exact ⟨_, _, _, _, _, _, _, _, H5⟩) (Z4.trans x5.pz) F5 (by have := R2; omega)
        | true =>
          have e1 : D.most = true := hmo
          have lown := ld5 H5.gi
          have s2 := st2 (p := 2) H5.gi
          have s20 := st20 (w := .slice none 0 0) rfl (set_get m5 i (.cells (chC { D with ph := 2 } vm oa om fA fM hV ea em) 76 true))
          have s21 := st21 (X := D.own) (va := oa) (vb := om) (set_get (m5.set i (.cells (chC { D with ph := 2 } vm oa om fA fM hV ea em) 76 true)) i (.cells (chC { D with ph := 2 } vm oa om fA fM (.slice none 0 0) ea em) 76 true))
          rw [set_set] at s21 s20
          rw [set_set] at s21
          have l19 := ld19 (set_get m5 i (.cells (chC { D with ph := 2, ent := D.own } vm oa om fA fM (.slice none 0 0) oa om) 76 true))
          have Z6 : Pz m5 (m5.set i (.cells (chC { D with ph := 2, ent := D.own } vm oa om fA fM (.slice none 0 0) oa om) 76 true)) := Pz.set H5.gi _
          have fr6 : ∀ b, ∀ j, j < m.next → j ≠ i → j ≠ r → (m5.set i b).get j = m.get j := fun b j hj h1 h2 => by rw [set_get_ne _ h1, F5 j hj h1 h2]
          have sd : ({ D with ph := 2 } : Ch).s = D.s := rfl
          rw [e1] at hK
          cases hs : D.s with
          | false =>
            have e2 : D.fin = { D with ph := 2, heard := [], ent := D.own } := by rw [Ch.fin, e1, if_pos rfl, Ch.put, hs, if_neg (by decide)]
            rw [e2] at hK
            have l19' := l19.trans (congrArg (fun b => some (Value.bool b)) hs)
            simp only [wk6, Nat.reduceBEq, wk1, forall_eq, evOp, evParts, okVal, ev1, evs, evOpt, envOf, List.lookup_nil, List.size_toArray, List.length_cons, List.length_nil, List.range, List.range.loop, Nat.zero_add, Nat.reduceAdd, Bool.not_false, Bool.not_true, Bool.true_or, if_true, if_false, reduceIte, Nat.reduceEqDiff, reduceCtorEq, List.getElem?_toArray, List.getElem?_cons_zero, List.getElem?_cons_succ, guardOf, constOk, constCell, evBuiltin, opLen, List.head?_cons, foldV, min2V, max2V, Int.reduceLT, Int.reduceEq, Kend, resOf, Bool.false_eq_true, Bool.true_eq_false, IntKind.signed, IntKind.max, opConvert, opIndexAddr, aggOf, Option.some.injEq, Value.bool.injEq, exists_eq_left', true_and, forall_const, decide_eq_true_eq, decide_eq_false_iff_not, Int.natCast_nonneg, and_self, Int.toNat_natCast, Nat.mul_one, List.append_nil, beq_self_eq_true, Nat.lt_irrefl, Nat.zero_lt_succ, Nat.reduceLT, Option.bind_some, undef, opBox, Value.cells, setCells, Nat.reduceLeDiff, Array.toList, bin_cneq, bin_cne, bin_bne, bin_beq, bld76n, bld37z, wk5, wk0, fxC16d, hmo, lown, s2, s20, s21, l19']
            exact hK _ r2 ⟨_, _, _, _, _, _, _, _, set_get _ _ _, H5.li, H5.fv.pz Z6, H5.fo.pz Z6, H5.go.pz Z6, H5.ff.pz Z6, H5.gf.pz Z6, H5.fo.pz Z6, H5.go.pz Z6, OwnI.nil, H5.hm, show 0 < 2 ^ 20 by decide, H5.lr⟩ ((Z4.trans x5.pz).trans Z6) (fr6 _) (by have := R2; omega)
          | true =>
            have e2 : D.fin = { D with ph := 2, heard := [], ent := D.found } := by rw [Ch.fin, e1, if_pos rfl, Ch.put, hs, if_pos rfl]
            rw [e2] at hK
            have l13 := ld13 (set_get m5 i (.cells (chC { D with ph := 2, ent := D.own } vm oa om fA fM (.slice none 0 0) oa om) 76 true))
            have s21' := st21 (X := D.found) (va := fA) (vb := fM) (set_get m5 i (.cells (chC { D with ph := 2, ent := D.own } vm oa om fA fM (.slice none 0 0) oa om) 76 true))
            rw [set_set] at s21'
            have l19' := l19.trans (congrArg (fun b => some (Value.bool b)) hs)
            simp only [wk6, Nat.reduceBEq, wk1, forall_eq, evOp, evParts, okVal, ev1, evs, evOpt, envOf, List.lookup_nil, List.size_toArray, List.length_cons, List.length_nil, List.range, List.range.loop, Nat.zero_add, Nat.reduceAdd, Bool.not_false, Bool.not_true, Bool.true_or, if_true, if_false, reduceIte, Nat.reduceEqDiff, reduceCtorEq, List.getElem?_toArray, List.getElem?_cons_zero, List.getElem?_cons_succ, guardOf, constOk, constCell, evBuiltin, opLen, List.head?_cons, foldV, min2V, max2V, Int.reduceLT, Int.reduceEq, Kend, resOf, Bool.false_eq_true, Bool.true_eq_false, IntKind.signed, IntKind.max, opConvert, opIndexAddr, aggOf, Option.some.injEq, Value.bool.injEq, exists_eq_left', true_and, forall_const, decide_eq_true_eq, decide_eq_false_iff_not, Int.natCast_nonneg, and_self, Int.toNat_natCast, Nat.mul_one, List.append_nil, beq_self_eq_true, Nat.lt_irrefl, Nat.zero_lt_succ, Nat.reduceLT, Option.bind_some, undef, opBox, Value.cells, setCells, Nat.reduceLeDiff, Array.toList, bin_cneq, bin_cne, bin_bne, bin_beq, bld76n, bld37z, wk5, wk0, fxC16d, hmo, lown, s2, s20, s21, l19', l13, s21']
            have Z7 : Pz m5 (m5.set i (.cells (chC { D with ph := 2, ent := D.found } vm oa om fA fM (.slice none 0 0) fA fM) 76 true)) := Pz.set H5.gi _
            exact hK _ r2 ⟨_, _, _, _, _, _, _, _, set_get _ _ _, H5.li, H5.fv.pz Z7, H5.fo.pz Z7, H5.go.pz Z7, H5.ff.pz Z7, H5.gf.pz Z7, H5.ff.pz Z7, H5.gf.pz Z7, OwnI.nil, H5.hm, show 0 < 2 ^ 20 by decide, H5.lr⟩ ((Z4.trans x5.pz).trans Z7) (fr6 _) (by have := R2; omega)
end Go.Proofs.Ytgecmpgpinihhaa
