/- A text of the abstract machine. -/


/- A table's put: what it turns. -/
import Derived.Test.YtimjcfaciiimmaaAmC22q
import Derived.Test.YtimjcfaciiimmaaAmBun
set_option linter.unusedSimpArgs false
set_option linter.unusedVariables false
set_option maxRecDepth 100000
set_option maxHeartbeats 4000000
namespace Go.Proofs.Ytimjcfaciiimmaa
open Go Go.AM Go.AM.Crc Go.AM.Wire
theorem fxC22x : type_of% (And.intro (And.intro (And.intro (And.intro (And.intro (And.intro @Try.underlying3 @Try.underlying4) (And.intro @Try.underlying5 (And.intro @Try.underlying9 @Try.underlying25))) (And.intro (And.intro @Try.underlying52 (And.intro @Try.underlying35 @Try.underlying107)) (And.intro @Try.underlying22 (And.intro @Try.underlying23 @Try.underlying39)))) (And.intro (And.intro (And.intro @Try.underlying101 @Try.underlying103) (And.intro @Try.underlying75 (And.intro @Try.underlying77 @Try.underlying49))) (And.intro (And.intro @ts3 (And.intro @ts4 @ts5)) (And.intro @ts9 (And.intro @ts25 @ts52))))) (And.intro (And.intro (And.intro (And.intro @ts35 @ts107) (And.intro @ts22 (And.intro @ts23 @ts39))) (And.intro (And.intro @ts101 (And.intro @ts103 @ts75)) (And.intro @ts77 (And.intro @ts49 @tz3)))) (And.intro (And.intro (And.intro @tz4 @tz5) (And.intro @tz9 (And.intro @tz25 @tz52))) (And.intro (And.intro @tz35 (And.intro @tz107 @tz22)) (And.intro @tz23 (And.intro @tz39 @tz101)))))) (And.intro (And.intro (And.intro (And.intro (And.intro @tz103 @tz75) (And.intro @tz77 (And.intro @tz49 @tb3))) (And.intro (And.intro @tb4 (And.intro @tb5 @tb9)) (And.intro @tb25 (And.intro @tb52 @tb35)))) (And.intro (And.intro (And.intro @tb107 @tb22) (And.intro @tb23 (And.intro @tb39 @tb101))) (And.intro (And.intro @tb103 (And.intro @tb75 @tb77)) (And.intro @tb49 (And.intro @fr18 @fr21))))) (And.intro (And.intro (And.intro (And.intro @fr16 @fr22) (And.intro @fr17 (And.intro @fr0 @fr33))) (And.intro (And.intro @fr34 (And.intro @bz52 @al52)) (And.intro @fa52_0 (And.intro @fa52_1 @bz39)))) (And.intro (And.intro (And.intro @al39 (And.intro @bz103 @fa39_0)) (And.intro @fa39_1 (And.intro @fa39_2 @fa103_0))) (And.intro (And.intro @fa103_1 (And.intro @fa103_2 @fa103_3)) (And.intro @fa49_0 (And.intro @fa49_1 @fa49_2))))))) := (And.intro (And.intro (And.intro (And.intro (And.intro (And.intro @Try.underlying3 @Try.underlying4) (And.intro @Try.underlying5 (And.intro @Try.underlying9 @Try.underlying25))) (And.intro (And.intro @Try.underlying52 (And.intro @Try.underlying35 @Try.underlying107)) (And.intro @Try.underlying22 (And.intro @Try.underlying23 @Try.underlying39)))) (And.intro (And.intro (And.intro @Try.underlying101 @Try.underlying103) (And.intro @Try.underlying75 (And.intro @Try.underlying77 @Try.underlying49))) (And.intro (And.intro @ts3 (And.intro @ts4 @ts5)) (And.intro @ts9 (And.intro @ts25 @ts52))))) (And.intro (And.intro (And.intro (And.intro @ts35 @ts107) (And.intro @ts22 (And.intro @ts23 @ts39))) (And.intro (And.intro @ts101 (And.intro @ts103 @ts75)) (And.intro @ts77 (And.intro @ts49 @tz3)))) (And.intro (And.intro (And.intro @tz4 @tz5) (And.intro @tz9 (And.intro @tz25 @tz52))) (And.intro (And.intro @tz35 (And.intro @tz107 @tz22)) (And.intro @tz23 (And.intro @tz39 @tz101)))))) (And.intro (And.intro (And.intro (And.intro (And.intro @tz103 @tz75) (And.intro @tz77 (And.intro @tz49 @tb3))) (And.intro (And.intro @tb4 (And.intro @tb5 @tb9)) (And.intro @tb25 (And.intro @tb52 @tb35)))) (And.intro (And.intro (And.intro @tb107 @tb22) (And.intro @tb23 (And.intro @tb39 @tb101))) (And.intro (And.intro @tb103 (And.intro @tb75 @tb77)) (And.intro @tb49 (And.intro @fr18 @fr21))))) (And.intro (And.intro (And.intro (And.intro @fr16 @fr22) (And.intro @fr17 (And.intro @fr0 @fr33))) (And.intro (And.intro @fr34 (And.intro @bz52 @al52)) (And.intro @fa52_0 (And.intro @fa52_1 @bz39)))) (And.intro (And.intro (And.intro @al39 (And.intro @bz103 @fa39_0)) (And.intro @fa39_1 (And.intro @fa39_2 @fa103_0))) (And.intro (And.intro @fa103_1 (And.intro @fa103_2 @fa103_3)) (And.intro @fa49_0 (And.intro @fa49_1 @fa49_2)))))))
theorem cput_is {m : Mem} {k i : Nat} {C : Tc} {n vn : Int} {l : List Int} {v : Value} {a : Ans} {w : Value} {mv nv av : Value} {rn ra : Nat} {cs : List Value} (H : TcIs m k i C mv nv av rn ra cs) (fv : FRow m v 1 l.length (ints l)) (fw : FRow m w 1 a.s.length (byteCells a.s)) (hl : l.length < 2 ^ 40) (hn : C.nodes.length < 2 ^ 30) (hm : C.mem.length < 2 ^ 40) (hs : a.s.length < 2 ^ 46) {K : Value → Mem → Prop}
    (hK1 : ∀ m', Ext m m' → putOk C n vn l = false → K (.bool false) m')
    (hK2 : ∀ m' mv' nv' av' rn' ra' cs', TcIs m' k i (putC C n vn l a) mv' nv' av' rn' ra' cs' → m.next ≤ rn' → m.next ≤ ra' → Pz m m' → (∀ j, j < m.next → j ≠ i → (j = rn → nv = .slice none 0 0) → (j = ra → av = .slice none 0 0) → m'.get j = m.get j) → putOk C n vn l = true → K (.bool true) m') : Ret Try.prog 21 [.pointer (some ⟨i, 0, none⟩), .int .i64 n, viewV vn v, ansV a.e a.q w] m K := by
  refine Ret.pz (Ret.join ?_)
  refine ret_wp [(7, [2]), (9, [4, 6, 8])] Try.func21 rfl (by decide) (by kernel_rfl) ?_
  obtain ⟨va, vq, rfl⟩ := fv.is
  obtain ⟨wa, wq, rfl⟩ := fw.is
  obtain ⟨m0, hm0⟩ : ∃ m0, m0 = (m.new (.cells [.int .i64 vn, .slice va l.length vq] 52 true)).new (.cells [.int .i64 a.e, .int .i64 a.q, .slice wa a.s.length wq] 39 true) := ⟨_, rfl⟩
  have x0 : Ext m m0 := by rw [hm0]; exact (Ext.new _ _).trans (Ext.new _ _)
  have g60 : m0.get m.next = some (.cells [.int .i64 vn, .slice va l.length vq] 52 true) := by rw [hm0, new_get_ne _ (by simp only [new_next]; omega), new_get]
  have g70 : m0.get (m.next + 1) = some (.cells [.int .i64 a.e, .int .i64 a.q, .slice wa a.s.length wq] 39 true) := by rw [hm0]; exact new_get (m.new _) _
  have N0 : m0.next = m.next + 2 := by rw [hm0]; rfl
  have bad : ∀ M, Ext m0 M → putOk C n vn l = false → ∃ m'', Frz M m'' ∧ (Pz m m'' → K (.bool false) m'') := fun M y hb => ⟨M, Frz.refl M, fun _ => hK1 M (x0.trans y) hb⟩
  have lv6 : ∀ M, Ext m0 M → opLoad Try.prog 52 (.pointer (some ⟨m.next, 0, none⟩)) M = some (viewV vn (.slice va l.length vq)) := fun M y => by
    simp only [opLoad, (y.2 m.next (by omega)).trans g60, aggOf, Try.underlying52, ts52]
    rfl
  have lv60 := lv6 m0 (Ext.refl _)
  simp only [wk6, Nat.reduceBEq, wk1, forall_eq, Nat.reduceAdd, reduceIte, Nat.reduceEqDiff, reduceCtorEq, opLen, Int.reduceLT, Int.reduceEq, opConvert, opIndexAddr, Nat.reduceLT, new_next, set_get_if, set_next, decide_true, decide_false, beq_tt, beq_tf, beq_ft, beq_ff, undef, Nat.left_eq_add, Nat.add_eq_left, List.drop_zero, List.drop_succ_cons, List.take_succ_cons, List.take_zero, List.drop_nil, List.length_append, Nat.reduceLeDiff, Nat.add_zero, Nat.add_assoc, Nat.add_right_cancel_iff, List.cons_append, List.nil_append, Array.toList, Option.isNone_none, Option.isNone_some, ne_eq, not_true_eq_false, not_false_eq_true, bin_cteq, bldT, bldA, bldV, no_ints, one_int, no_bytes, one_ans, wk4, wk0, fxC22x, ← hm0, lv60]
  clear hm0
  refine vcheck_ret (fv.pz x0.pz).rd hl fun m1 x1 => ?_
  by_cases c1 : viewCk vn l = 0
  case neg =>
    have d1 : decide (viewCk vn l = 0) = false := decide_eq_false c1
    simp only [wk6, Nat.reduceBEq, wk1, forall_eq, Nat.reduceAdd, reduceIte, Nat.reduceEqDiff, reduceCtorEq, opLen, Int.reduceLT, Int.reduceEq, opConvert, opIndexAddr, opLoad, Nat.reduceLT, undef, Nat.reduceLeDiff, Array.toList, bin_cteq, bldT, bldA, bldV, no_ints, one_int, no_bytes, one_ans, wk4, wk5, wk0, fxC22x, c1]
    exact bad _ x1 (by rw [putOk, d1]; rfl)
  have d1 : decide (viewCk vn l = 0) = true := decide_eq_true c1
  have lv61 := lv6 m1 x1
  simp only [wk6, Nat.reduceBEq, wk1, forall_eq, Nat.reduceAdd, reduceIte, Nat.reduceEqDiff, reduceCtorEq, opLen, Int.reduceLT, Int.reduceEq, opConvert, opIndexAddr, Nat.reduceLT, undef, Nat.reduceLeDiff, Array.toList, bin_cteq, bldT, bldA, bldV, no_ints, one_int, no_bytes, one_ans, wk4, wk5, wk0, fxC22x, c1, lv61]
  refine has_ret (fv.pz (x0.trans x1).pz).rd hl fun m2 x2 => ?_
  have x12 := x1.trans x2
  cases d2 : decide (n ∈ l) with
  | false =>
    simp only [wk6, Nat.reduceBEq, wk1, forall_eq, Nat.reduceAdd, reduceIte, Nat.reduceEqDiff, reduceCtorEq, opLen, Int.reduceLT, Int.reduceEq, opConvert, opIndexAddr, opLoad, Nat.reduceLT, undef, Nat.reduceLeDiff, Array.toList, bin_cteq, bldT, bldA, bldV, no_ints, one_int, no_bytes, one_ans, wk4, wk5, wk0, fxC22x]
    exact bad _ x12 (by rw [putOk, d1, d2]; rfl)
  | true =>
    have hl16 := viewCk_len c1
    have H2 := H.ext (x0.trans x12)
    have lgn : ∀ M, Ext m2 M → opLoad Try.prog 25 (.pointer (some ⟨i, 3, none⟩)) M = some nv := fun M y => load_cell (H2.ext y).gi (by simp only [aggOf, Try.underlying25]) rfl
    have ln := H2.on.len (P := Try.prog) Try.underlying25
    have lgn2 := lgn m2 (Ext.refl _)
    have ln0 : decide (0 < (C.nodes.length : Int)) = !decide (C.nodes = []) := by
      cases hcn : C.nodes with
      | nil => rfl
      | cons b r => simp
    have d3i : ∀ d3, (decide (C.nodes = []) || (decide (vn = C.vn) && decide (l = C.mem))) = d3 → ∀ d4, decide (n ∈ C.nodes) = d4 → putOk C n vn l = (d3 && !d4) := fun d3 h3 d4 h4 => by rw [putOk, d1, d2, h3, h4]; rfl
    have lv62 := lv6 m2 x12
    have lgv2 : opLoad Try.prog 52 (.pointer (some ⟨i, 1, none⟩)) m2 = some (viewV C.vn mv) := by
      have := load_agg (P := Try.prog) (t := 52) (sz := 2) (off := 1) H2.gi (by simp only [aggOf, Try.underlying52]) ts52 (by simp)
      exact this
    cases d3 : decide (C.nodes = []) with
    | true =>
      rw [d3] at ln0
      have h3 : (decide (C.nodes = []) || (decide (vn = C.vn) && decide (l = C.mem))) = true := by rw [d3]; rfl
      simp only [wk6, Nat.reduceBEq, wk1, forall_eq, Nat.reduceAdd, reduceIte, Nat.reduceEqDiff, reduceCtorEq, Int.reduceLT, Int.reduceEq, opConvert, opIndexAddr, Nat.reduceLT, undef, Nat.reduceLeDiff, Array.toList, bin_cteq, bldT, bldA, bldV, no_ints, one_int, no_bytes, one_ans, wk4, wk5, wk0, fxC22x, lgn2, ln, ln0]
      obtain ⟨mr, xr, hmr⟩ : ∃ mr, Ext m2 mr ∧ m2 = mr := ⟨m2, Ext.refl _, rfl⟩
      rw [hmr]
      have Hr := H2.ext xr
      have xr0 := x12.trans xr
      refine among_ret Hr.on.rd (by omega) ?_
      cases d4 : decide (n ∈ C.nodes) with
      | true =>
        simp only [wk6, Nat.reduceBEq, wk1, forall_eq, Nat.reduceAdd, reduceIte, Nat.reduceEqDiff, reduceCtorEq, opLen, Int.reduceLT, Int.reduceEq, opConvert, opIndexAddr, opLoad, Nat.reduceLT, undef, Nat.reduceLeDiff, Array.toList, bin_cteq, bldT, bldA, bldV, no_ints, one_int, no_bytes, one_ans, wk4, wk5, wk0, fxC22x]
        exact bad _ xr0 (by rw [d3i true h3 true d4]; rfl)
      | false =>
        have hok : putOk C n vn l = true := by rw [d3i true h3 false d4]; rfl
        have g6r := (xr0.2 m.next (by omega)).trans g60
        have g7r := (xr0.2 (m.next + 1) (by omega)).trans g70
        have nr := xr0.1
        have li := H.li
        have lnk := H.ln
        have lak := H.la
        have lni := H.ni
        have lai := H.ai
        have hlen := H.len
        have hrn : nv = .slice none 0 0 ∨ rn < m.next := by
          obtain ⟨_, ⟨_, h⟩ | ⟨h, _⟩⟩ := H.on
          · exact .inl h
          · exact .inr h
        have hra : av = .slice none 0 0 ∨ ra < m.next := by
          obtain ⟨_, ⟨_, h⟩ | ⟨h, _⟩⟩ := H.oa
          · exact .inl h
          · exact .inr h
        have hna := own_ne H.on H.oa (by decide)
        obtain ⟨qa, qq, m4, r4, p1, o4, n4, n4', x4⟩ := ints_copy (fv.pz (x0.trans xr0).pz) hl
        have H4 := Hr.ext x4
        have nx4 := x4.1
        have g64 := (x4.2 m.next (by omega)).trans g6r
        have g74 := (x4.2 (m.next + 1) (by omega)).trans g7r
        have gi4 := H4.gi
        obtain ⟨m5, hm5⟩ : ∃ m5, m5 = m4.set i (.cells [.int .u8 C.how, .int .i64 vn, .slice qa l.length qq, nv, av] 103 true) := ⟨_, rfl⟩
        have st4 : opStore Try.prog 52 (.pointer (some ⟨i, 1, none⟩)) (viewV vn (.slice qa l.length qq)) m4 = some m5 := by
          rw [hm5]
          simp only [opStore, gi4, ts52, Value.cells]
          rfl
        have k5 : ∀ j, j ≠ i → m5.get j = m4.get j := fun j hj => by rw [hm5]; exact set_get_ne _ hj
        have g5i : m5.get i = some (.cells [.int .u8 C.how, .int .i64 vn, .slice qa l.length qq, nv, av] 103 true) := by rw [hm5]; exact set_get _ _ _
        have N5 : m5.next = m4.next := by rw [hm5]; rfl
        have z5 : Pz m4 m5 := by rw [hm5]; exact Pz.set gi4 _
        clear hm5
        have g65 := (k5 m.next (by omega)).trans g64
        have g75 := (k5 (m.next + 1) (by omega)).trans g74
        have nm0 : ¬ m.next = mr.next := by omega
        have nmi : ¬ m.next = i := by omega
        have on5 : OwnI rn 3 1 m5 nv C.nodes.length (ints C.nodes) := H4.on.keep (by omega) fun _ => k5 rn lni
        have sn : ShowsR 1 (m5.new (.cells [.int .i64 n] 3 true)) (.slice (some ⟨m5.next, 0, none⟩) 1 1) 1 [.int .i64 n] := ⟨_, _, rfl, by simp [shown, new_get], rfl⟩
        obtain ⟨na, nq, m6, r6, p6, o6, n6a, n6b, f6⟩ := (on5.ext (Ext.new m5 (.cells [.int .i64 n] 3 true))).push (P := Try.prog) (tx := 25) Try.underlying25 ⟨_, Try.underlying25⟩ ts3 (by decide) tz3 tb3 (by decide) rfl rfl sn (by omega)
        simp only [new_next] at n6a n6b f6
        have g6i : m6.get i = some (.cells [.int .u8 C.how, .int .i64 vn, .slice qa l.length qq, nv, av] 103 true) := by
          rw [f6 i (by omega) (fun h => (lni h.symm).elim), new_get_ne _ (by omega), g5i]
        have f6' : ∀ j, j < m5.next → (j = rn → nv = .slice none 0 0) → m6.get j = m5.get j := fun j h1 h2 => by rw [f6 j (by omega) h2, new_get_ne _ (by omega)]
        have z6 : Pz m5 m6 := (Pz.new _ _).trans (st_append p6).pz
        obtain ⟨nva, nvq, hnv⟩ := on5.is
        obtain ⟨m7, hm7⟩ : ∃ m7, m7 = m6.set i (.cells [.int .u8 C.how, .int .i64 vn, .slice qa l.length qq, .slice na (C.nodes.length + 1) nq, av] 103 true) := ⟨_, rfl⟩
        have st6 : opStore Try.prog 25 (.pointer (some ⟨i, 3, none⟩)) (.slice na (C.nodes.length + 1) nq) m6 = some m7 := by
          rw [hm7]
          exact store_one (P := Try.prog) g6i ts25 rfl (by simp)
        have k7 : ∀ j, j ≠ i → m7.get j = m6.get j := fun j hj => by rw [hm7]; exact set_get_ne _ hj
        have g7i : m7.get i = some (.cells [.int .u8 C.how, .int .i64 vn, .slice qa l.length qq, .slice na (C.nodes.length + 1) nq, av] 103 true) := by rw [hm7]; exact set_get _ _ _
        have N7 : m7.next = m6.next := by rw [hm7]; rfl
        have z7 : Pz m6 m7 := by rw [hm7]; exact Pz.set g6i _
        clear hm7
        have g77 : m7.get (m.next + 1) = some (.cells [.int .i64 a.e, .int .i64 a.q, .slice wa a.s.length wq] 39 true) := by
          rw [k7 _ (by omega), f6' _ (by omega) (fun h => by rcases hrn with h' | h'; exact h'; omega), g75]
        have zr7 : Pz m m7 := ((((x0.trans xr0).trans x4).pz.trans z5).trans z6).trans z7
        have shw : Shows (m7.new (.cells [] 5 true)) (.slice wa a.s.length wq) (byteCells a.s) := (fw.pz (zr7.trans (Pz.new _ _))).shows
        obtain ⟨m8, r8, p8, q2, q3, q4, x8⟩ := copy_row (P := Try.prog) wtc (added_bytes wtc shw) (by omega)
        have nx8 := x8.1
        have g8i := (x8.2 i (by omega)).trans g7i
        have g78 := (x8.2 (m.next + 1) (by omega)).trans g77
        have oa8 : OwnI ra 39 3 m8 av C.ans.length cs := by
          refine H4.oa.keepN (by omega) fun hv hlt => ?_
          have hlt' : ra < m.next := by
            rcases hra with h | h
            · exact (hv h).elim
            · exact h
          rw [x8.2 ra (by omega), k7 ra lai, f6' ra (by omega) (fun h => by rcases hna h.symm with h' | h'; exact h'; exact (hv h').elim), k5 ra lai]
        have sa : ShowsR 3 (m8.new (.cells [.int .i64 a.e, .int .i64 a.q, .slice (some ⟨r8, 0, none⟩) a.s.length 1] 39 true)) (.slice (some ⟨m8.next, 0, none⟩) 1 3) 1 [.int .i64 a.e, .int .i64 a.q, .slice (some ⟨r8, 0, none⟩) a.s.length 1] := ⟨_, _, rfl, by simp [shown, new_get], rfl⟩
        obtain ⟨aa, aq, m9, r9, p9, o9, n9a, n9b, f9⟩ := (oa8.ext (Ext.new m8 (.cells [.int .i64 a.e, .int .i64 a.q, .slice (some ⟨r8, 0, none⟩) a.s.length 1] 39 true))).push (P := Try.prog) (tx := 101) Try.underlying101 ⟨_, Try.underlying101⟩ ts39 (by decide) tz39 tb39 (by decide) rfl rfl sa (by omega)
        simp only [new_next] at n9a n9b f9
        have f9' : ∀ j, j < m8.next → (j = ra → av = .slice none 0 0) → m9.get j = m8.get j := fun j h1 h2 => by rw [f9 j (by omega) h2, new_get_ne _ (by omega)]
        have g9i : m9.get i = some (.cells [.int .u8 C.how, .int .i64 vn, .slice qa l.length qq, .slice na (C.nodes.length + 1) nq, av] 103 true) := by
          rw [f9' i (by omega) (fun h => (lai h.symm).elim), g8i]
        have g79 : m9.get (m.next + 1) = some (.cells [.int .i64 a.e, .int .i64 a.q, .slice wa a.s.length wq] 39 true) := by
          rw [f9' _ (by omega) (fun h => by rcases hra with h' | h'; exact h'; omega), g78]
        have z9 : Pz m8 m9 := (Pz.new _ _).trans (st_append p9).pz
        obtain ⟨ava, avq, hav⟩ := oa8.is
        obtain ⟨m10, hm10⟩ : ∃ m10, m10 = m9.set i (.cells [.int .u8 C.how, .int .i64 vn, .slice qa l.length qq, .slice na (C.nodes.length + 1) nq, .slice aa (C.ans.length + 1) aq] 103 true) := ⟨_, rfl⟩
        have st9 : opStore Try.prog 101 (.pointer (some ⟨i, 4, none⟩)) (.slice aa (C.ans.length + 1) aq) m9 = some m10 := by
          rw [hm10]
          exact store_one (P := Try.prog) g9i ts101 rfl (by simp)
        have k10 : ∀ j, j ≠ i → m10.get j = m9.get j := fun j hj => by rw [hm10]; exact set_get_ne _ hj
        have g10i : m10.get i = some (.cells [.int .u8 C.how, .int .i64 vn, .slice qa l.length qq, .slice na (C.nodes.length + 1) nq, .slice aa (C.ans.length + 1) aq] 103 true) := by rw [hm10]; exact set_get _ _ _
        have N10 : m10.next = m9.next := by rw [hm10]; rfl
        have z10 : Pz m9 m10 := by rw [hm10]; exact Pz.set g9i _
        clear hm10
        have nm1 : ¬ m.next + 1 = m7.next := by omega
        have nm2 : ¬ m.next + 1 = m8.next := by omega
        have nm3 : ¬ i = m7.next := by omega
        have nm4 : ¬ i = m8.next := by omega
        have nm5 : ¬ m.next + 1 = i := by omega
        have nm6 : ¬ i = m5.next := by omega
        simp only [wk6, Nat.reduceBEq, wk1, forall_eq, Nat.reduceAdd, reduceIte, Nat.reduceEqDiff, reduceCtorEq, opLen, Int.reduceLT, Int.reduceEq, opConvert, opIndexAddr, opLoad, Nat.reduceLT, undef, Nat.reduceLeDiff, Array.toList, bin_cteq, bldT, bldA, bldV, no_ints, one_int, no_bytes, one_ans, wk4, wk5, wk0, fxC22x]
        refine Loose.by (fun y => y = m.next) ?_
        simp only [wk6, Nat.reduceBEq, wk1, forall_eq, evOp, evParts, okVal, ev1, evs, evOpt, envOf, List.lookup_nil, List.size_toArray, List.length_cons, List.length_nil, List.range, List.range.loop, Nat.zero_add, Nat.reduceAdd, Bool.not_false, Bool.not_true, Bool.true_or, if_true, if_false, reduceIte, Nat.reduceEqDiff, reduceCtorEq, List.getElem?_toArray, List.getElem?_cons_zero, List.getElem?_cons_succ, guardOf, constOk, constCell, evBuiltin, opLen, List.head?_cons, foldV, min2V, max2V, Int.reduceLT, Int.reduceEq, Kend, resOf, Bool.false_eq_true, Bool.true_eq_false, IntKind.signed, IntKind.max, opConvert, opIndexAddr, opLoad, aggOf, Option.some.injEq, Value.bool.injEq, exists_eq_left', true_and, forall_const, decide_eq_true_eq, decide_eq_false_iff_not, Int.natCast_nonneg, and_self, Int.toNat_natCast, Nat.mul_one, List.append_nil, beq_self_eq_true, Nat.lt_irrefl, Nat.zero_lt_succ, Nat.reduceLT, Option.bind_some, undef, opBox, Value.cells, setCells, Nat.reduceLeDiff, Array.toList, bin_cteq, bldT, bldA, bldV, no_ints, one_int, no_bytes, one_ans, wk5, wk0, fxC22x, g6r, nm0, no_ints, p1, g64, st4, g65]
        simp only [wk6, Nat.reduceBEq, wk1, forall_eq, evOp, evParts, okVal, ev1, evs, evOpt, envOf, List.lookup_nil, List.size_toArray, List.length_cons, List.length_nil, List.range, List.range.loop, Nat.zero_add, Nat.reduceAdd, Bool.not_false, Bool.not_true, Bool.true_or, if_true, if_false, reduceIte, Nat.reduceEqDiff, reduceCtorEq, List.getElem?_toArray, List.getElem?_cons_zero, List.getElem?_cons_succ, guardOf, constOk, constCell, evBuiltin, opLen, List.head?_cons, foldV, min2V, max2V, Int.reduceLT, Int.reduceEq, Kend, resOf, Bool.false_eq_true, Bool.true_eq_false, IntKind.signed, IntKind.max, opConvert, opIndexAddr, opLoad, aggOf, Option.some.injEq, Value.bool.injEq, exists_eq_left', true_and, forall_const, decide_eq_true_eq, decide_eq_false_iff_not, Int.natCast_nonneg, and_self, Int.toNat_natCast, Nat.mul_one, List.append_nil, beq_self_eq_true, Nat.lt_irrefl, Nat.zero_lt_succ, Nat.reduceLT, Option.bind_some, undef, opBox, Value.cells, setCells, Nat.reduceLeDiff, Array.toList, bin_cteq, bldT, bldA, bldV, no_ints, one_int, no_bytes, one_ans, wk5, wk0, fxC22x, g5i, one_int, p6, nm6, g6i, st6]
        refine Loose.upto (fun y => y = i ∨ y = m.next + 1) 18 (by kernel_rfl) ?_
        rw [hav] at p9 g7i g8i g9i
        simp only [wk6, Nat.reduceBEq, wk1, forall_eq, evOp, evParts, okVal, ev1, evs, evOpt, envOf, List.lookup_nil, List.size_toArray, List.length_cons, List.length_nil, List.range, List.range.loop, Nat.zero_add, Nat.reduceAdd, Bool.not_false, Bool.not_true, Bool.true_or, if_true, if_false, reduceIte, Nat.reduceEqDiff, reduceCtorEq, List.getElem?_toArray, List.getElem?_cons_zero, List.getElem?_cons_succ, guardOf, constOk, constCell, evBuiltin, opLen, List.head?_cons, foldV, min2V, max2V, Int.reduceLT, Int.reduceEq, Kend, resOf, Bool.false_eq_true, Bool.true_eq_false, IntKind.signed, IntKind.max, opConvert, opIndexAddr, opLoad, aggOf, Option.some.injEq, Value.bool.injEq, exists_eq_left', true_and, forall_const, decide_eq_true_eq, decide_eq_false_iff_not, Int.natCast_nonneg, and_self, Int.toNat_natCast, Nat.mul_one, List.append_nil, beq_self_eq_true, Nat.lt_irrefl, Nat.zero_lt_succ, Nat.reduceLT, Option.bind_some, undef, opBox, Value.cells, setCells, Nat.reduceLeDiff, Array.toList, bin_cteq, bldT, bldA, bldV, no_ints, one_int, no_bytes, one_ans, wk5, wk0, fxC22x, forall_eq_or_imp, true_or, or_true, g7i, g77, no_bytes, nm1, nm3, p8, g8i, g78, one_ans, nm2, nm4, p9, g9i, g79, st9, nm5]
        have o4' : OwnI r4 3 1 m10 (.slice qa l.length qq) l.length (ints l) := o4.keep (by omega) fun hlt => by
          rw [k10 r4 (by omega), f9' r4 (by omega) (fun h => by rcases hra with h' | h'; exact h'; omega), x8.2 r4 (by omega), k7 r4 (by omega), f6' r4 (by omega) (fun h => by rcases hrn with h' | h'; exact h'; omega), k5 r4 (by omega)]
        have b8 : Brow 5 m10 r8 a.s := ⟨by omega, by rw [k10 r8 (by omega), f9' r8 (by omega) (fun h => by rcases hra with h' | h'; exact h'; omega), q2]⟩
        have o6' : OwnI r6 3 1 m10 (.slice na (C.nodes.length + 1) nq) (C.nodes.length + 1) (ints C.nodes ++ [.int .i64 n]) := o6.keep (by omega) fun hlt => by
          have hr6 : m5.next ≤ r6 := by omega
          rw [k10 r6 (by omega), f9' r6 (by omega) (fun h => by rcases hra with h' | h'; exact h'; omega), x8.2 r6 (by omega), k7 r6 (by omega)]
        have o9' : OwnI r9 39 3 m10 (.slice aa (C.ans.length + 1) aq) (C.ans.length + 1) (cs ++ [.int .i64 a.e, .int .i64 a.q, .slice (some ⟨r8, 0, none⟩) a.s.length 1]) := o9.keep (by omega) fun hlt => k10 r9 (by omega)
        obtain ⟨m11, z11, f11, N11, k11⟩ := o4'.frz
        have b11 : Brow 5 m11 r8 a.s := ⟨by have := b8.1; omega, (k11 r8 (by omega)).trans b8.2⟩
        obtain ⟨m12, z12, f12, N12, k12⟩ := b11.own.frz
        have hb8 := b8.1
        refine ⟨m12, z11.trans z12, fun zz => hK2 m12 _ _ _ r6 r9 (cs ++ [.int .i64 a.e, .int .i64 a.q, .slice (some ⟨r8, 0, none⟩) a.s.length 1]) ⟨(k12 i (by omega)).trans ((k11 i (by omega)).trans g10i), f11.pz z12.pz, ?_, ?_, ?_, ?_, by show k ≤ i ∧ i < m12.next; omega, by omega, by omega, by omega, by omega⟩ (by omega) (by omega) zz (fun j hj hji hjn hja => ?_) hok⟩
        · show OwnI r6 3 1 m12 _ (C.nodes ++ [n]).length (ints (C.nodes ++ [n]))
          rw [List.length_append, ints_append]
          exact o6'.keep (by omega) fun hlt => by rw [k12 r6 (by omega), k11 r6 (by omega)]
        · show OwnI r9 39 3 m12 _ (C.ans ++ [a]).length _
          rw [List.length_append]
          exact o9'.keep (by omega) fun hlt => by rw [k12 r9 (by omega), k11 r9 (by omega)]
        · exact (H.rows.mono (AnsC.pz zz)).append (RowsOf.one ⟨_, rfl, f12⟩)
        · show (C.nodes ++ [n]).length = (C.ans ++ [a]).length
          simp [hlen]
        · rw [k12 j (by omega), k11 j (by omega), k10 j hji, f9' j (by omega) hja, x8.2 j (by omega), k7 j hji, f6' j (by omega) hjn, k5 j hji, x4.2 j (by omega), xr0.2 j (by omega), x0.2 j (by omega)]
    | false =>
      rw [d3] at ln0
      simp only [wk6, Nat.reduceBEq, wk1, forall_eq, Nat.reduceAdd, reduceIte, Nat.reduceEqDiff, reduceCtorEq, Int.reduceLT, Int.reduceEq, opConvert, opIndexAddr, Nat.reduceLT, undef, Nat.reduceLeDiff, Array.toList, bin_cteq, bldT, bldA, bldV, no_ints, one_int, no_bytes, one_ans, wk4, wk5, wk0, fxC22x, lgn2, ln, ln0, lv62, lgv2]
      refine vsame_ret (fv.pz (x0.trans x12).pz).rd H2.fm.rd hl fun mr xr => ?_
      cases d5 : (decide (vn = C.vn) && decide (l = C.mem)) with
      | false =>
        simp only [wk6, Nat.reduceBEq, wk1, forall_eq, Nat.reduceAdd, reduceIte, Nat.reduceEqDiff, reduceCtorEq, opLen, Int.reduceLT, Int.reduceEq, opConvert, opIndexAddr, opLoad, Nat.reduceLT, undef, Nat.reduceLeDiff, Array.toList, bin_cteq, bldT, bldA, bldV, no_ints, one_int, no_bytes, one_ans, wk4, wk5, wk0, fxC22x]
        exact bad _ (x12.trans xr) (by rw [putOk, d1, d2, d3, d5]; rfl)
      | true =>
        have h3 : (decide (C.nodes = []) || (decide (vn = C.vn) && decide (l = C.mem))) = true := by rw [d3, d5]; rfl
        have lgnr := lgn mr xr
        simp only [wk6, Nat.reduceBEq, wk1, forall_eq, Nat.reduceAdd, reduceIte, Nat.reduceEqDiff, reduceCtorEq, opLen, Int.reduceLT, Int.reduceEq, opConvert, opIndexAddr, Nat.reduceLT, undef, Nat.reduceLeDiff, Array.toList, bin_cteq, bldT, bldA, bldV, no_ints, one_int, no_bytes, one_ans, wk4, wk5, wk0, fxC22x, lgnr]
        have Hr := H2.ext xr
        have xr0 := x12.trans xr
        refine among_ret Hr.on.rd (by omega) ?_
        cases d4 : decide (n ∈ C.nodes) with
        | true =>
          simp only [wk6, Nat.reduceBEq, wk1, forall_eq, Nat.reduceAdd, reduceIte, Nat.reduceEqDiff, reduceCtorEq, opLen, Int.reduceLT, Int.reduceEq, opConvert, opIndexAddr, opLoad, Nat.reduceLT, undef, Nat.reduceLeDiff, Array.toList, bin_cteq, bldT, bldA, bldV, no_ints, one_int, no_bytes, one_ans, wk4, wk5, wk0, fxC22x]
          exact bad _ xr0 (by rw [d3i true h3 true d4]; rfl)
        | false =>
          have hok : putOk C n vn l = true := by rw [d3i true h3 false d4]; rfl
          have g6r := (xr0.2 m.next (by omega)).trans g60
          have g7r := (xr0.2 (m.next + 1) (by omega)).trans g70
          have nr := xr0.1
          have li := H.li
          have lnk := H.ln
          have lak := H.la
          have lni := H.ni
          have lai := H.ai
          have hlen := H.len
          have hrn : nv = .slice none 0 0 ∨ rn < m.next := by
            obtain ⟨_, ⟨_, h⟩ | ⟨h, _⟩⟩ := H.on
            · exact .inl h
            · exact .inr h
          have hra : av = .slice none 0 0 ∨ ra < m.next := by
            obtain ⟨_, ⟨_, h⟩ | ⟨h, _⟩⟩ := H.oa
            · exact .inl h
            · exact .inr h
          have hna := own_ne H.on H.oa (by decide)
          obtain ⟨qa, qq, m4, r4, p1, o4, n4, n4', x4⟩ := ints_copy (fv.pz (x0.trans xr0).pz) hl
          have H4 := Hr.ext x4
          have nx4 := x4.1
          have g64 := (x4.2 m.next (by omega)).trans g6r
          have g74 := (x4.2 (m.next + 1) (by omega)).trans g7r
          have gi4 := H4.gi
          obtain ⟨m5, hm5⟩ : ∃ m5, m5 = m4.set i (.cells [.int .u8 C.how, .int .i64 vn, .slice qa l.length qq, nv, av] 103 true) := ⟨_, rfl⟩
          have st4 : opStore Try.prog 52 (.pointer (some ⟨i, 1, none⟩)) (viewV vn (.slice qa l.length qq)) m4 = some m5 := by
            rw [hm5]
            simp only [opStore, gi4, ts52, Value.cells]
            rfl
          have k5 : ∀ j, j ≠ i → m5.get j = m4.get j := fun j hj => by rw [hm5]; exact set_get_ne _ hj
          have g5i : m5.get i = some (.cells [.int .u8 C.how, .int .i64 vn, .slice qa l.length qq, nv, av] 103 true) := by rw [hm5]; exact set_get _ _ _
          have N5 : m5.next = m4.next := by rw [hm5]; rfl
          have z5 : Pz m4 m5 := by rw [hm5]; exact Pz.set gi4 _
          clear hm5
          have g65 := (k5 m.next (by omega)).trans g64
          have g75 := (k5 (m.next + 1) (by omega)).trans g74
          have nm0 : ¬ m.next = mr.next := by omega
          have nmi : ¬ m.next = i := by omega
          have on5 : OwnI rn 3 1 m5 nv C.nodes.length (ints C.nodes) := H4.on.keep (by omega) fun _ => k5 rn lni
          have sn : ShowsR 1 (m5.new (.cells [.int .i64 n] 3 true)) (.slice (some ⟨m5.next, 0, none⟩) 1 1) 1 [.int .i64 n] := ⟨_, _, rfl, by simp [shown, new_get], rfl⟩
          obtain ⟨na, nq, m6, r6, p6, o6, n6a, n6b, f6⟩ := (on5.ext (Ext.new m5 (.cells [.int .i64 n] 3 true))).push (P := Try.prog) (tx := 25) Try.underlying25 ⟨_, Try.underlying25⟩ ts3 (by decide) tz3 tb3 (by decide) rfl rfl sn (by omega)
          simp only [new_next] at n6a n6b f6
          have g6i : m6.get i = some (.cells [.int .u8 C.how, .int .i64 vn, .slice qa l.length qq, nv, av] 103 true) := by
            rw [f6 i (by omega) (fun h => (lni h.symm).elim), new_get_ne _ (by omega), g5i]
          have f6' : ∀ j, j < m5.next → (j = rn → nv = .slice none 0 0) → m6.get j = m5.get j := fun j h1 h2 => by rw [f6 j (by omega) h2, new_get_ne _ (by omega)]
          have z6 : Pz m5 m6 := (Pz.new _ _).trans (st_append p6).pz
          obtain ⟨nva, nvq, hnv⟩ := on5.is
          obtain ⟨m7, hm7⟩ : ∃ m7, m7 = m6.set i (.cells [.int .u8 C.how, .int .i64 vn, .slice qa l.length qq, .slice na (C.nodes.length + 1) nq, av] 103 true) := ⟨_, rfl⟩
          have st6 : opStore Try.prog 25 (.pointer (some ⟨i, 3, none⟩)) (.slice na (C.nodes.length + 1) nq) m6 = some m7 := by
            rw [hm7]
            exact store_one (P := Try.prog) g6i ts25 rfl (by simp)
          have k7 : ∀ j, j ≠ i → m7.get j = m6.get j := fun j hj => by rw [hm7]; exact set_get_ne _ hj
          have g7i : m7.get i = some (.cells [.int .u8 C.how, .int .i64 vn, .slice qa l.length qq, .slice na (C.nodes.length + 1) nq, av] 103 true) := by rw [hm7]; exact set_get _ _ _
          have N7 : m7.next = m6.next := by rw [hm7]; rfl
          have z7 : Pz m6 m7 := by rw [hm7]; exact Pz.set g6i _
          clear hm7
          have g77 : m7.get (m.next + 1) = some (.cells [.int .i64 a.e, .int .i64 a.q, .slice wa a.s.length wq] 39 true) := by
            rw [k7 _ (by omega), f6' _ (by omega) (fun h => by rcases hrn with h' | h'; exact h'; omega), g75]
          have zr7 : Pz m m7 := ((((x0.trans xr0).trans x4).pz.trans z5).trans z6).trans z7
          have shw : Shows (m7.new (.cells [] 5 true)) (.slice wa a.s.length wq) (byteCells a.s) := (fw.pz (zr7.trans (Pz.new _ _))).shows
          obtain ⟨m8, r8, p8, q2, q3, q4, x8⟩ := copy_row (P := Try.prog) wtc (added_bytes wtc shw) (by omega)
          have nx8 := x8.1
          have g8i := (x8.2 i (by omega)).trans g7i
          have g78 := (x8.2 (m.next + 1) (by omega)).trans g77
          have oa8 : OwnI ra 39 3 m8 av C.ans.length cs := by
            refine H4.oa.keepN (by omega) fun hv hlt => ?_
            have hlt' : ra < m.next := by
              rcases hra with h | h
              · exact (hv h).elim
              · exact h
            rw [x8.2 ra (by omega), k7 ra lai, f6' ra (by omega) (fun h => by rcases hna h.symm with h' | h'; exact h'; exact (hv h').elim), k5 ra lai]
          have sa : ShowsR 3 (m8.new (.cells [.int .i64 a.e, .int .i64 a.q, .slice (some ⟨r8, 0, none⟩) a.s.length 1] 39 true)) (.slice (some ⟨m8.next, 0, none⟩) 1 3) 1 [.int .i64 a.e, .int .i64 a.q, .slice (some ⟨r8, 0, none⟩) a.s.length 1] := ⟨_, _, rfl, by simp [shown, new_get], rfl⟩
          obtain ⟨aa, aq, m9, r9, p9, o9, n9a, n9b, f9⟩ := (oa8.ext (Ext.new m8 (.cells [.int .i64 a.e, .int .i64 a.q, .slice (some ⟨r8, 0, none⟩) a.s.length 1] 39 true))).push (P := Try.prog) (tx := 101) Try.underlying101 ⟨_, Try.underlying101⟩ ts39 (by decide) tz39 tb39 (by decide) rfl rfl sa (by omega)
          simp only [new_next] at n9a n9b f9
          have f9' : ∀ j, j < m8.next → (j = ra → av = .slice none 0 0) → m9.get j = m8.get j := fun j h1 h2 => by rw [f9 j (by omega) h2, new_get_ne _ (by omega)]
          have g9i : m9.get i = some (.cells [.int .u8 C.how, .int .i64 vn, .slice qa l.length qq, .slice na (C.nodes.length + 1) nq, av] 103 true) := by
            rw [f9' i (by omega) (fun h => (lai h.symm).elim), g8i]
          have g79 : m9.get (m.next + 1) = some (.cells [.int .i64 a.e, .int .i64 a.q, .slice wa a.s.length wq] 39 true) := by
            rw [f9' _ (by omega) (fun h => by rcases hra with h' | h'; exact h'; omega), g78]
          have z9 : Pz m8 m9 := (Pz.new _ _).trans (st_append p9).pz
          obtain ⟨ava, avq, hav⟩ := oa8.is
          obtain ⟨m10, hm10⟩ : ∃ m10, m10 = m9.set i (.cells [.int .u8 C.how, .int .i64 vn, .slice qa l.length qq, .slice na (C.nodes.length + 1) nq, .slice aa (C.ans.length + 1) aq] 103 true) := ⟨_, rfl⟩
          have st9 : opStore Try.prog 101 (.pointer (some ⟨i, 4, none⟩)) (.slice aa (C.ans.length + 1) aq) m9 = some m10 := by
            rw [hm10]
            exact store_one (P := Try.prog) g9i ts101 rfl (by simp)
          have k10 : ∀ j, j ≠ i → m10.get j = m9.get j := fun j hj => by rw [hm10]; exact set_get_ne _ hj
          have g10i : m10.get i = some (.cells [.int .u8 C.how, .int .i64 vn, .slice qa l.length qq, .slice na (C.nodes.length + 1) nq, .slice aa (C.ans.length + 1) aq] 103 true) := by rw [hm10]; exact set_get _ _ _
          have N10 : m10.next = m9.next := by rw [hm10]; rfl
          have z10 : Pz m9 m10 := by rw [hm10]; exact Pz.set g9i _
          clear hm10
          have nm1 : ¬ m.next + 1 = m7.next := by omega
          have nm2 : ¬ m.next + 1 = m8.next := by omega
          have nm3 : ¬ i = m7.next := by omega
          have nm4 : ¬ i = m8.next := by omega
          have nm5 : ¬ m.next + 1 = i := by omega
          have nm6 : ¬ i = m5.next := by omega
          simp only [wk6, Nat.reduceBEq, wk1, forall_eq, Nat.reduceAdd, reduceIte, Nat.reduceEqDiff, reduceCtorEq, opLen, Int.reduceLT, Int.reduceEq, opConvert, opIndexAddr, opLoad, Nat.reduceLT, undef, Nat.reduceLeDiff, Array.toList, bin_cteq, bldT, bldA, bldV, no_ints, one_int, no_bytes, one_ans, wk4, wk5, wk0, fxC22x]
          refine Loose.by (fun y => y = m.next) ?_
          simp only [wk6, Nat.reduceBEq, wk1, forall_eq, evOp, evParts, okVal, ev1, evs, evOpt, envOf, List.lookup_nil, List.size_toArray, List.length_cons, List.length_nil, List.range, List.range.loop, Nat.zero_add, Nat.reduceAdd, Bool.not_false, Bool.not_true, Bool.true_or, if_true, if_false, reduceIte, Nat.reduceEqDiff, reduceCtorEq, List.getElem?_toArray, List.getElem?_cons_zero, List.getElem?_cons_succ, guardOf, constOk, constCell, evBuiltin, opLen, List.head?_cons, foldV, min2V, max2V, Int.reduceLT, Int.reduceEq, Kend, resOf, Bool.false_eq_true, Bool.true_eq_false, IntKind.signed, IntKind.max, opConvert, opIndexAddr, opLoad, aggOf, Option.some.injEq, Value.bool.injEq, exists_eq_left', true_and, forall_const, decide_eq_true_eq, decide_eq_false_iff_not, Int.natCast_nonneg, and_self, Int.toNat_natCast, Nat.mul_one, List.append_nil, beq_self_eq_true, Nat.lt_irrefl, Nat.zero_lt_succ, Nat.reduceLT, Option.bind_some, undef, opBox, Value.cells, setCells, Nat.reduceLeDiff, Array.toList, bin_cteq, bldT, bldA, bldV, no_ints, one_int, no_bytes, one_ans, wk5, wk0, fxC22x, g6r, nm0, no_ints, p1, g64, st4, g65]
          simp only [wk6, Nat.reduceBEq, wk1, forall_eq, evOp, evParts, okVal, ev1, evs, evOpt, envOf, List.lookup_nil, List.size_toArray, List.length_cons, List.length_nil, List.range, List.range.loop, Nat.zero_add, Nat.reduceAdd, Bool.not_false, Bool.not_true, Bool.true_or, if_true, if_false, reduceIte, Nat.reduceEqDiff, reduceCtorEq, List.getElem?_toArray, List.getElem?_cons_zero, List.getElem?_cons_succ, guardOf, constOk, constCell, evBuiltin, opLen, List.head?_cons, foldV, min2V, max2V, Int.reduceLT, Int.reduceEq, Kend, resOf, Bool.false_eq_true, Bool.true_eq_false, IntKind.signed, IntKind.max, opConvert, opIndexAddr, opLoad, aggOf, Option.some.injEq, Value.bool.injEq, exists_eq_left', true_and, forall_const, decide_eq_true_eq, decide_eq_false_iff_not, Int.natCast_nonneg, and_self, Int.toNat_natCast, Nat.mul_one, List.append_nil, beq_self_eq_true, Nat.lt_irrefl, Nat.zero_lt_succ, Nat.reduceLT, Option.bind_some, undef, opBox, Value.cells, setCells, Nat.reduceLeDiff, Array.toList, bin_cteq, bldT, bldA, bldV, no_ints, one_int, no_bytes, one_ans, wk5, wk0, fxC22x, g5i, one_int, p6, nm6, g6i, st6]
          refine Loose.upto (fun y => y = i ∨ y = m.next + 1) 18 (by kernel_rfl) ?_
          rw [hav] at p9 g7i g8i g9i
          simp only [wk6, Nat.reduceBEq, wk1, forall_eq, evOp, evParts, okVal, ev1, evs, evOpt, envOf, List.lookup_nil, List.size_toArray, List.length_cons, List.length_nil, List.range, List.range.loop, Nat.zero_add, Nat.reduceAdd, Bool.not_false, Bool.not_true, Bool.true_or, if_true, if_false, reduceIte, Nat.reduceEqDiff, reduceCtorEq, List.getElem?_toArray, List.getElem?_cons_zero, List.getElem?_cons_succ, guardOf, constOk, constCell, evBuiltin, opLen, List.head?_cons, foldV, min2V, max2V, Int.reduceLT, Int.reduceEq, Kend, resOf, Bool.false_eq_true, Bool.true_eq_false, IntKind.signed, IntKind.max, opConvert, opIndexAddr, opLoad, aggOf, Option.some.injEq, Value.bool.injEq, exists_eq_left', true_and, forall_const, decide_eq_true_eq, decide_eq_false_iff_not, Int.natCast_nonneg, and_self, Int.toNat_natCast, Nat.mul_one, List.append_nil, beq_self_eq_true, Nat.lt_irrefl, Nat.zero_lt_succ, Nat.reduceLT, Option.bind_some, undef, opBox, Value.cells, setCells, Nat.reduceLeDiff, Array.toList, bin_cteq, bldT, bldA, bldV, no_ints, one_int, no_bytes, one_ans, wk5, wk0, fxC22x, forall_eq_or_imp, true_or, or_true, g7i, g77, no_bytes, nm1, nm3, p8, g8i, g78, one_ans, nm2, nm4, p9, g9i, g79, st9, nm5]
          have o4' : OwnI r4 3 1 m10 (.slice qa l.length qq) l.length (ints l) := o4.keep (by omega) fun hlt => by
            rw [k10 r4 (by omega), f9' r4 (by omega) (fun h => by rcases hra with h' | h'; exact h'; omega), x8.2 r4 (by omega), k7 r4 (by omega), f6' r4 (by omega) (fun h => by rcases hrn with h' | h'; exact h'; omega), k5 r4 (by omega)]
          have b8 : Brow 5 m10 r8 a.s := ⟨by omega, by rw [k10 r8 (by omega), f9' r8 (by omega) (fun h => by rcases hra with h' | h'; exact h'; omega), q2]⟩
          have o6' : OwnI r6 3 1 m10 (.slice na (C.nodes.length + 1) nq) (C.nodes.length + 1) (ints C.nodes ++ [.int .i64 n]) := o6.keep (by omega) fun hlt => by
            have hr6 : m5.next ≤ r6 := by omega
            rw [k10 r6 (by omega), f9' r6 (by omega) (fun h => by rcases hra with h' | h'; exact h'; omega), x8.2 r6 (by omega), k7 r6 (by omega)]
          have o9' : OwnI r9 39 3 m10 (.slice aa (C.ans.length + 1) aq) (C.ans.length + 1) (cs ++ [.int .i64 a.e, .int .i64 a.q, .slice (some ⟨r8, 0, none⟩) a.s.length 1]) := o9.keep (by omega) fun hlt => k10 r9 (by omega)
          obtain ⟨m11, z11, f11, N11, k11⟩ := o4'.frz
          have b11 : Brow 5 m11 r8 a.s := ⟨by have := b8.1; omega, (k11 r8 (by omega)).trans b8.2⟩
          obtain ⟨m12, z12, f12, N12, k12⟩ := b11.own.frz
          have hb8 := b8.1
          refine ⟨m12, z11.trans z12, fun zz => hK2 m12 _ _ _ r6 r9 (cs ++ [.int .i64 a.e, .int .i64 a.q, .slice (some ⟨r8, 0, none⟩) a.s.length 1]) ⟨(k12 i (by omega)).trans ((k11 i (by omega)).trans g10i), f11.pz z12.pz, ?_, ?_, ?_, ?_, by show k ≤ i ∧ i < m12.next; omega, by omega, by omega, by omega, by omega⟩ (by omega) (by omega) zz (fun j hj hji hjn hja => ?_) hok⟩
          · show OwnI r6 3 1 m12 _ (C.nodes ++ [n]).length (ints (C.nodes ++ [n]))
            rw [List.length_append, ints_append]
            exact o6'.keep (by omega) fun hlt => by rw [k12 r6 (by omega), k11 r6 (by omega)]
          · show OwnI r9 39 3 m12 _ (C.ans ++ [a]).length _
            rw [List.length_append]
            exact o9'.keep (by omega) fun hlt => by rw [k12 r9 (by omega), k11 r9 (by omega)]
          · exact (H.rows.mono (AnsC.pz zz)).append (RowsOf.one ⟨_, rfl, f12⟩)
          · show (C.nodes ++ [n]).length = (C.ans ++ [a]).length
            simp [hlen]
          · rw [k12 j (by omega), k11 j (by omega), k10 j hji, f9' j (by omega) hja, x8.2 j (by omega), k7 j hji, f6' j (by omega) hjn, k5 j hji, x4.2 j (by omega), xr0.2 j (by omega), x0.2 j (by omega)]
end Go.Proofs.Ytimjcfaciiimmaa
