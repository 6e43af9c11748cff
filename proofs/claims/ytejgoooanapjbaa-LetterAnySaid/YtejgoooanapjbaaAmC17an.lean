/- A text of the abstract machine. -/


/- What the functions of answers come to. -/
import Derived.Test.YtejgoooanapjbaaAmC17a
import Derived.Test.YtejgoooanapjbaaAmBun
set_option linter.unusedSimpArgs false
set_option linter.unusedVariables false
set_option maxRecDepth 100000
set_option maxHeartbeats 4000000
namespace Go.Proofs.Ytejgoooanapjbaa
open Go Go.AM Go.AM.Crc Go.AM.Wire
theorem fxC17an : type_of% (And.intro (And.intro (And.intro (And.intro (And.intro (And.intro @Try.underlying3 @Try.underlying4) (And.intro @Try.underlying5 (And.intro @Try.underlying9 @Try.underlying23))) (And.intro (And.intro @Try.underlying22 @Try.underlying0) (And.intro @Try.underlying100 (And.intro @Try.underlying24 @Try.underlying66)))) (And.intro (And.intro (And.intro @Try.underlying68 @Try.underlying78) (And.intro @Try.underlying103 (And.intro @Try.underlying47 @Try.underlying49))) (And.intro (And.intro @ts3 (And.intro @ts4 @ts5)) (And.intro @ts9 (And.intro @ts23 @ts22))))) (And.intro (And.intro (And.intro (And.intro @ts0 @ts100) (And.intro @ts24 (And.intro @ts66 @ts68))) (And.intro (And.intro @ts78 @ts103) (And.intro @ts47 (And.intro @ts49 @tz3)))) (And.intro (And.intro (And.intro @tz4 @tz5) (And.intro @tz9 (And.intro @tz23 @tz22))) (And.intro (And.intro @tz0 (And.intro @tz100 @tz24)) (And.intro @tz66 (And.intro @tz68 @tz78)))))) (And.intro (And.intro (And.intro (And.intro (And.intro @tz103 @tz47) (And.intro @tz49 (And.intro @tb3 @tb4))) (And.intro (And.intro @tb5 @tb9) (And.intro @tb23 (And.intro @tb22 @tb0)))) (And.intro (And.intro (And.intro @tb100 @tb24) (And.intro @tb66 (And.intro @tb68 @tb78))) (And.intro (And.intro @tb103 (And.intro @tb47 @tb49)) (And.intro @fr18 (And.intro @fr55 @fr35))))) (And.intro (And.intro (And.intro (And.intro @fr58 @fr57) (And.intro @fr42 (And.intro @fr54 @fr23))) (And.intro (And.intro @fr36 (And.intro @bz103 @al68)) (And.intro @al103 (And.intro @fa68_0 @fa103_0)))) (And.intro (And.intro (And.intro @fa103_1 @fa103_2) (And.intro @bin_weq (And.intro @bin_wneq @bin_req))) (And.intro (And.intro @bin_rneq (And.intro @bz49 @al49)) (And.intro @fa49_0 (And.intro @fa49_1 @fa49_2))))))) := (And.intro (And.intro (And.intro (And.intro (And.intro (And.intro @Try.underlying3 @Try.underlying4) (And.intro @Try.underlying5 (And.intro @Try.underlying9 @Try.underlying23))) (And.intro (And.intro @Try.underlying22 @Try.underlying0) (And.intro @Try.underlying100 (And.intro @Try.underlying24 @Try.underlying66)))) (And.intro (And.intro (And.intro @Try.underlying68 @Try.underlying78) (And.intro @Try.underlying103 (And.intro @Try.underlying47 @Try.underlying49))) (And.intro (And.intro @ts3 (And.intro @ts4 @ts5)) (And.intro @ts9 (And.intro @ts23 @ts22))))) (And.intro (And.intro (And.intro (And.intro @ts0 @ts100) (And.intro @ts24 (And.intro @ts66 @ts68))) (And.intro (And.intro @ts78 @ts103) (And.intro @ts47 (And.intro @ts49 @tz3)))) (And.intro (And.intro (And.intro @tz4 @tz5) (And.intro @tz9 (And.intro @tz23 @tz22))) (And.intro (And.intro @tz0 (And.intro @tz100 @tz24)) (And.intro @tz66 (And.intro @tz68 @tz78)))))) (And.intro (And.intro (And.intro (And.intro (And.intro @tz103 @tz47) (And.intro @tz49 (And.intro @tb3 @tb4))) (And.intro (And.intro @tb5 @tb9) (And.intro @tb23 (And.intro @tb22 @tb0)))) (And.intro (And.intro (And.intro @tb100 @tb24) (And.intro @tb66 (And.intro @tb68 @tb78))) (And.intro (And.intro @tb103 (And.intro @tb47 @tb49)) (And.intro @fr18 (And.intro @fr55 @fr35))))) (And.intro (And.intro (And.intro (And.intro @fr58 @fr57) (And.intro @fr42 (And.intro @fr54 @fr23))) (And.intro (And.intro @fr36 (And.intro @bz103 @al68)) (And.intro @al103 (And.intro @fa68_0 @fa103_0)))) (And.intro (And.intro (And.intro @fa103_1 @fa103_2) (And.intro @bin_weq (And.intro @bin_wneq @bin_req))) (And.intro (And.intro @bin_rneq (And.intro @bz49 @al49)) (And.intro @fa49_0 (And.intro @fa49_1 @fa49_2)))))))
abbrev ansV (e r : Int) (v : Value) : Value := .agg #[.int .i64 e, .int .i64 r, v]

theorem ans_put_ret {m : Mem} {i r : Nat} {bs s : List Int} {e q : Int} {v : Value} (hw : Wri m i r bs) (hv : ∀ M, Fr2 i r m M → Shows M v (byteCells s)) (he : 0 ≤ e ∧ e < 65536) (hq : 0 ≤ q ∧ q < 65536) (hs : Bytes s) (hl : bs.length < 2 ^ 37) (hl2 : s.length < 65536)
    {K : Value → Mem → Prop} (hK : ∀ m' r', Wri m' i r' (bs ++ ansB e q s) → (r' = r ∨ m.next ≤ r') → Fr2 i r m m' → K (.tuple #[]) m') : Ret Try.prog 23 [ansV e q v, .pointer (some ⟨i, 0, none⟩)] m K := by
  refine ret_wp [] Try.func23 rfl (by decide) (by kernel_rfl) ?_
  have e16 : IntKind.u16.wrap e = e := by rw [u16_lo]; omega
  have q16 : IntKind.u16.wrap q = q := by rw [u16_lo]; omega
  simp only [Nat.reduceAdd, reduceIte, Nat.reduceEqDiff, reduceCtorEq, opLen, Int.reduceLT, Int.reduceEq, opConvert, opIndexAddr, opLoad, Nat.reduceLT, undef, Nat.reduceLeDiff, Array.toList, wk4, wk5, wk0, fxC17an, e16]
  have hi := hw.1
  have hr := hw.2.1
  have w0 := hw.ext (Ext.new m (.cells [.int .i64 e, .int .i64 q, v] 49 true))
  have g0 := new_get m (.cells [.int .i64 e, .int .i64 q, v] 49 true)
  have f0 : Fr2 i r m (m.new (.cells [.int .i64 e, .int .i64 q, v] 49 true)) := ⟨Nat.le_succ _, fun j hj _ _ => new_get_ne _ (by omega)⟩
  have nx : m.next < (m.new (.cells [.int .i64 e, .int .i64 q, v] 49 true)).next := Nat.lt_succ_self _
  generalize m.new (.cells [.int .i64 e, .int .i64 q, v] 49 true) = m0 at w0 g0 f0 nx ⊢
  refine word_ret w0 he.1 he.2 (by omega) fun m1 r1 w1 n1 f1 => ?_
  have g1 := (f1.2 m.next nx (by omega) (by omega)).trans g0
  have f01 := f0.trans f1 (.inl rfl)
  have l1 := f1.1
  simp only [Nat.reduceAdd, reduceIte, Nat.reduceEqDiff, reduceCtorEq, opLen, Int.reduceLT, Int.reduceEq, opConvert, opIndexAddr, opLoad, Nat.reduceLT, undef, Nat.reduceLeDiff, Array.toList, wk4, wk5, wk0, fxC17an, g1, q16]
  refine word_ret w1 hq.1 hq.2 (by simp only [List.length_append, wordB_length]; omega) fun m2 r2 w2 n2 f2 => ?_
  have g2 := (f2.2 m.next (by omega) (by omega) (by omega)).trans g1
  have f02 := f01.trans f2 (by omega)
  have l2 := f2.1
  have c3 := conv_string (P := Try.prog) Try.underlying24 Try.underlying5 Try.underlying9 (hv m2 f02)
  simp only [Nat.reduceAdd, reduceIte, Nat.reduceEqDiff, reduceCtorEq, opLen, Int.reduceLT, Int.reduceEq, opIndexAddr, opLoad, Nat.reduceLT, undef, Nat.reduceLeDiff, Array.toList, wk4, wk5, wk0, fxC17an, g2, c3]
  refine text_ret w2 hs (by simp only [List.length_append, wordB_length]; omega) hl2 fun m4 r4 w4 n4 f4 => ?_
  simp only [Nat.reduceAdd, reduceIte, Nat.reduceEqDiff, reduceCtorEq, opLen, Int.reduceLT, Int.reduceEq, opConvert, opIndexAddr, opLoad, Nat.reduceLT, undef, Nat.reduceLeDiff, Array.toList, wk4, wk5, wk0, fxC17an]
  have eb : bs ++ wordB e ++ wordB q ++ textB s = bs ++ ansB e q s := by simp only [ansB, List.append_assoc]
  rw [eb] at w4
  exact hK _ r4 w4 (by have := f0.1; omega) (f02.trans f4 (by have := f0.1; omega))

theorem ans_check_ret {m : Mem} {e q : Int} {v : Value} {s : List Int} (hv : Shows m v (byteCells s)) (he : 0 ≤ e ∧ e < 65536) (hq : 0 ≤ q ∧ q < 65536) (hs : s.length ≤ 4000) {K : Value → Mem → Prop} (hK : ∀ m', Ext m m' → K (.int .i64 0) m') : Ret Try.prog 42 [ansV e q v] m K := by
  refine ret_wp [] Try.func42 rfl (by decide) (by kernel_rfl) ?_
  obtain ⟨a, z, rfl, _⟩ := hv
  have h1 : ¬ e < 0 := by omega
  have h2 : ¬ 65535 < e := by omega
  have h4 : ¬ q < 0 := by omega
  have h5 : ¬ 65535 < q := by omega
  have h3 : ¬ 4000 < ((byteCells s).length : Int) := by rw [byteCells_length]; omega
  simp only [Nat.reduceAdd, reduceIte, Nat.reduceEqDiff, reduceCtorEq, opLen, Int.reduceLT, Int.reduceEq, opConvert, opIndexAddr, opLoad, Nat.reduceLT, undef, Nat.reduceLeDiff, Array.toList, wk4, wk5, wk0, fxC17an, h1, h2, h3, h4, h5]
  exact hK _ (Ext.new _ _)

theorem ans_alike_ret {m : Mem} {e q e' q' : Int} {v v' : Value} {s s' : List Int} (h1 : ∀ M, Ext m M → Shows M v (byteCells s)) (h2 : ∀ M, Ext m M → Shows M v' (byteCells s')) {K : Value → Mem → Prop} (hK : ∀ m', Ext m m' → K (.bool (decide (e = e') && (decide (q = q') && decide (strOf s = strOf s')))) m') : Ret Try.prog 54 [ansV e q v, ansV e' q' v'] m K := by
  refine ret_wp [] Try.func54 rfl (by decide) (by kernel_rfl) ?_
  have hx : ∀ a b : Blk, Ext m ((m.new a).new b) := fun a b => (Ext.new _ _).trans (Ext.new _ _)
  have c1 := fun a b => conv_string (P := Try.prog) Try.underlying24 Try.underlying5 Try.underlying9 (h1 _ (hx a b))
  have c2 := fun a b => conv_string (P := Try.prog) Try.underlying24 Try.underlying5 Try.underlying9 (h2 _ (hx a b))
  obtain ⟨a1, z1, rfl, _⟩ := id (h1 m (Ext.refl m))
  obtain ⟨a2, z2, rfl, _⟩ := id (h2 m (Ext.refl m))
  simp only [Nat.reduceAdd, reduceIte, Nat.reduceEqDiff, reduceCtorEq, opLen, Int.reduceLT, Int.reduceEq, opIndexAddr, opLoad, Nat.reduceLT, undef, Nat.reduceLeDiff, Array.toList, wk4, wk5, wk0, fxC17an]
  cases d1 : decide (e = e') with
  | false =>
    rw [d1] at hK
    simp only [Nat.reduceAdd, reduceIte, Nat.reduceEqDiff, reduceCtorEq, opLen, Int.reduceLT, Int.reduceEq, opIndexAddr, opLoad, Nat.reduceLT, undef, Nat.reduceLeDiff, Array.toList, wk4, wk5, wk0, fxC17an, d1]
    exact hK _ (hx _ _)
  | true =>
    rw [d1] at hK
    simp only [Nat.reduceAdd, reduceIte, Nat.reduceEqDiff, reduceCtorEq, opLen, Int.reduceLT, Int.reduceEq, opIndexAddr, opLoad, Nat.reduceLT, undef, Nat.reduceLeDiff, Array.toList, wk4, wk5, wk0, fxC17an, d1]
    cases d2 : decide (q = q') with
    | false =>
      rw [d2] at hK
      simp only [Nat.reduceAdd, reduceIte, Nat.reduceEqDiff, reduceCtorEq, opLen, Int.reduceLT, Int.reduceEq, opIndexAddr, opLoad, Nat.reduceLT, undef, Nat.reduceLeDiff, Array.toList, wk4, wk5, wk0, fxC17an, d1, d2]
      exact hK _ (hx _ _)
    | true =>
      rw [d2] at hK
      simp only [Nat.reduceAdd, reduceIte, Nat.reduceEqDiff, reduceCtorEq, opLen, Int.reduceLT, Int.reduceEq, opIndexAddr, opLoad, Nat.reduceLT, undef, Nat.reduceLeDiff, Array.toList, wk4, wk5, wk0, fxC17an, d1, d2, c1, c2]
      exact hK _ (hx _ _)

theorem bldA (e q : Int) : opBuild Try.prog 49 [(0, .int .i64 e), (1, .int .i64 q)] = some (.agg #[.int .i64 e, .int .i64 q, .slice none 0 0]) := by kernel_rfl
theorem ans_take_ret {m : Mem} {i r : Nat} {all : List Int} {s : Nat × Int} (hr : Rri m i r all s) (hl : all.length < 2 ^ 40) (hb : Bytes all)
    {K : Value → Mem → Prop} (hK : ∀ m' v, Rri m' i r all (ansS all s).2 → Fr1 i m m' → Fresh 5 m m' v (ansS all s).1.args → K (ansV (ansS all s).1.e (ansS all s).1.r v) m') : Ret Try.prog 36 [.pointer (some ⟨i, 0, none⟩)] m K := by
  refine ret_wp [] Try.func36 rfl (by decide) (by kernel_rfl) ?_
  simp only [Nat.reduceAdd, reduceIte, Nat.reduceEqDiff, reduceCtorEq, opLen, Int.reduceLT, Int.reduceEq, opConvert, opIndexAddr, opLoad, Nat.reduceLT, undef, Nat.reduceLeDiff, Array.toList, wk4, wk5, wk0, fxC17an]
  obtain ⟨Z, hZ⟩ : ∃ Z, Z = Blk.cells [.int .i64 0, .int .i64 0, .slice none 0 0] 49 true := ⟨_, rfl⟩
  rw [← hZ]
  have x0 : Ext m (m.new Z) := Ext.new _ _
  have nx : (m.new Z).next = m.next + 1 := rfl
  have gz : (m.new Z).get m.next = some Z := new_get _ _
  have R0 := hr.ext x0
  have hi := hr.1
  have hri := hr.2.1
  generalize m.new Z = m0 at x0 nx gz R0 ⊢
  subst hZ
  have v1 := wordS_val (s := s) hb
  have v2 := wordS_val (s := (wordS all s).2) hb
  have w1 : IntKind.i64.wrap (wordS all s).1 = (wordS all s).1 := wrap_i64 (by omega) (by omega)
  have w2 : IntKind.i64.wrap (wordS all (wordS all s).2).1 = (wordS all (wordS all s).2).1 := wrap_i64 (by omega) (by omega)
  refine rword_ret R0 hl hb fun m1 R1 f1 => ?_
  simp only [Nat.reduceAdd, reduceIte, Nat.reduceEqDiff, reduceCtorEq, opLen, Int.reduceLT, Int.reduceEq, opConvert, opIndexAddr, opLoad, Nat.reduceLT, undef, Nat.reduceLeDiff, Array.toList, wk4, wk5, wk0, fxC17an, w1]
  refine rword_ret R1 hl hb fun m2 R2 f2 => ?_
  have l1 := f1.1
  have l2 := f2.1
  have gz2 := ((f2.2 m.next (by omega) (by omega)).trans (f1.2 m.next (by omega) (by omega))).trans gz
  have F2 : Fr1 i m m2 := ⟨by omega, fun j hj hne => by rw [f2.2 j (by omega) hne, f1.2 j (by omega) hne, x0.2 j hj]⟩
  have ec : ansS all s = if (textS all 4000 (wordS all (wordS all s).2).2).2.2 ≠ 0 then (⟨0, 0, []⟩, (textS all 4000 (wordS all (wordS all s).2).2).2) else (⟨(wordS all s).1, (wordS all (wordS all s).2).1, (textS all 4000 (wordS all (wordS all s).2).2).1⟩, (textS all 4000 (wordS all (wordS all s).2).2).2) := rfl
  simp only [Nat.reduceAdd, reduceIte, Nat.reduceEqDiff, reduceCtorEq, opLen, Int.reduceLT, Int.reduceEq, opConvert, opIndexAddr, opLoad, Nat.reduceLT, undef, Nat.reduceLeDiff, Array.toList, wk4, wk5, wk0, fxC17an, w1, w2, bldA]
  generalize (wordS all (wordS all s).2).1 = B at ec ⊢
  generalize (wordS all s).1 = A at ec ⊢
  obtain ⟨m5, hm5⟩ : ∃ m5, m5 = (m2.new (.cells [.int .i64 0, .int .i64 0, .slice none 0 0] 49 true)).set m2.next (.cells [.int .i64 A, .int .i64 B, .slice none 0 0] 49 true) := ⟨_, rfl⟩
  rw [← hm5]
  have n5 : m5.next = m2.next + 1 := by rw [hm5]; rfl
  have k5 : ∀ j, j ≠ m2.next → m5.get j = m2.get j := fun j hj => by rw [hm5, set_get_ne _ hj, new_get_ne _ hj]
  have g5 : m5.get m2.next = some (.cells [.int .i64 A, .int .i64 B, .slice none 0 0] 49 true) := by rw [hm5, set_get]
  clear hm5
  have R5 := R2.keep (by omega) (k5 i (by omega)) (k5 r (by omega))
  refine rtext_ret R5 hl hb fun m6 R6 f6 => ?_
  have l6 := f6.1
  have g6 := (f6.2 m2.next (by omega) (by omega)).trans g5
  have gz6 : m6.get m.next = _ := (f6.2 m.next (by omega) (by omega)).trans ((k5 m.next (by omega)).trans gz2)
  obtain ⟨_, td, tl, _⟩ := text_good (s := (wordS all (wordS all s).2).2) (most := 4000) hb R5.2.2.2.1
  have F6 : Fr1 i m m6 := ⟨by omega, fun j hj hne => by rw [f6.2 j (by omega) hne, k5 j (by omega), F2.2 j hj hne]⟩
  generalize textS all 4000 (wordS all (wordS all s).2).2 = D at R6 td tl ec ⊢
  obtain ⟨m7, hm7⟩ : ∃ m7, m7 = m6.new (.cells (byteCells D.1) 5 true) := ⟨_, rfl⟩
  have e7 := conv_bytes (m := m6) td (by omega)
  rw [← hm7] at e7
  have b7 : Brow 5 m7 m6.next D.1 := by rw [hm7]; exact Brow.made _ _
  have x7 : Ext m6 m7 := by rw [hm7]; exact Ext.new _ _
  have l7 := x7.1
  have g7 := (x7.2 m2.next (by omega)).trans g6
  clear hm7
  simp only [Nat.reduceAdd, reduceIte, Nat.reduceEqDiff, reduceCtorEq, opLen, Int.reduceLT, Int.reduceEq, opIndexAddr, opLoad, Nat.reduceLT, undef, Nat.reduceLeDiff, Array.toList, wk4, wk5, wk0, fxC17an, e7, g7]
  obtain ⟨m8, hm8⟩ : ∃ m8, m8 = m7.set m2.next (.cells [.int .i64 A, .int .i64 B, .slice (some ⟨m6.next, 0, none⟩) D.1.length 1] 49 true) := ⟨_, rfl⟩
  rw [← hm8]
  have n8 : m8.next = m7.next := by rw [hm8]; rfl
  have k8 : ∀ j, j ≠ m2.next → m8.get j = m7.get j := fun j hj => by rw [hm8, set_get_ne _ hj]
  have g8 : m8.get m2.next = some (.cells [.int .i64 A, .int .i64 B, .slice (some ⟨m6.next, 0, none⟩) D.1.length 1] 49 true) := by rw [hm8, set_get]
  have gz8 := (k8 m.next (by omega)).trans ((x7.2 m.next (by omega)).trans gz6)
  clear hm8
  have R8 := (R6.ext x7).keep (Nat.le_of_eq n8.symm) (k8 i (by omega)) (k8 r (by omega))
  have b8 : Brow 5 m8 m6.next D.1 := b7.keep (Nat.le_of_eq n8.symm) (k8 _ (by omega))
  refine err_ret R8 ?_
  have fin : ∀ Z : Blk, Rri (m8.set m.next Z) i r all D.2 ∧ Fr1 i m (m8.set m.next Z) ∧ Brow 5 (m8.set m.next Z) m6.next D.1 := fun Z => by
    refine ⟨R8.keep (Nat.le_refl _) (set_get_ne _ (by omega)) (set_get_ne _ (by omega)), ⟨by simp only [set_next]; omega, fun j hj hne => ?_⟩, b8.keep (Nat.le_refl _) (set_get_ne _ (by omega))⟩
    rw [set_get_ne _ (by omega), k8 j (by omega), x7.2 j (by omega), F6.2 j hj hne]
  by_cases he : D.2.2 = 0
  · rw [if_neg (by exact fun h => h he)] at ec
    rw [ec] at hK
    simp only [Nat.reduceAdd, reduceIte, Nat.reduceEqDiff, reduceCtorEq, opLen, Int.reduceLT, Int.reduceEq, opConvert, opIndexAddr, opLoad, Nat.reduceLT, undef, Nat.reduceLeDiff, Array.toList, wk4, wk5, wk0, fxC17an, he, g8, gz8]
    exact hK _ (rowV m6.next D.1) (fin _).1 (fin _).2.1 (.inr ⟨_, rfl, by omega, (fin _).2.2⟩)
  · rw [if_pos he] at ec
    rw [ec] at hK
    simp only [Nat.reduceAdd, reduceIte, Nat.reduceEqDiff, reduceCtorEq, opLen, Int.reduceLT, Int.reduceEq, opConvert, opIndexAddr, opLoad, Nat.reduceLT, undef, Nat.reduceLeDiff, Array.toList, wk4, wk5, wk0, fxC17an, he, gz8]
    exact hK _ _ (fin _).1 (fin _).2.1 (.inl ⟨rfl, rfl⟩)
end Go.Proofs.Ytejgoooanapjbaa
