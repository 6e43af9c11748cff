/- A text of the abstract machine. -/


/- What the functions of calls come to. -/
import Derived.Test.YtejgoooanapjbaaAmC17w
import Derived.Test.YtejgoooanapjbaaAmWireG
import Derived.Test.YtejgoooanapjbaaAmBun
set_option linter.unusedSimpArgs false
set_option linter.unusedVariables false
set_option maxRecDepth 100000
set_option maxHeartbeats 4000000
namespace Go.Proofs.Ytejgoooanapjbaa
open Go Go.AM Go.AM.Crc Go.AM.Wire
theorem fxC17a : type_of% (And.intro (And.intro (And.intro (And.intro (And.intro (And.intro @Try.underlying3 @Try.underlying4) (And.intro @Try.underlying5 (And.intro @Try.underlying9 @Try.underlying23))) (And.intro (And.intro @Try.underlying22 (And.intro @Try.underlying0 @Try.underlying100)) (And.intro @Try.underlying24 (And.intro @Try.underlying66 @Try.underlying68)))) (And.intro (And.intro (And.intro @Try.underlying78 (And.intro @Try.underlying103 @Try.underlying47)) (And.intro @Try.underlying41 (And.intro @Try.underlying39 @ts3))) (And.intro (And.intro @ts4 (And.intro @ts5 @ts9)) (And.intro @ts23 (And.intro @ts22 @ts0))))) (And.intro (And.intro (And.intro (And.intro @ts100 @ts24) (And.intro @ts66 (And.intro @ts68 @ts78))) (And.intro (And.intro @ts103 (And.intro @ts47 @ts41)) (And.intro @ts39 (And.intro @tz3 @tz4)))) (And.intro (And.intro (And.intro @tz5 (And.intro @tz9 @tz23)) (And.intro @tz22 (And.intro @tz0 @tz100))) (And.intro (And.intro @tz24 (And.intro @tz66 @tz68)) (And.intro @tz78 (And.intro @tz103 @tz47)))))) (And.intro (And.intro (And.intro (And.intro (And.intro @tz41 @tz39) (And.intro @tb3 (And.intro @tb4 @tb5))) (And.intro (And.intro @tb9 (And.intro @tb23 @tb22)) (And.intro @tb0 (And.intro @tb100 @tb24)))) (And.intro (And.intro (And.intro @tb66 (And.intro @tb68 @tb78)) (And.intro @tb103 (And.intro @tb47 @tb41))) (And.intro (And.intro @tb39 (And.intro @fr18 @fr55)) (And.intro @fr35 (And.intro @fr58 @fr57))))) (And.intro (And.intro (And.intro (And.intro @fr41 (And.intro @fr53 @fr22)) (And.intro @fr34 (And.intro @bz103 @al68))) (And.intro (And.intro @al103 (And.intro @fa68_0 @fa103_0)) (And.intro @fa103_1 (And.intro @fa103_2 @bin_weq)))) (And.intro (And.intro (And.intro @bin_wneq (And.intro @bin_req @bin_rneq)) (And.intro @bz41 (And.intro @al41 @bz39))) (And.intro (And.intro @fa41_0 (And.intro @fa41_1 @fa41_2)) (And.intro @fa39_0 (And.intro @fa39_1 @bz68))))))) := (And.intro (And.intro (And.intro (And.intro (And.intro (And.intro @Try.underlying3 @Try.underlying4) (And.intro @Try.underlying5 (And.intro @Try.underlying9 @Try.underlying23))) (And.intro (And.intro @Try.underlying22 (And.intro @Try.underlying0 @Try.underlying100)) (And.intro @Try.underlying24 (And.intro @Try.underlying66 @Try.underlying68)))) (And.intro (And.intro (And.intro @Try.underlying78 (And.intro @Try.underlying103 @Try.underlying47)) (And.intro @Try.underlying41 (And.intro @Try.underlying39 @ts3))) (And.intro (And.intro @ts4 (And.intro @ts5 @ts9)) (And.intro @ts23 (And.intro @ts22 @ts0))))) (And.intro (And.intro (And.intro (And.intro @ts100 @ts24) (And.intro @ts66 (And.intro @ts68 @ts78))) (And.intro (And.intro @ts103 (And.intro @ts47 @ts41)) (And.intro @ts39 (And.intro @tz3 @tz4)))) (And.intro (And.intro (And.intro @tz5 (And.intro @tz9 @tz23)) (And.intro @tz22 (And.intro @tz0 @tz100))) (And.intro (And.intro @tz24 (And.intro @tz66 @tz68)) (And.intro @tz78 (And.intro @tz103 @tz47)))))) (And.intro (And.intro (And.intro (And.intro (And.intro @tz41 @tz39) (And.intro @tb3 (And.intro @tb4 @tb5))) (And.intro (And.intro @tb9 (And.intro @tb23 @tb22)) (And.intro @tb0 (And.intro @tb100 @tb24)))) (And.intro (And.intro (And.intro @tb66 (And.intro @tb68 @tb78)) (And.intro @tb103 (And.intro @tb47 @tb41))) (And.intro (And.intro @tb39 (And.intro @fr18 @fr55)) (And.intro @fr35 (And.intro @fr58 @fr57))))) (And.intro (And.intro (And.intro (And.intro @fr41 (And.intro @fr53 @fr22)) (And.intro @fr34 (And.intro @bz103 @al68))) (And.intro (And.intro @al103 (And.intro @fa68_0 @fa103_0)) (And.intro @fa103_1 (And.intro @fa103_2 @bin_weq)))) (And.intro (And.intro (And.intro @bin_wneq (And.intro @bin_req @bin_rneq)) (And.intro @bz41 (And.intro @al41 @bz39))) (And.intro (And.intro @fa41_0 (And.intro @fa41_1 @fa41_2)) (And.intro @fa39_0 (And.intro @fa39_1 @bz68)))))))
abbrev callV (t n p : Int) (v : Value) : Value := .agg #[.int .u16 t, .int .u16 n, .int .i64 p, v]

theorem call_put_ret {m : Mem} {i r : Nat} {bs s : List Int} {t n p : Int} {v : Value} (hw : Wri m i r bs) (hv : ∀ M, Fr2 i r m M → Shows M v (byteCells s)) (ht : 0 ≤ t ∧ t < 65536) (hn : 0 ≤ n ∧ n < 65536) (hp : 0 ≤ p ∧ p < 65536) (hs : Bytes s) (hl : bs.length < 2 ^ 37) (hl2 : s.length < 65536)
    {K : Value → Mem → Prop} (hK : ∀ m' r', Wri m' i r' (bs ++ callB t n p s) → (r' = r ∨ m.next ≤ r') → Fr2 i r m m' → K (.tuple #[]) m') : Ret Try.prog 22 [callV t n p v, .pointer (some ⟨i, 0, none⟩)] m K := by
  refine ret_wp [] Try.func22 rfl (by decide) (by kernel_rfl) ?_
  simp only [Nat.reduceAdd, reduceIte, Nat.reduceEqDiff, reduceCtorEq, opLen, Int.reduceLT, Int.reduceEq, opConvert, opIndexAddr, opLoad, Nat.reduceLT, undef, Nat.reduceLeDiff, Array.toList, wk4, wk5, wk0, fxC17a]
  have hi := hw.1
  have hr := hw.2.1
  have w0 := hw.ext (Ext.new m (.cells [.int .u16 t, .int .u16 n, .int .i64 p, v] 41 true))
  have g0 := new_get m (.cells [.int .u16 t, .int .u16 n, .int .i64 p, v] 41 true)
  have f0 : Fr2 i r m (m.new (.cells [.int .u16 t, .int .u16 n, .int .i64 p, v] 41 true)) := ⟨Nat.le_succ _, fun j hj _ _ => new_get_ne _ (by omega)⟩
  have nx : m.next < (m.new (.cells [.int .u16 t, .int .u16 n, .int .i64 p, v] 41 true)).next := Nat.lt_succ_self _
  generalize m.new (.cells [.int .u16 t, .int .u16 n, .int .i64 p, v] 41 true) = m0 at w0 g0 f0 nx ⊢
  refine word_ret w0 ht.1 ht.2 (by omega) fun m1 r1 w1 n1 f1 => ?_
  have g1 := (f1.2 m.next nx (by omega) (by omega)).trans g0
  have f01 := f0.trans f1 (.inl rfl)
  have l1 := f1.1
  simp only [Nat.reduceAdd, reduceIte, Nat.reduceEqDiff, reduceCtorEq, opLen, Int.reduceLT, Int.reduceEq, opConvert, opIndexAddr, opLoad, Nat.reduceLT, undef, Nat.reduceLeDiff, Array.toList, wk4, wk5, wk0, fxC17a, g1]
  refine word_ret w1 hn.1 hn.2 (by simp only [List.length_append, wordB_length]; omega) fun m2 r2 w2 n2 f2 => ?_
  have g2 := (f2.2 m.next (by omega) (by omega) (by omega)).trans g1
  have f02 := f01.trans f2 (by omega)
  have l2 := f2.1
  have e16 : IntKind.u16.wrap p = p := by rw [u16_lo]; omega
  simp only [Nat.reduceAdd, reduceIte, Nat.reduceEqDiff, reduceCtorEq, opLen, Int.reduceLT, Int.reduceEq, opConvert, opIndexAddr, opLoad, Nat.reduceLT, undef, Nat.reduceLeDiff, Array.toList, wk4, wk5, wk0, fxC17a, g2, e16]
  refine word_ret w2 hp.1 hp.2 (by simp only [List.length_append, wordB_length]; omega) fun m3 r3 w3 n3 f3 => ?_
  have g3 := (f3.2 m.next (by omega) (by omega) (by omega)).trans g2
  have f03 := f02.trans f3 (by omega)
  have l3 := f3.1
  have c3 := conv_string (P := Try.prog) Try.underlying24 Try.underlying5 Try.underlying9 (hv m3 f03)
  simp only [Nat.reduceAdd, reduceIte, Nat.reduceEqDiff, reduceCtorEq, opLen, Int.reduceLT, Int.reduceEq, opIndexAddr, opLoad, Nat.reduceLT, undef, Nat.reduceLeDiff, Array.toList, wk4, wk5, wk0, fxC17a, g3, c3]
  refine text_ret w3 hs (by simp only [List.length_append, wordB_length]; omega) hl2 fun m4 r4 w4 n4 f4 => ?_
  simp only [Nat.reduceAdd, reduceIte, Nat.reduceEqDiff, reduceCtorEq, opLen, Int.reduceLT, Int.reduceEq, opConvert, opIndexAddr, opLoad, Nat.reduceLT, undef, Nat.reduceLeDiff, Array.toList, wk4, wk5, wk0, fxC17a]
  have eb : bs ++ wordB t ++ wordB n ++ wordB p ++ textB s = bs ++ callB t n p s := by simp only [callB, List.append_assoc]
  rw [eb] at w4
  exact hK _ r4 w4 (by have := f0.1; omega) (f03.trans f4 (by have := f0.1; omega))

theorem call_check_ret {m : Mem} {t n p : Int} {v : Value} {s : List Int} (hv : Shows m v (byteCells s)) (hp : 0 ≤ p ∧ p < 65536) (hs : s.length ≤ 4000) {K : Value → Mem → Prop} (hK : ∀ m', Ext m m' → K (.int .i64 0) m') : Ret Try.prog 41 [callV t n p v] m K := by
  refine ret_wp [] Try.func41 rfl (by decide) (by kernel_rfl) ?_
  obtain ⟨a, z, rfl, _⟩ := hv
  have h1 : ¬ p < 0 := by omega
  have h2 : ¬ 65535 < p := by omega
  have h3 : ¬ 4000 < ((byteCells s).length : Int) := by rw [byteCells_length]; omega
  simp only [Nat.reduceAdd, reduceIte, Nat.reduceEqDiff, reduceCtorEq, opLen, Int.reduceLT, Int.reduceEq, opConvert, opIndexAddr, opLoad, Nat.reduceLT, undef, Nat.reduceLeDiff, Array.toList, wk4, wk5, wk0, fxC17a, h1, h2, h3]
  exact hK _ (Ext.new _ _)

theorem bin_cideq {a b c d : Int} : binV Try.prog .eql 39 (.agg #[.int .u16 a, .int .u16 b]) (.agg #[.int .u16 c, .int .u16 d]) = some (.bool (decide (a = c ∧ b = d))) := by
  have h : Try.prog.eqGuardType Try.prog.depth 39 = false := by kernel_rfl
  have hs : Try.prog.stoodInHeld 39 = false := by kernel_rfl
  have e : eqIn Try.prog 40 39 (.agg #[.int .u16 a, .int .u16 b]) (.agg #[.int .u16 c, .int .u16 d]) = some (decide (a = c ∧ b = d)) := by
    rw [show (40 : Nat) = 38 + 1 + 1 from rfl]
    simp only [eqIn, Try.underlying39, hs, eqFields, partOf, aggOf, Try.underlying23, eqCell]
    have q : ∀ x y : Int, (x == y) = decide (x = y) := fun x y => rfl
    simp only [q]
    by_cases h1 : a = c <;> by_cases h2 : b = d <;> simp [h1, h2]
  simp only [binV, h, e]
  rfl
theorem call_same_ret {m : Mem} {t n p t' n' p' : Int} {v v' : Value} {s s' : List Int} (h1 : ∀ M, Ext m M → Shows M v (byteCells s)) (h2 : ∀ M, Ext m M → Shows M v' (byteCells s')) {K : Value → Mem → Prop} (hK : ∀ m', Ext m m' → K (.bool (decide (t = t' ∧ n = n') && (decide (p = p') && decide (strOf s = strOf s')))) m') : Ret Try.prog 53 [callV t n p v, callV t' n' p' v'] m K := by
  refine ret_wp [] Try.func53 rfl (by decide) (by kernel_rfl) ?_
  have hx : ∀ a b : Blk, Ext m ((m.new a).new b) := fun a b => (Ext.new _ _).trans (Ext.new _ _)
  have c1 := fun a b => conv_string (P := Try.prog) Try.underlying24 Try.underlying5 Try.underlying9 (h1 _ (hx a b))
  have c2 := fun a b => conv_string (P := Try.prog) Try.underlying24 Try.underlying5 Try.underlying9 (h2 _ (hx a b))
  obtain ⟨a1, z1, rfl, _⟩ := id (h1 m (Ext.refl m))
  obtain ⟨a2, z2, rfl, _⟩ := id (h2 m (Ext.refl m))
  simp only [Nat.reduceAdd, reduceIte, Nat.reduceEqDiff, reduceCtorEq, opLen, Int.reduceLT, Int.reduceEq, opIndexAddr, opLoad, Nat.reduceLT, undef, Nat.reduceLeDiff, Array.toList, wk4, wk5, wk0, fxC17a, bin_cideq]
  cases d1 : decide (t = t' ∧ n = n') with
  | false =>
    rw [d1] at hK
    simp only [Nat.reduceAdd, reduceIte, Nat.reduceEqDiff, reduceCtorEq, opLen, Int.reduceLT, Int.reduceEq, opIndexAddr, opLoad, Nat.reduceLT, undef, Nat.reduceLeDiff, Array.toList, wk4, wk5, wk0, fxC17a, d1]
    exact hK _ (hx _ _)
  | true =>
    rw [d1] at hK
    simp only [Nat.reduceAdd, reduceIte, Nat.reduceEqDiff, reduceCtorEq, opLen, Int.reduceLT, Int.reduceEq, opIndexAddr, opLoad, Nat.reduceLT, undef, Nat.reduceLeDiff, Array.toList, wk4, wk5, wk0, fxC17a, d1]
    cases d2 : decide (p = p') with
    | false =>
      rw [d2] at hK
      simp only [Nat.reduceAdd, reduceIte, Nat.reduceEqDiff, reduceCtorEq, opLen, Int.reduceLT, Int.reduceEq, opIndexAddr, opLoad, Nat.reduceLT, undef, Nat.reduceLeDiff, Array.toList, wk4, wk5, wk0, fxC17a, d1, d2]
      exact hK _ (hx _ _)
    | true =>
      rw [d2] at hK
      simp only [Nat.reduceAdd, reduceIte, Nat.reduceEqDiff, reduceCtorEq, opLen, Int.reduceLT, Int.reduceEq, opIndexAddr, opLoad, Nat.reduceLT, undef, Nat.reduceLeDiff, Array.toList, wk4, wk5, wk0, fxC17a, d1, d2, c1, c2]
      exact hK _ (hx _ _)

theorem conv_bytes {m : Mem} {s : List Int} (hs : Bytes s) (hl : s.length ≤ 140737488355328) : opConvert Try.prog 9 24 (.string (strOf s)) m = some (.slice (some ⟨m.next, 0, none⟩) s.length 1, m.new (.cells (byteCells s) 5 true)) := by
  simp only [opConvert, Try.underlying9, Try.underlying24, Try.underlying5, strOf_size, cellsOf_strOf hs]
  rw [if_pos ⟨hl, ts5⟩]

theorem call_take_ret {m : Mem} {i r : Nat} {all : List Int} {s : Nat × Int} (hr : Rri m i r all s) (hl : all.length < 2 ^ 40) (hb : Bytes all)
    {K : Value → Mem → Prop} (hK : ∀ m' v, Rri m' i r all (callS all s).2 → Fr1 i m m' → Fresh 5 m m' v (callS all s).1.args → K (callV (callS all s).1.t (callS all s).1.n (callS all s).1.p v) m') : Ret Try.prog 34 [.pointer (some ⟨i, 0, none⟩)] m K := by
  refine ret_wp [] Try.func34 rfl (by decide) (by kernel_rfl) ?_
  simp only [Nat.reduceAdd, reduceIte, Nat.reduceEqDiff, reduceCtorEq, opLen, Int.reduceLT, Int.reduceEq, opConvert, opIndexAddr, opLoad, Nat.reduceLT, undef, Nat.reduceLeDiff, Array.toList, wk4, wk5, wk0, fxC17a]
  obtain ⟨Z, hZ⟩ : ∃ Z, Z = Blk.cells [.int .u16 0, .int .u16 0, .int .i64 0, .slice none 0 0] 41 true := ⟨_, rfl⟩
  rw [← hZ]
  have x0 : Ext m ((m.new Z).new Z) := (Ext.new _ _).trans (Ext.new _ _)
  have nx : ((m.new Z).new Z).next = m.next + 2 := rfl
  have gz : ((m.new Z).new Z).get m.next = some Z := by rw [new_get_ne _ (by rw [new_next]; omega), new_get]
  have g0 : ((m.new Z).new Z).get (m.next + 1) = some Z := new_get (m.new Z) Z
  have R0 := hr.ext x0
  have hi := hr.1
  generalize (m.new Z).new Z = m0 at x0 nx gz g0 R0 ⊢
  subst hZ
  refine rword_ret R0 hl hb fun m1 R1 f1 => ?_
  simp only [Nat.reduceAdd, reduceIte, Nat.reduceEqDiff, reduceCtorEq, opLen, Int.reduceLT, Int.reduceEq, opConvert, opIndexAddr, opLoad, Nat.reduceLT, undef, Nat.reduceLeDiff, Array.toList, wk4, wk5, wk0, fxC17a]
  refine rword_ret R1 hl hb fun m2 R2 f2 => ?_
  have l1 := f1.1
  have l2 := f2.1
  have g2 := ((f2.2 (m.next + 1) (by omega) (by omega)).trans (f1.2 (m.next + 1) (by omega) (by omega))).trans g0
  have gz2 := ((f2.2 m.next (by omega) (by omega)).trans (f1.2 m.next (by omega) (by omega))).trans gz
  simp only [Nat.reduceAdd, reduceIte, Nat.reduceEqDiff, reduceCtorEq, opLen, Int.reduceLT, Int.reduceEq, opConvert, opIndexAddr, opLoad, Nat.reduceLT, undef, Nat.reduceLeDiff, Array.toList, wk4, wk5, wk0, fxC17a, g2]
  have hr2 : r ≠ m.next + 1 ∧ r ≠ m.next := by have := hr.2.1; omega
  have F2 : Fr1 i m m2 := ⟨by omega, fun j hj hne => by rw [f2.2 j (by omega) hne, f1.2 j (by omega) hne, x0.2 j hj]⟩
  obtain ⟨m3, hm3⟩ : ∃ m3, m3 = (m2.set (m.next + 1) (.cells [.int .u16 (wordS all s).1, .int .u16 0, .int .i64 0, .slice none 0 0] 41 true)).set (m.next + 1) (.cells [.int .u16 (wordS all s).1, .int .u16 (wordS all (wordS all s).2).1, .int .i64 0, .slice none 0 0] 41 true) := ⟨_, rfl⟩
  rw [← hm3]
  have n3 : m3.next = m2.next := by rw [hm3]; rfl
  have k3 : ∀ j, j ≠ m.next + 1 → m3.get j = m2.get j := fun j hj => by rw [hm3, set_get_ne _ hj, set_get_ne _ hj]
  have g3 : m3.get (m.next + 1) = some (.cells [.int .u16 (wordS all s).1, .int .u16 (wordS all (wordS all s).2).1, .int .i64 0, .slice none 0 0] 41 true) := by rw [hm3, set_get]
  clear hm3
  have R3 := R2.keep (Nat.le_of_eq n3.symm) (k3 i (by omega)) (k3 r hr2.1)
  refine rword_ret R3 hl hb fun m4 R4 f4 => ?_
  have l4 := f4.1
  have g4 := (f4.2 (m.next + 1) (by omega) (by omega)).trans g3
  have v4 := wordS_val (s := (wordS all (wordS all s).2).2) hb
  have w4 : IntKind.i64.wrap (wordS all (wordS all (wordS all s).2).2).1 = (wordS all (wordS all (wordS all s).2).2).1 := wrap_i64 (by omega) (by omega)
  simp only [Nat.reduceAdd, reduceIte, Nat.reduceEqDiff, reduceCtorEq, opLen, Int.reduceLT, Int.reduceEq, opConvert, opIndexAddr, opLoad, Nat.reduceLT, undef, Nat.reduceLeDiff, Array.toList, wk4, wk5, wk0, fxC17a, g4, w4]
  obtain ⟨m5, hm5⟩ : ∃ m5, m5 = m4.set (m.next + 1) (.cells [.int .u16 (wordS all s).1, .int .u16 (wordS all (wordS all s).2).1, .int .i64 (wordS all (wordS all (wordS all s).2).2).1, .slice none 0 0] 41 true) := ⟨_, rfl⟩
  rw [← hm5]
  have n5 : m5.next = m4.next := by rw [hm5]; rfl
  have k5 : ∀ j, j ≠ m.next + 1 → m5.get j = m4.get j := fun j hj => by rw [hm5, set_get_ne _ hj]
  have g5 : m5.get (m.next + 1) = some (.cells [.int .u16 (wordS all s).1, .int .u16 (wordS all (wordS all s).2).1, .int .i64 (wordS all (wordS all (wordS all s).2).2).1, .slice none 0 0] 41 true) := by rw [hm5, set_get]
  clear hm5
  have R5 := R4.keep (Nat.le_of_eq n5.symm) (k5 i (by omega)) (k5 r hr2.1)
  refine rtext_ret R5 hl hb fun m6 R6 f6 => ?_
  have l6 := f6.1
  have g6 := (f6.2 (m.next + 1) (by omega) (by omega)).trans g5
  have gz6 : m6.get m.next = _ := (f6.2 m.next (by omega) (by omega)).trans ((k5 m.next (by omega)).trans ((f4.2 m.next (by omega) (by omega)).trans ((k3 m.next (by omega)).trans gz2)))
  obtain ⟨_, td, tl, _⟩ := text_good (s := (wordS all (wordS all (wordS all s).2).2).2) (most := 4000) hb R5.2.2.2.1
  have F6 : Fr1 i m m6 := ⟨by omega, fun j hj hne => by rw [f6.2 j (by omega) hne, k5 j (by omega), f4.2 j (by omega) hne, k3 j (by omega), F2.2 j hj hne]⟩
  have ec : callS all s = if (textS all 4000 (wordS all (wordS all (wordS all s).2).2).2).2.2 ≠ 0 then (⟨0, 0, 0, []⟩, (textS all 4000 (wordS all (wordS all (wordS all s).2).2).2).2) else (⟨(wordS all s).1, (wordS all (wordS all s).2).1, (wordS all (wordS all (wordS all s).2).2).1, (textS all 4000 (wordS all (wordS all (wordS all s).2).2).2).1⟩, (textS all 4000 (wordS all (wordS all (wordS all s).2).2).2).2) := rfl
  generalize textS all 4000 (wordS all (wordS all (wordS all s).2).2).2 = D at R6 td tl ec ⊢
  generalize (wordS all (wordS all (wordS all s).2).2).1 = C at g6 ec ⊢
  generalize (wordS all (wordS all s).2).1 = B at g6 ec ⊢
  generalize (wordS all s).1 = A at g6 ec ⊢
  obtain ⟨m7, hm7⟩ : ∃ m7, m7 = m6.new (.cells (byteCells D.1) 5 true) := ⟨_, rfl⟩
  have e7 := conv_bytes (m := m6) td (by omega)
  rw [← hm7] at e7
  have b7 : Brow 5 m7 m6.next D.1 := by rw [hm7]; exact Brow.made _ _
  have x7 : Ext m6 m7 := by rw [hm7]; exact Ext.new _ _
  have l7 := x7.1
  have g7 := (x7.2 (m.next + 1) (by omega)).trans g6
  clear hm7
  simp only [Nat.reduceAdd, reduceIte, Nat.reduceEqDiff, reduceCtorEq, opLen, Int.reduceLT, Int.reduceEq, opIndexAddr, opLoad, Nat.reduceLT, undef, Nat.reduceLeDiff, Array.toList, wk4, wk5, wk0, fxC17a, e7, g7]
  obtain ⟨m8, hm8⟩ : ∃ m8, m8 = m7.set (m.next + 1) (.cells [.int .u16 A, .int .u16 B, .int .i64 C, .slice (some ⟨m6.next, 0, none⟩) D.1.length 1] 41 true) := ⟨_, rfl⟩
  rw [← hm8]
  have n8 : m8.next = m7.next := by rw [hm8]; rfl
  have k8 : ∀ j, j ≠ m.next + 1 → m8.get j = m7.get j := fun j hj => by rw [hm8, set_get_ne _ hj]
  have g8 : m8.get (m.next + 1) = some (.cells [.int .u16 A, .int .u16 B, .int .i64 C, .slice (some ⟨m6.next, 0, none⟩) D.1.length 1] 41 true) := by rw [hm8, set_get]
  have gz8 := (k8 m.next (by omega)).trans ((x7.2 m.next (by omega)).trans gz6)
  clear hm8
  have R8 := (R6.ext x7).keep (Nat.le_of_eq n8.symm) (k8 i (by omega)) (k8 r hr2.1)
  have b8 : Brow 5 m8 m6.next D.1 := b7.keep (Nat.le_of_eq n8.symm) (k8 _ (by omega))
  refine err_ret R8 ?_
  have fin : ∀ Z : Blk, Rri (m8.set m.next Z) i r all D.2 ∧ Fr1 i m (m8.set m.next Z) ∧ Brow 5 (m8.set m.next Z) m6.next D.1 := fun Z => by
    refine ⟨R8.keep (Nat.le_refl _) (set_get_ne _ (by omega)) (set_get_ne _ hr2.2), ⟨by simp only [set_next]; omega, fun j hj hne => ?_⟩, b8.keep (Nat.le_refl _) (set_get_ne _ (by omega))⟩
    rw [set_get_ne _ (by omega), k8 j (by omega), x7.2 j (by omega), F6.2 j hj hne]
  by_cases he : D.2.2 = 0
  · rw [if_neg (by exact fun h => h he)] at ec
    rw [ec] at hK
    simp only [Nat.reduceAdd, reduceIte, Nat.reduceEqDiff, reduceCtorEq, opLen, Int.reduceLT, Int.reduceEq, opConvert, opIndexAddr, opLoad, Nat.reduceLT, undef, Nat.reduceLeDiff, Array.toList, wk4, wk5, wk0, fxC17a, he, g8, gz8]
    exact hK _ (rowV m6.next D.1) (fin _).1 (fin _).2.1 (.inr ⟨_, rfl, by omega, (fin _).2.2⟩)
  · rw [if_pos he] at ec
    rw [ec] at hK
    simp only [Nat.reduceAdd, reduceIte, Nat.reduceEqDiff, reduceCtorEq, opLen, Int.reduceLT, Int.reduceEq, opConvert, opIndexAddr, opLoad, Nat.reduceLT, undef, Nat.reduceLeDiff, Array.toList, wk4, wk5, wk0, fxC17a, he, gz8]
    exact hK _ _ (fin _).1 (fin _).2.1 (.inl ⟨rfl, rfl⟩)
end Go.Proofs.Ytejgoooanapjbaa
