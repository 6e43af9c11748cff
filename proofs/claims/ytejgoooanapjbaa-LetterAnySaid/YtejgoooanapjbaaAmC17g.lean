/- A text of the abstract machine. -/






/- Entries: their bytes as they are meant. -/
import Derived.Test.YtejgoooanapjbaaAmC17f
import Derived.Test.YtejgoooanapjbaaAmBun
set_option linter.unusedSimpArgs false
set_option linter.unusedVariables false
set_option maxRecDepth 100000
set_option maxHeartbeats 4000000
namespace Go.Proofs.Ytejgoooanapjbaa
open Go Go.AM Go.AM.Crc Go.AM.Wire
theorem fxC17g : type_of% (And.intro (And.intro (And.intro (And.intro (And.intro (And.intro (And.intro @Try.underlying3 (And.intro @Try.underlying4 @Try.underlying5)) (And.intro (And.intro @Try.underlying9 @Try.underlying42) (And.intro @Try.underlying46 @Try.underlying47))) (And.intro (And.intro @Try.underlying123 (And.intro @Try.underlying23 @Try.underlying26)) (And.intro (And.intro @Try.underlying28 @Try.underlying39) (And.intro @Try.underlying41 @Try.underlying44)))) (And.intro (And.intro (And.intro @Try.underlying24 (And.intro @Try.underlying37 @Try.underlying22)) (And.intro (And.intro @Try.underlying0 @Try.underlying100) (And.intro @Try.underlying66 @Try.underlying68))) (And.intro (And.intro @Try.underlying78 (And.intro @Try.underlying103 @Try.underlying49)) (And.intro (And.intro @Try.underlying34 @Try.underlying36) (And.intro @Try.underlying51 @Try.underlying53))))) (And.intro (And.intro (And.intro (And.intro @Try.underlying55 (And.intro @Try.underlying88 @Try.underlying32)) (And.intro (And.intro @Try.underlying30 @Try.underlying61) (And.intro @Try.underlying63 @Try.underlying90))) (And.intro (And.intro @Try.underlying92 (And.intro @Try.underlying94 @ts3)) (And.intro (And.intro @ts4 @ts5) (And.intro @ts9 @ts42)))) (And.intro (And.intro (And.intro @ts46 (And.intro @ts47 @ts123)) (And.intro (And.intro @ts23 @ts26) (And.intro @ts28 @ts39))) (And.intro (And.intro @ts41 (And.intro @ts44 @ts24)) (And.intro (And.intro @ts37 @ts22) (And.intro @ts0 @ts100)))))) (And.intro (And.intro (And.intro (And.intro (And.intro @ts66 (And.intro @ts68 @ts78)) (And.intro (And.intro @ts103 @ts49) (And.intro @ts34 @ts36))) (And.intro (And.intro @ts51 (And.intro @ts53 @ts55)) (And.intro (And.intro @ts88 @ts32) (And.intro @ts30 @ts61)))) (And.intro (And.intro (And.intro @ts63 (And.intro @ts90 @ts92)) (And.intro (And.intro @ts94 @tz3) (And.intro @tz4 @tz5))) (And.intro (And.intro @tz9 (And.intro @tz42 @tz46)) (And.intro (And.intro @tz47 @tz123) (And.intro @tz23 @tz26))))) (And.intro (And.intro (And.intro (And.intro @tz28 (And.intro @tz39 @tz41)) (And.intro (And.intro @tz44 @tz24) (And.intro @tz37 @tz22))) (And.intro (And.intro @tz0 (And.intro @tz100 @tz66)) (And.intro (And.intro @tz68 @tz78) (And.intro @tz103 @tz49)))) (And.intro (And.intro (And.intro @tz34 (And.intro @tz36 @tz51)) (And.intro (And.intro @tz53 @tz55) (And.intro @tz88 @tz32))) (And.intro (And.intro @tz30 (And.intro @tz61 @tz63)) (And.intro (And.intro @tz90 @tz92) (And.intro @tz94 @tb3))))))) (And.intro (And.intro (And.intro (And.intro (And.intro (And.intro @tb4 (And.intro @tb5 @tb9)) (And.intro (And.intro @tb42 @tb46) (And.intro @tb47 @tb123))) (And.intro (And.intro @tb23 (And.intro @tb26 @tb28)) (And.intro (And.intro @tb39 @tb41) (And.intro @tb44 @tb24)))) (And.intro (And.intro (And.intro @tb37 (And.intro @tb22 @tb0)) (And.intro (And.intro @tb100 @tb66) (And.intro @tb68 @tb78))) (And.intro (And.intro @tb103 (And.intro @tb49 @tb34)) (And.intro (And.intro @tb36 @tb51) (And.intro @tb53 @tb55))))) (And.intro (And.intro (And.intro (And.intro @tb88 (And.intro @tb32 @tb30)) (And.intro (And.intro @tb61 @tb63) (And.intro @tb90 @tb92))) (And.intro (And.intro @tb94 (And.intro @fr18 @fr21)) (And.intro (And.intro @fr22 @fr40) (And.intro @fr41 @fr44)))) (And.intro (And.intro (And.intro @fr46 (And.intro @fr49 @fr50)) (And.intro (And.intro @fr53 @fr60) (And.intro @bz46 @al46))) (And.intro (And.intro @fa46_0 (And.intro @fa46_1 @bz28)) (And.intro (And.intro @bz26 @bz41) (And.intro @bz44 @al41)))))) (And.intro (And.intro (And.intro (And.intro (And.intro @al44 (And.intro @fa44_0 @fa44_1)) (And.intro (And.intro @fa44_2 @fa41_0) (And.intro @fa41_1 @fa41_2))) (And.intro (And.intro @fa28_0 (And.intro @fa28_1 @fa28_2)) (And.intro (And.intro @fa26_0 @fa26_1) (And.intro @fa26_2 @fa26_3)))) (And.intro (And.intro (And.intro @bz103 (And.intro @al68 @al103)) (And.intro (And.intro @fa68_0 @fa103_0) (And.intro @fa103_1 @fa103_2))) (And.intro (And.intro @bin_weq (And.intro @bin_wneq @bin_req)) (And.intro (And.intro @bin_rneq @bz39) (And.intro @fa39_0 @fa39_1))))) (And.intro (And.intro (And.intro (And.intro @bz68 (And.intro @bz49 @al49)) (And.intro (And.intro @fa49_0 @fa49_1) (And.intro @fa49_2 @bz51))) (And.intro (And.intro @al51 (And.intro @fa51_0 @fa51_1)) (And.intro (And.intro @fa51_2 @fa51_3) (And.intro @fa51_4 @fa51_5)))) (And.intro (And.intro (And.intro @fa51_6 (And.intro @fa51_7 @fa51_8)) (And.intro (And.intro @fa51_9 @fa51_10) (And.intro @fa51_11 @bz36))) (And.intro (And.intro (And.intro @al36 @fa36_0) (And.intro @fa36_1 @oneOf_two)) (And.intro (And.intro @al24 @al90) (And.intro @bz32 @bldI)))))))) := (And.intro (And.intro (And.intro (And.intro (And.intro (And.intro (And.intro @Try.underlying3 (And.intro @Try.underlying4 @Try.underlying5)) (And.intro (And.intro @Try.underlying9 @Try.underlying42) (And.intro @Try.underlying46 @Try.underlying47))) (And.intro (And.intro @Try.underlying123 (And.intro @Try.underlying23 @Try.underlying26)) (And.intro (And.intro @Try.underlying28 @Try.underlying39) (And.intro @Try.underlying41 @Try.underlying44)))) (And.intro (And.intro (And.intro @Try.underlying24 (And.intro @Try.underlying37 @Try.underlying22)) (And.intro (And.intro @Try.underlying0 @Try.underlying100) (And.intro @Try.underlying66 @Try.underlying68))) (And.intro (And.intro @Try.underlying78 (And.intro @Try.underlying103 @Try.underlying49)) (And.intro (And.intro @Try.underlying34 @Try.underlying36) (And.intro @Try.underlying51 @Try.underlying53))))) (And.intro (And.intro (And.intro (And.intro @Try.underlying55 (And.intro @Try.underlying88 @Try.underlying32)) (And.intro (And.intro @Try.underlying30 @Try.underlying61) (And.intro @Try.underlying63 @Try.underlying90))) (And.intro (And.intro @Try.underlying92 (And.intro @Try.underlying94 @ts3)) (And.intro (And.intro @ts4 @ts5) (And.intro @ts9 @ts42)))) (And.intro (And.intro (And.intro @ts46 (And.intro @ts47 @ts123)) (And.intro (And.intro @ts23 @ts26) (And.intro @ts28 @ts39))) (And.intro (And.intro @ts41 (And.intro @ts44 @ts24)) (And.intro (And.intro @ts37 @ts22) (And.intro @ts0 @ts100)))))) (And.intro (And.intro (And.intro (And.intro (And.intro @ts66 (And.intro @ts68 @ts78)) (And.intro (And.intro @ts103 @ts49) (And.intro @ts34 @ts36))) (And.intro (And.intro @ts51 (And.intro @ts53 @ts55)) (And.intro (And.intro @ts88 @ts32) (And.intro @ts30 @ts61)))) (And.intro (And.intro (And.intro @ts63 (And.intro @ts90 @ts92)) (And.intro (And.intro @ts94 @tz3) (And.intro @tz4 @tz5))) (And.intro (And.intro @tz9 (And.intro @tz42 @tz46)) (And.intro (And.intro @tz47 @tz123) (And.intro @tz23 @tz26))))) (And.intro (And.intro (And.intro (And.intro @tz28 (And.intro @tz39 @tz41)) (And.intro (And.intro @tz44 @tz24) (And.intro @tz37 @tz22))) (And.intro (And.intro @tz0 (And.intro @tz100 @tz66)) (And.intro (And.intro @tz68 @tz78) (And.intro @tz103 @tz49)))) (And.intro (And.intro (And.intro @tz34 (And.intro @tz36 @tz51)) (And.intro (And.intro @tz53 @tz55) (And.intro @tz88 @tz32))) (And.intro (And.intro @tz30 (And.intro @tz61 @tz63)) (And.intro (And.intro @tz90 @tz92) (And.intro @tz94 @tb3))))))) (And.intro (And.intro (And.intro (And.intro (And.intro (And.intro @tb4 (And.intro @tb5 @tb9)) (And.intro (And.intro @tb42 @tb46) (And.intro @tb47 @tb123))) (And.intro (And.intro @tb23 (And.intro @tb26 @tb28)) (And.intro (And.intro @tb39 @tb41) (And.intro @tb44 @tb24)))) (And.intro (And.intro (And.intro @tb37 (And.intro @tb22 @tb0)) (And.intro (And.intro @tb100 @tb66) (And.intro @tb68 @tb78))) (And.intro (And.intro @tb103 (And.intro @tb49 @tb34)) (And.intro (And.intro @tb36 @tb51) (And.intro @tb53 @tb55))))) (And.intro (And.intro (And.intro (And.intro @tb88 (And.intro @tb32 @tb30)) (And.intro (And.intro @tb61 @tb63) (And.intro @tb90 @tb92))) (And.intro (And.intro @tb94 (And.intro @fr18 @fr21)) (And.intro (And.intro @fr22 @fr40) (And.intro @fr41 @fr44)))) (And.intro (And.intro (And.intro @fr46 (And.intro @fr49 @fr50)) (And.intro (And.intro @fr53 @fr60) (And.intro @bz46 @al46))) (And.intro (And.intro @fa46_0 (And.intro @fa46_1 @bz28)) (And.intro (And.intro @bz26 @bz41) (And.intro @bz44 @al41)))))) (And.intro (And.intro (And.intro (And.intro (And.intro @al44 (And.intro @fa44_0 @fa44_1)) (And.intro (And.intro @fa44_2 @fa41_0) (And.intro @fa41_1 @fa41_2))) (And.intro (And.intro @fa28_0 (And.intro @fa28_1 @fa28_2)) (And.intro (And.intro @fa26_0 @fa26_1) (And.intro @fa26_2 @fa26_3)))) (And.intro (And.intro (And.intro @bz103 (And.intro @al68 @al103)) (And.intro (And.intro @fa68_0 @fa103_0) (And.intro @fa103_1 @fa103_2))) (And.intro (And.intro @bin_weq (And.intro @bin_wneq @bin_req)) (And.intro (And.intro @bin_rneq @bz39) (And.intro @fa39_0 @fa39_1))))) (And.intro (And.intro (And.intro (And.intro @bz68 (And.intro @bz49 @al49)) (And.intro (And.intro @fa49_0 @fa49_1) (And.intro @fa49_2 @bz51))) (And.intro (And.intro @al51 (And.intro @fa51_0 @fa51_1)) (And.intro (And.intro @fa51_2 @fa51_3) (And.intro @fa51_4 @fa51_5)))) (And.intro (And.intro (And.intro @fa51_6 (And.intro @fa51_7 @fa51_8)) (And.intro (And.intro @fa51_9 @fa51_10) (And.intro @fa51_11 @bz36))) (And.intro (And.intro (And.intro @al36 @fa36_0) (And.intro @fa36_1 @oneOf_two)) (And.intro (And.intro @al24 @al90) (And.intro @bz32 @bldI))))))))
theorem vbytes_ret {m : Mem} {v : Value} {E : Ent} (f : Fit E) (he : EnF m v E)
    {K : Value → Mem → Prop} (hK : ∀ m' r, Ext m m' → m.next ≤ r → Byr m' r (entB E) → K (rowV r (entB E)) m') : Ret Try.prog 49 [v] m K := by
  obtain ⟨va, vb, rfl, s1, s2⟩ := he
  obtain ⟨a1, z1, rfl⟩ := s1.is
  obtain ⟨a2, z2, rfl⟩ := s2.is
  have sh1 : ∀ M, Ext m M → Shows M (.slice a1 E.args.length z1) (byteCells E.args) := fun M y => (s1.pz y.pz).shows
  have sh2 : ∀ M, Ext m M → Shows M (.slice a2 E.mem.length z2) (intCells E.mem) := fun M y => (s2.pz y.pz).shows
  have l2 : opLen Try.prog (some 42) (.slice a2 E.mem.length z2) = some (.int .i64 E.mem.length) := s2.len Try.underlying42
  have el := entB_len f
  refine ret_wp [] Try.func49 rfl (by decide) (by kernel_rfl) ?_
  have ek : IntKind.i64.wrap E.kind = E.kind := wrap_i64 (by have := f.kd; omega) (by have := f.kd; omega)
  have et : IntKind.i64.wrap E.tr = E.tr := wrap_i64 (by have := f.t; omega) (by have := f.t; omega)
  have en : IntKind.i64.wrap E.nu = E.nu := wrap_i64 (by have := f.n; omega) (by have := f.n; omega)
  simp only [Nat.reduceAdd, reduceIte, Nat.reduceEqDiff, reduceCtorEq, opLen, Int.reduceLT, Int.reduceEq, opConvert, opIndexAddr, opLoad, Nat.reduceLT, undef, Nat.reduceLeDiff, Array.toList, rowV, wk4, wk5, wk0, fxC17g, ek]
  obtain ⟨Z, hZ⟩ : ∃ Z, Z = Blk.cells [.int .u8 E.kind, .int .u16 E.tr, .int .u16 E.nu, .int .i64 E.pc, .slice a1 E.args.length z1, .slice a2 E.mem.length z2] 44 true := ⟨_, rfl⟩
  rw [← hZ]
  have x0 := Ext.new m Z
  have g0 := new_get m Z
  have nx : m.next < (m.new Z).next := Nat.lt_succ_self _
  generalize m.new Z = m0 at x0 g0 nx ⊢
  have x0n := x0.1
  have gz : ∀ M, Ext m0 M → M.get m.next = some Z := fun M y => (y.2 m.next nx).trans g0
  subst hZ
  refine refword_ret (by have := f.kd; omega) (by have := f.kd; omega) fun m1 r1 x1 n1' b1 => ?_
  have g1 := gz m1 x1
  rcases f.kd with h | h | h
  · simp only [Nat.reduceAdd, reduceIte, Nat.reduceEqDiff, reduceCtorEq, opLen, Int.reduceLT, Int.reduceEq, opConvert, opIndexAddr, opLoad, Nat.reduceLT, undef, Nat.reduceLeDiff, Array.toList, rowV, wk4, wk5, wk0, fxC17g, g1, h]
    rw [h, ← ent0 h] at b1
    have e0 : wordB 0 = entB E := (ent0 h).symm
    have hl : (wordB 0).length = (entB E).length := by rw [e0]
    try rw [hl]
    exact hK m1 r1 (x0.trans x1) (by omega) b1
  · simp only [Nat.reduceAdd, reduceIte, Nat.reduceEqDiff, reduceCtorEq, opLen, Int.reduceLT, Int.reduceEq, opConvert, opIndexAddr, opLoad, Nat.reduceLT, undef, Nat.reduceLeDiff, Array.toList, rowV, wk4, wk5, wk0, fxC17g, g1, h, et]
    refine refword_ret f.t.1 f.t.2 fun m2 r2 x2 n2' b2 => ?_
    rw [h] at b1
    obtain ⟨m3, r3, e3, b3, n3, y3⟩ := Brow.cat wt x1 (by omega) b1 x2 b2 (by simp only [List.length_append, wordB_length]; omega)
    obtain ⟨P3, hP3⟩ : ∃ l, l = wordB 1 ++ wordB E.tr := ⟨_, rfl⟩
    have pl3 : P3.length = 4 := by rw [hP3]; rfl
    rw [← hP3] at e3 b3
    have g3 := gz m3 y3
    simp only [Nat.reduceAdd, reduceIte, Nat.reduceEqDiff, reduceCtorEq, opLen, Int.reduceLT, Int.reduceEq, opConvert, opIndexAddr, opLoad, Nat.reduceLT, undef, Nat.reduceLeDiff, Array.toList, rowV, wk4, wk5, wk0, fxC17g, e3, g3, en, h]
    refine refword_ret f.n.1 f.n.2 fun m4 r4 x4 n4 b4 => ?_
    obtain ⟨m5, r5, e5, b5, n5, y5⟩ := Brow.cat wt y3 n3 b3 x4 b4 (by simp only [List.length_append, wordB_length]; omega)
    obtain ⟨P5, hP5⟩ : ∃ l, l = P3 ++ wordB E.nu := ⟨_, rfl⟩
    have pl5 : P5.length = 6 := by rw [hP5, List.length_append, pl3]; rfl
    rw [← hP5] at e5 b5
    have g5 := gz m5 y5
    simp only [Nat.reduceAdd, reduceIte, Nat.reduceEqDiff, reduceCtorEq, opLen, Int.reduceLT, Int.reduceEq, opConvert, opIndexAddr, opLoad, Nat.reduceLT, undef, Nat.reduceLeDiff, Array.toList, rowV, wk4, wk5, wk0, fxC17g, e5, g5]
    refine refword_ret f.p.1 f.p.2 fun m6 r6 x6 n6 b6 => ?_
    obtain ⟨m7, r7, e7, b7, n7, y7⟩ := Brow.cat wt y5 n5 b5 x6 b6 (by simp only [List.length_append, wordB_length]; omega)
    obtain ⟨P7, hP7⟩ : ∃ l, l = P5 ++ wordB E.pc := ⟨_, rfl⟩
    have pl7 : P7.length = 8 := by rw [hP7, List.length_append, pl5]; rfl
    rw [← hP7] at e7 b7
    have g7 := gz m7 y7
    have c7 := conv_string (P := Try.prog) Try.underlying24 Try.underlying5 Try.underlying9 (sh1 m7 (x0.trans y7))
    simp only [Nat.reduceAdd, reduceIte, Nat.reduceEqDiff, reduceCtorEq, opLen, Int.reduceLT, Int.reduceEq, opIndexAddr, opLoad, Nat.reduceLT, undef, Nat.reduceLeDiff, Array.toList, rowV, wk4, wk5, wk0, fxC17g, e7, g7, c7]
    refine reftext_ret f.by_ (by have := f.al; omega) fun m8 r8 x8 n8 b8 => ?_
    have tl := textB_length E.args
    have al := f.al
    obtain ⟨m9, r9, e9, b9, n9, y9⟩ := Brow.cat wt y7 n7 b7 x8 b8 (by rw [List.length_append]; omega)
    have e : P7 ++ textB E.args = entB E := by rw [ent1 h, hP7, hP5, hP3]; simp only [callB, List.append_assoc]
    rw [e] at e9 b9
    simp only [Nat.reduceAdd, reduceIte, Nat.reduceEqDiff, reduceCtorEq, opLen, Int.reduceLT, Int.reduceEq, opConvert, opIndexAddr, opLoad, Nat.reduceLT, undef, Nat.reduceLeDiff, Array.toList, rowV, wk4, wk5, wk0, fxC17g, e9]
    exact hK m9 r9 (x0.trans y9) (by omega) b9
  · have ell : IntKind.i64.wrap (E.mem.length : Int) = E.mem.length := wrap_i64 (by omega) (by have := f.ml; omega)
    simp only [Nat.reduceAdd, reduceIte, Nat.reduceEqDiff, reduceCtorEq, Int.reduceLT, Int.reduceEq, opConvert, opIndexAddr, opLoad, Nat.reduceLT, undef, Nat.reduceLeDiff, Array.toList, rowV, wk4, wk5, wk0, fxC17g, g1, h, l2]
    refine refword_ret (by omega) (by have := f.ml; omega) fun m2 r2 x2 n2' b2 => ?_
    rw [h] at b1
    obtain ⟨m3, r3, e3, b3, n3, y3⟩ := Brow.cat wt x1 (by omega) b1 x2 b2 (by simp only [List.length_append, wordB_length]; omega)
    obtain ⟨P3, hP3⟩ : ∃ l, l = wordB 2 ++ wordB E.mem.length := ⟨_, rfl⟩
    have pl3 : P3.length = 4 := by rw [hP3]; rfl
    rw [← hP3] at e3 b3
    have g3 := gz m3 y3
    simp only [Nat.reduceAdd, reduceIte, Nat.reduceEqDiff, reduceCtorEq, Int.reduceLT, Int.reduceEq, opConvert, opIndexAddr, opLoad, Nat.reduceLT, undef, Nat.reduceLeDiff, Array.toList, rowV, wk4, wk5, wk0, fxC17g, e3, g3, l2]
    refine loop_wp [] (by kernel_rfl) (fun k env μ => ∃ (j r' : Nat) (bs' : List Int), k + j = E.mem.length ∧ bs' = P3 ++ (E.mem.take j).flatMap wordB ∧ bs'.length = 4 + j * 2 ∧ Byr μ r' bs' ∧ m0.next ≤ r' ∧ Ext m0 μ ∧ env 3 = some (.slice (some ⟨r', 0, none⟩) bs'.length 1) ∧ env 52 = some (.slice a2 E.mem.length z2) ∧ env 53 = some (.int .i64 E.mem.length) ∧ env 54 = some (.int .i64 j)) ?_ E.mem.length
      ⟨0, r3, P3, rfl, by simp, by omega, b3, n3, y3, rfl, rfl, rfl, rfl⟩
    rintro k env μ ⟨j, r', bs', hk, hbs, hbl, b, hr, fr, e3', e52, e53, e54⟩
    simp only [Nat.reduceAdd, reduceIte, Nat.reduceEqDiff, reduceCtorEq, opLen, Int.reduceLT, Int.reduceEq, opConvert, opIndexAddr, opLoad, Nat.reduceLT, undef, Nat.reduceLeDiff, Array.toList, rowV, wk4, wk5, wk0, fxC17g, e53, e54]
    refine cond_by (fun hlt => ?_) (fun hge => ?_)
    · have hj' : j < E.mem.length := by omega
      have hj : j < (intCells E.mem).length := by simp only [intCells, List.length_map]; omega
      obtain ⟨p1, q1, t1, _⟩ := (sh2 μ (x0.trans fr)).at (P := Try.prog) Try.underlying42 ts3 (by simp only [aggOf, Try.underlying3]) hj
      have ev : (intCells E.mem)[j] = .int .i64 E.mem[j] := by simp only [intCells, List.getElem_map]
      rw [ev] at t1
      have hx := f.mx E.mem[j] (List.getElem_mem _)
      simp only [Nat.reduceAdd, reduceIte, Nat.reduceEqDiff, reduceCtorEq, opLen, Int.reduceLT, Int.reduceEq, opConvert, Nat.reduceLT, undef, Nat.reduceLeDiff, Array.toList, rowV, wk4, wk5, wk0, fxC17g, e3', e52, e53, e54, q1, t1]
      refine refword_ret hx.1 (by omega) fun m4 r4 x4 n4 b4 => ?_
      have ml := f.ml
      obtain ⟨m5, r5, e5, b5, n5, y5⟩ := Brow.cat wt fr hr b x4 b4 (by rw [List.length_append, wordB_length]; omega)
      have hw1 : IntKind.i64.wrap ((j : Int) + 1) = ((j + 1 : Nat) : Int) := by rw [wrap_i64 (by omega) (by have := f.ml; omega)]; rfl
      obtain ⟨B5, hB5⟩ : ∃ l, l = bs' ++ wordB E.mem[j] := ⟨_, rfl⟩
      have bl5 : B5.length = bs'.length + 2 := by rw [hB5, List.length_append]; rfl
      rw [← hB5] at e5 b5
      simp only [Nat.reduceAdd, reduceIte, Nat.reduceEqDiff, reduceCtorEq, opLen, Int.reduceLT, Int.reduceEq, opConvert, Nat.reduceLT, undef, Nat.reduceLeDiff, Array.toList, rowV, wk4, wk5, wk0, fxC17g, e3', e52, e53, e54, hw1, e5]
      exact ⟨k - 1, by omega, j + 1, r5, B5, by omega, by rw [flat_succ _ hj', ← List.append_assoc, ← hbs, hB5], by omega, b5, n5, y5, rfl, rfl⟩
    · have hj : j = E.mem.length := by omega
      subst hj
      rw [List.take_length, hP3, List.append_assoc, ← ent2 h] at hbs
      rw [hbs] at b e3'
      simp only [Nat.reduceAdd, reduceIte, Nat.reduceEqDiff, reduceCtorEq, opLen, Int.reduceLT, Int.reduceEq, opConvert, opIndexAddr, opLoad, Nat.reduceLT, undef, Nat.reduceLeDiff, Array.toList, rowV, wk4, wk5, wk0, fxC17g, e53, e54, e3']
      exact hK μ r' (x0.trans fr) (by omega) b
end Go.Proofs.Ytejgoooanapjbaa
