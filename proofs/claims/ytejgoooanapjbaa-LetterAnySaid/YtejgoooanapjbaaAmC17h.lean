/- A text of the abstract machine. -/






/- Entries: taken of any bytes. -/
import Derived.Test.YtejgoooanapjbaaAmC17g
import Derived.Test.YtejgoooanapjbaaAmC17w
import Derived.Test.YtejgoooanapjbaaAmBun
set_option linter.unusedSimpArgs false
set_option linter.unusedVariables false
set_option maxRecDepth 100000
set_option maxHeartbeats 4000000
namespace Go.Proofs.Ytejgoooanapjbaa
open Go Go.AM Go.AM.Crc Go.AM.Wire
theorem fxC17h : type_of% (And.intro (And.intro (And.intro (And.intro (And.intro (And.intro (And.intro @Try.underlying3 (And.intro @Try.underlying4 @Try.underlying5)) (And.intro @Try.underlying9 (And.intro @Try.underlying42 @Try.underlying46))) (And.intro (And.intro @Try.underlying47 (And.intro @Try.underlying123 @Try.underlying23)) (And.intro (And.intro @Try.underlying26 @Try.underlying28) (And.intro @Try.underlying39 @Try.underlying41)))) (And.intro (And.intro (And.intro @Try.underlying44 (And.intro @Try.underlying24 @Try.underlying37)) (And.intro (And.intro @Try.underlying22 @Try.underlying0) (And.intro @Try.underlying100 @Try.underlying66))) (And.intro (And.intro @Try.underlying68 (And.intro @Try.underlying78 @Try.underlying103)) (And.intro (And.intro @Try.underlying49 @Try.underlying34) (And.intro @Try.underlying36 @Try.underlying51))))) (And.intro (And.intro (And.intro (And.intro @Try.underlying53 (And.intro @Try.underlying55 @Try.underlying88)) (And.intro (And.intro @Try.underlying32 @Try.underlying30) (And.intro @Try.underlying61 @Try.underlying63))) (And.intro (And.intro @Try.underlying90 (And.intro @Try.underlying92 @Try.underlying94)) (And.intro (And.intro @ts3 @ts4) (And.intro @ts5 @ts9)))) (And.intro (And.intro (And.intro @ts42 (And.intro @ts46 @ts47)) (And.intro (And.intro @ts123 @ts23) (And.intro @ts26 @ts28))) (And.intro (And.intro @ts39 (And.intro @ts41 @ts44)) (And.intro (And.intro @ts24 @ts37) (And.intro @ts22 @ts0)))))) (And.intro (And.intro (And.intro (And.intro (And.intro @ts100 (And.intro @ts66 @ts68)) (And.intro @ts78 (And.intro @ts103 @ts49))) (And.intro (And.intro @ts34 (And.intro @ts36 @ts51)) (And.intro (And.intro @ts53 @ts55) (And.intro @ts88 @ts32)))) (And.intro (And.intro (And.intro @ts30 (And.intro @ts61 @ts63)) (And.intro (And.intro @ts90 @ts92) (And.intro @ts94 @tz3))) (And.intro (And.intro @tz4 (And.intro @tz5 @tz9)) (And.intro (And.intro @tz42 @tz46) (And.intro @tz47 @tz123))))) (And.intro (And.intro (And.intro (And.intro @tz23 (And.intro @tz26 @tz28)) (And.intro (And.intro @tz39 @tz41) (And.intro @tz44 @tz24))) (And.intro (And.intro @tz37 (And.intro @tz22 @tz0)) (And.intro (And.intro @tz100 @tz66) (And.intro @tz68 @tz78)))) (And.intro (And.intro (And.intro @tz103 (And.intro @tz49 @tz34)) (And.intro (And.intro @tz36 @tz51) (And.intro @tz53 @tz55))) (And.intro (And.intro @tz88 (And.intro @tz32 @tz30)) (And.intro (And.intro @tz61 @tz63) (And.intro @tz90 @tz92))))))) (And.intro (And.intro (And.intro (And.intro (And.intro (And.intro @tz94 (And.intro @tb3 @tb4)) (And.intro @tb5 (And.intro @tb9 @tb42))) (And.intro (And.intro @tb46 (And.intro @tb47 @tb123)) (And.intro (And.intro @tb23 @tb26) (And.intro @tb28 @tb39)))) (And.intro (And.intro (And.intro @tb41 (And.intro @tb44 @tb24)) (And.intro (And.intro @tb37 @tb22) (And.intro @tb0 @tb100))) (And.intro (And.intro @tb66 (And.intro @tb68 @tb78)) (And.intro (And.intro @tb103 @tb49) (And.intro @tb34 @tb36))))) (And.intro (And.intro (And.intro (And.intro @tb51 (And.intro @tb53 @tb55)) (And.intro (And.intro @tb88 @tb32) (And.intro @tb30 @tb61))) (And.intro (And.intro @tb63 (And.intro @tb90 @tb92)) (And.intro (And.intro @tb94 @fr30) (And.intro @fr33 @fr34)))) (And.intro (And.intro (And.intro @fr35 (And.intro @fr36 @fr40)) (And.intro (And.intro @fr56 @fr57) (And.intro @bz46 @al46))) (And.intro (And.intro @fa46_0 (And.intro @fa46_1 @bz28)) (And.intro (And.intro @bz26 @bz41) (And.intro @bz44 @al41)))))) (And.intro (And.intro (And.intro (And.intro (And.intro @al44 (And.intro @fa44_0 @fa44_1)) (And.intro (And.intro @fa44_2 @fa41_0) (And.intro @fa41_1 @fa41_2))) (And.intro (And.intro @fa28_0 (And.intro @fa28_1 @fa28_2)) (And.intro (And.intro @fa26_0 @fa26_1) (And.intro @fa26_2 @fa26_3)))) (And.intro (And.intro (And.intro @bz103 (And.intro @al68 @al103)) (And.intro (And.intro @fa68_0 @fa103_0) (And.intro @fa103_1 @fa103_2))) (And.intro (And.intro @bin_weq (And.intro @bin_wneq @bin_req)) (And.intro (And.intro @bin_rneq @bz39) (And.intro @fa39_0 @fa39_1))))) (And.intro (And.intro (And.intro (And.intro @bz68 (And.intro @bz49 @al49)) (And.intro (And.intro @fa49_0 @fa49_1) (And.intro @fa49_2 @bz51))) (And.intro (And.intro @al51 (And.intro @fa51_0 @fa51_1)) (And.intro (And.intro @fa51_2 @fa51_3) (And.intro @fa51_4 @fa51_5)))) (And.intro (And.intro (And.intro @fa51_6 (And.intro @fa51_7 @fa51_8)) (And.intro (And.intro @fa51_9 @fa51_10) (And.intro @fa51_11 @bz36))) (And.intro (And.intro @al36 (And.intro @fa36_0 @fa36_1)) (And.intro (And.intro @oneOf_two @al24) (And.intro @al90 @bz32)))))))) := (And.intro (And.intro (And.intro (And.intro (And.intro (And.intro (And.intro @Try.underlying3 (And.intro @Try.underlying4 @Try.underlying5)) (And.intro @Try.underlying9 (And.intro @Try.underlying42 @Try.underlying46))) (And.intro (And.intro @Try.underlying47 (And.intro @Try.underlying123 @Try.underlying23)) (And.intro (And.intro @Try.underlying26 @Try.underlying28) (And.intro @Try.underlying39 @Try.underlying41)))) (And.intro (And.intro (And.intro @Try.underlying44 (And.intro @Try.underlying24 @Try.underlying37)) (And.intro (And.intro @Try.underlying22 @Try.underlying0) (And.intro @Try.underlying100 @Try.underlying66))) (And.intro (And.intro @Try.underlying68 (And.intro @Try.underlying78 @Try.underlying103)) (And.intro (And.intro @Try.underlying49 @Try.underlying34) (And.intro @Try.underlying36 @Try.underlying51))))) (And.intro (And.intro (And.intro (And.intro @Try.underlying53 (And.intro @Try.underlying55 @Try.underlying88)) (And.intro (And.intro @Try.underlying32 @Try.underlying30) (And.intro @Try.underlying61 @Try.underlying63))) (And.intro (And.intro @Try.underlying90 (And.intro @Try.underlying92 @Try.underlying94)) (And.intro (And.intro @ts3 @ts4) (And.intro @ts5 @ts9)))) (And.intro (And.intro (And.intro @ts42 (And.intro @ts46 @ts47)) (And.intro (And.intro @ts123 @ts23) (And.intro @ts26 @ts28))) (And.intro (And.intro @ts39 (And.intro @ts41 @ts44)) (And.intro (And.intro @ts24 @ts37) (And.intro @ts22 @ts0)))))) (And.intro (And.intro (And.intro (And.intro (And.intro @ts100 (And.intro @ts66 @ts68)) (And.intro @ts78 (And.intro @ts103 @ts49))) (And.intro (And.intro @ts34 (And.intro @ts36 @ts51)) (And.intro (And.intro @ts53 @ts55) (And.intro @ts88 @ts32)))) (And.intro (And.intro (And.intro @ts30 (And.intro @ts61 @ts63)) (And.intro (And.intro @ts90 @ts92) (And.intro @ts94 @tz3))) (And.intro (And.intro @tz4 (And.intro @tz5 @tz9)) (And.intro (And.intro @tz42 @tz46) (And.intro @tz47 @tz123))))) (And.intro (And.intro (And.intro (And.intro @tz23 (And.intro @tz26 @tz28)) (And.intro (And.intro @tz39 @tz41) (And.intro @tz44 @tz24))) (And.intro (And.intro @tz37 (And.intro @tz22 @tz0)) (And.intro (And.intro @tz100 @tz66) (And.intro @tz68 @tz78)))) (And.intro (And.intro (And.intro @tz103 (And.intro @tz49 @tz34)) (And.intro (And.intro @tz36 @tz51) (And.intro @tz53 @tz55))) (And.intro (And.intro @tz88 (And.intro @tz32 @tz30)) (And.intro (And.intro @tz61 @tz63) (And.intro @tz90 @tz92))))))) (And.intro (And.intro (And.intro (And.intro (And.intro (And.intro @tz94 (And.intro @tb3 @tb4)) (And.intro @tb5 (And.intro @tb9 @tb42))) (And.intro (And.intro @tb46 (And.intro @tb47 @tb123)) (And.intro (And.intro @tb23 @tb26) (And.intro @tb28 @tb39)))) (And.intro (And.intro (And.intro @tb41 (And.intro @tb44 @tb24)) (And.intro (And.intro @tb37 @tb22) (And.intro @tb0 @tb100))) (And.intro (And.intro @tb66 (And.intro @tb68 @tb78)) (And.intro (And.intro @tb103 @tb49) (And.intro @tb34 @tb36))))) (And.intro (And.intro (And.intro (And.intro @tb51 (And.intro @tb53 @tb55)) (And.intro (And.intro @tb88 @tb32) (And.intro @tb30 @tb61))) (And.intro (And.intro @tb63 (And.intro @tb90 @tb92)) (And.intro (And.intro @tb94 @fr30) (And.intro @fr33 @fr34)))) (And.intro (And.intro (And.intro @fr35 (And.intro @fr36 @fr40)) (And.intro (And.intro @fr56 @fr57) (And.intro @bz46 @al46))) (And.intro (And.intro @fa46_0 (And.intro @fa46_1 @bz28)) (And.intro (And.intro @bz26 @bz41) (And.intro @bz44 @al41)))))) (And.intro (And.intro (And.intro (And.intro (And.intro @al44 (And.intro @fa44_0 @fa44_1)) (And.intro (And.intro @fa44_2 @fa41_0) (And.intro @fa41_1 @fa41_2))) (And.intro (And.intro @fa28_0 (And.intro @fa28_1 @fa28_2)) (And.intro (And.intro @fa26_0 @fa26_1) (And.intro @fa26_2 @fa26_3)))) (And.intro (And.intro (And.intro @bz103 (And.intro @al68 @al103)) (And.intro (And.intro @fa68_0 @fa103_0) (And.intro @fa103_1 @fa103_2))) (And.intro (And.intro @bin_weq (And.intro @bin_wneq @bin_req)) (And.intro (And.intro @bin_rneq @bz39) (And.intro @fa39_0 @fa39_1))))) (And.intro (And.intro (And.intro (And.intro @bz68 (And.intro @bz49 @al49)) (And.intro (And.intro @fa49_0 @fa49_1) (And.intro @fa49_2 @bz51))) (And.intro (And.intro @al51 (And.intro @fa51_0 @fa51_1)) (And.intro (And.intro @fa51_2 @fa51_3) (And.intro @fa51_4 @fa51_5)))) (And.intro (And.intro (And.intro @fa51_6 (And.intro @fa51_7 @fa51_8)) (And.intro (And.intro @fa51_9 @fa51_10) (And.intro @fa51_11 @bz36))) (And.intro (And.intro @al36 (And.intro @fa36_0 @fa36_1)) (And.intro (And.intro @oneOf_two @al24) (And.intro @al90 @bz32))))))))
theorem bldEk (a : Int) : opBuild Try.prog 44 [(0, .int .u8 a)] = some (.agg #[.int .u8 a, .int .u16 0, .int .u16 0, .int .i64 0, .slice none 0 0, .slice none 0 0]) := by kernel_rfl
theorem bld44z : opBuild Try.prog 44 [] = some (.agg #[.int .u8 0, .int .u16 0, .int .u16 0, .int .i64 0, .slice none 0 0, .slice none 0 0]) := by kernel_rfl
theorem fresh_frz {m m' : Mem} {v : Value} {bs : List Int} (h : Fresh 5 m m' v bs) : ∃ m'', Frz m' m'' ∧ FRow m'' v 1 bs.length (byteCells bs) ∧ m''.next = m'.next ∧ ∀ j, j < m.next → m''.get j = m'.get j := by
  rcases h with ⟨rfl, rfl⟩ | ⟨a, rfl, h1, h2⟩
  · exact ⟨m', Frz.refl _, FRow.nil, rfl, fun _ _ => rfl⟩
  · obtain ⟨m2, z, f, n, k⟩ := h2.own.frz
    exact ⟨m2, z, f, n, fun j hj => k j (by omega)⟩
theorem ctake_ret {m : Mem} {i r : Nat} {all : List Int} {s : Nat × Int} (hr : Rri m i r all s) (hl : all.length < 2 ^ 40) (hb : Bytes all)
    {K : Value → Mem → Prop} (hK : ∀ m' v, Rri m' i r all (callS all s).2 → Fr1 i m m' → FRow m' v 1 (callS all s).1.args.length (byteCells (callS all s).1.args) → K (callV (callS all s).1.t (callS all s).1.n (callS all s).1.p v) m') : Ret Try.prog 34 [.pointer (some ⟨i, 0, none⟩)] m K :=
  Ret.join (call_take_ret hr hl hb fun m' v R f fr => by
    obtain ⟨m2, z, f2, n, k⟩ := fresh_frz fr
    exact ⟨m2, z, hK _ _ (R.keep (Nat.le_of_eq n.symm) (k i hr.1) (k r hr.2.1)) ⟨by rw [n]; exact f.1, fun j hj hne => (k j hj).trans (f.2 j hj hne)⟩ f2⟩)
theorem atake_ret {m : Mem} {i r : Nat} {all : List Int} {s : Nat × Int} (hr : Rri m i r all s) (hl : all.length < 2 ^ 40) (hb : Bytes all)
    {K : Value → Mem → Prop} (hK : ∀ m' v, Rri m' i r all (ansS all s).2 → Fr1 i m m' → FRow m' v 1 (ansS all s).1.args.length (byteCells (ansS all s).1.args) → K (ansV (ansS all s).1.e (ansS all s).1.r v) m') : Ret Try.prog 36 [.pointer (some ⟨i, 0, none⟩)] m K :=
  Ret.join (ans_take_ret hr hl hb fun m' v R f fr => by
    obtain ⟨m2, z, f2, n, k⟩ := fresh_frz fr
    exact ⟨m2, z, hK _ _ (R.keep (Nat.le_of_eq n.symm) (k i hr.1) (k r hr.2.1)) ⟨by rw [n]; exact f.1, fun j hj hne => (k j hj).trans (f.2 j hj hne)⟩ f2⟩)
/-- Words that are taken one behind the other. -/
def wordsS (all : List Int) : Nat → Nat × Int → List Int × (Nat × Int)
  | 0, s => ([], s)
  | n + 1, s => ((wordsS all n s).1 ++ [(wordS all (wordsS all n s).2).1], (wordS all (wordsS all n s).2).2)
theorem wordsS_len (all : List Int) (n : Nat) (s : Nat × Int) : (wordsS all n s).1.length = n := by
  induction n with
  | zero => rfl
  | succ n ih => rw [wordsS, List.length_append, ih]; rfl
def zE : Ent := ⟨0, 0, 0, 0, [], []⟩
def entE (l : List Int) (t : Nat × Int) : Ent × (Nat × Int) :=
  let s' := if t.2 = 0 ∧ echk ⟨2, 0, 0, 0, [], l⟩ ≠ 0 then failS (echk ⟨2, 0, 0, 0, [], l⟩) t else t
  if s'.2 ≠ 0 then (zE, s') else (⟨2, 0, 0, 0, [], l⟩, s')
/-- An entry that is taken. -/
def entS (all : List Int) (s : Nat × Int) : Ent × (Nat × Int) :=
  let k := withinS all 2 s
  if k.1 = 1 then
    let c := callS all k.2
    if c.2.2 ≠ 0 then (zE, c.2) else (⟨1, c.1.t, c.1.n, c.1.p, c.1.args, []⟩, c.2)
  else if k.1 = 2 then
    let n := withinS all 16 k.2
    let l := wordsS all n.1.toNat n.2
    entE l.1 l.2
  else (zE, k.2)
theorem within_most {all : List Int} {s : Nat × Int} {most : Int} (hb : Bytes all) (hs : s.1 ≤ all.length) (hm : 0 ≤ most) : 0 ≤ (withinS all most s).1 ∧ (withinS all most s).1 ≤ most := by
  obtain ⟨_, h1, h2⟩ := within_good (most := most) hb hs
  refine ⟨(withinS_val hb).1, ?_⟩
  by_cases h : (withinS all most s).2.2 = 0
  · exact h1 h
  · rw [h2 h]; exact hm
theorem vtake_ret {m : Mem} {i r : Nat} {all : List Int} {s : Nat × Int} (hr : Rri m i r all s) (hl : all.length < 2 ^ 40) (hb_ : Bytes all)
    {K : Value → Mem → Prop} (hK : ∀ m' v, Rri m' i r all (entS all s).2 → Fr1 i m m' → EnF m' v (entS all s).1 → K v m') : Ret Try.prog 33 [.pointer (some ⟨i, 0, none⟩)] m K := by
  refine ret_wp [(8, [1])] Try.func33 rfl (by decide) (by kernel_rfl) ?_
  simp only [wk6, Nat.reduceBEq, wk1, forall_eq, Nat.reduceAdd, reduceIte, Nat.reduceEqDiff, reduceCtorEq, opLen, Int.reduceLT, Int.reduceEq, opConvert, opIndexAddr, opLoad, Nat.reduceLT, undef, Nat.reduceLeDiff, Array.toList, bldEk, bld44z, one_intM, wk4, wk5, wk0, fxC17h]
  obtain ⟨Z, hZ⟩ : ∃ Z, Z = Blk.cells [.int .u8 0, .int .u16 0, .int .u16 0, .int .i64 0, .slice none 0 0, .slice none 0 0] 44 true := ⟨_, rfl⟩
  rw [← hZ]
  have x0 : Ext m (m.new Z) := Ext.new _ _
  have nx : (m.new Z).next = m.next + 1 := rfl
  have gz : (m.new Z).get m.next = some Z := new_get _ _
  have R0 := hr.ext x0
  have hi := hr.1
  have hri := hr.2.1
  generalize m.new Z = m0 at x0 nx gz R0 ⊢
  have hkm := within_most (most := 2) hb_ R0.2.2.2.1 (by decide)
  refine within_ret R0 hl hb_ fun m1 R1 f1 => ?_
  obtain ⟨W, hW⟩ : ∃ W, W = withinS all 2 s := ⟨_, rfl⟩
  have eS : entS all s = if W.1 = 1 then (if (callS all W.2).2.2 ≠ 0 then (zE, (callS all W.2).2) else (⟨1, (callS all W.2).1.t, (callS all W.2).1.n, (callS all W.2).1.p, (callS all W.2).1.args, []⟩, (callS all W.2).2)) else if W.1 = 2 then
(entE (wordsS all (withinS all 16 W.2).1.toNat (withinS all 16 W.2).2).1 (wordsS all (withinS all 16 W.2).1.toNat (withinS all 16 W.2).2).2) else (zE, W.2) := by rw [hW]; rfl
  rw [← hW] at R1 hkm ⊢
  have e8 : IntKind.u8.wrap W.1 = W.1 := wrap_u8 (by omega) (by omega)
  have l1 := f1.1
  have gz1 := (f1.2 m.next (by omega) (by omega)).trans gz
  have F1 : Fr1 i m m1 := ⟨by omega, fun j hj hne => by rw [f1.2 j (by omega) hne, x0.2 j hj]⟩
  have fin : ∀ (M : Mem) (t : Nat × Int), Rri M i r all t → Fr1 i m M → m.next < M.next → ∀ B : Blk, Rri (M.set m.next B) i r all t ∧ Fr1 i m (M.set m.next B) := fun M t a b c B =>
    ⟨a.keep (Nat.le_refl _) (set_get_ne _ (by omega)) (set_get_ne _ (by omega)), ⟨b.1, fun j hj hne => by rw [set_get_ne _ (by omega), b.2 j hj hne]⟩⟩
  have hk3 : W.1 = 0 ∨ W.1 = 1 ∨ W.1 = 2 := by omega
  rcases hk3 with h | h | h
  · rw [if_neg (by omega), if_neg (by omega)] at eS
    rw [eS] at hK
    have ek : IntKind.u8.wrap 0 = 0 := by decide
    simp only [wk6, Nat.reduceBEq, wk1, forall_eq, Nat.reduceAdd, reduceIte, Nat.reduceEqDiff, reduceCtorEq, opLen, Int.reduceLT, Int.reduceEq, opConvert, opIndexAddr, opLoad, Nat.reduceLT, undef, Nat.reduceLeDiff, Array.toList, bldEk, bld44z, one_intM, wk4, wk5, wk0, fxC17h, h, ek]
    obtain ⟨m2, hm2⟩ : ∃ M, M = (m1.new (.cells [.int .u8 0, .int .u16 0, .int .u16 0, .int .i64 0, .slice none 0 0, .slice none 0 0] 44 true)).set m1.next (.cells [.int .u8 0, .int .u16 0, .int .u16 0, .int .i64 0, .slice none 0 0, .slice none 0 0] 44 true) := ⟨_, rfl⟩
    rw [← hm2]
    have n2 : m2.next = m1.next + 1 := by rw [hm2]; rfl
    have k2 : ∀ j, j < m1.next → m2.get j = m1.get j := fun j hj => by rw [hm2, set_get_ne _ (by omega), new_get_ne _ (by omega)]
    have g2 : m2.get m1.next = some (.cells [.int .u8 0, .int .u16 0, .int .u16 0, .int .i64 0, .slice none 0 0, .slice none 0 0] 44 true) := by rw [hm2, set_get]
    have R2 := R1.keep (by omega) (k2 i (by omega)) (k2 r (by omega))
    have gz2 := (k2 m.next (by omega)).trans gz1
    rw [hZ] at gz2
    refine err_ret R2 ?_
    obtain ⟨q1, q2⟩ := fin m2 _ R2 ⟨by omega, fun j hj hne => by rw [k2 j (by omega), F1.2 j hj hne]⟩ (by omega) (.cells [.int .u8 0, .int .u16 0, .int .u16 0, .int .i64 0, .slice none 0 0, .slice none 0 0] 44 true)
    by_cases he : W.2.2 = 0
    · simp only [wk6, Nat.reduceBEq, wk1, forall_eq, Nat.reduceAdd, reduceIte, Nat.reduceEqDiff, reduceCtorEq, opLen, Int.reduceLT, Int.reduceEq, opConvert, opIndexAddr, opLoad, Nat.reduceLT, undef, Nat.reduceLeDiff, Array.toList, bldEk, bld44z, one_intM, wk4, wk5, wk0, fxC17h, g2, gz2, he]
      exact hK _ _ q1 q2 ⟨_, _, rfl, FRow.nil, FRow.nil⟩
    · simp only [wk6, Nat.reduceBEq, wk1, forall_eq, Nat.reduceAdd, reduceIte, Nat.reduceEqDiff, reduceCtorEq, opLen, Int.reduceLT, Int.reduceEq, opConvert, opIndexAddr, opLoad, Nat.reduceLT, undef, Nat.reduceLeDiff, Array.toList, bldEk, bld44z, one_intM, wk4, wk5, wk0, fxC17h, g2, gz2, he]
      exact hK _ _ q1 q2 ⟨_, _, rfl, FRow.nil, FRow.nil⟩
  · rw [if_pos h] at eS
    have ek : IntKind.u8.wrap 1 = 1 := by decide
    simp only [wk6, Nat.reduceBEq, wk1, forall_eq, Nat.reduceAdd, reduceIte, Nat.reduceEqDiff, reduceCtorEq, opLen, Int.reduceLT, Int.reduceEq, opConvert, opIndexAddr, opLoad, Nat.reduceLT, undef, Nat.reduceLeDiff, Array.toList, bldEk, bld44z, one_intM, wk4, wk5, wk0, fxC17h, h, ek]
    obtain ⟨m2, hm2⟩ : ∃ M, M = (m1.new (.cells [.int .u8 0, .int .u16 0, .int .u16 0, .int .i64 0, .slice none 0 0, .slice none 0 0] 44 true)).set m1.next (.cells [.int .u8 1, .int .u16 0, .int .u16 0, .int .i64 0, .slice none 0 0, .slice none 0 0] 44 true) := ⟨_, rfl⟩
    rw [← hm2]
    have n2 : m2.next = m1.next + 1 := by rw [hm2]; rfl
    have k2 : ∀ j, j < m1.next → m2.get j = m1.get j := fun j hj => by rw [hm2, set_get_ne _ (by omega), new_get_ne _ (by omega)]
    have g2 : m2.get m1.next = some (.cells [.int .u8 1, .int .u16 0, .int .u16 0, .int .i64 0, .slice none 0 0, .slice none 0 0] 44 true) := by rw [hm2, set_get]
    have R2 := R1.keep (by omega) (k2 i (by omega)) (k2 r (by omega))
    have gz2 := (k2 m.next (by omega)).trans gz1
    rw [hZ] at gz2
    have F2 : Fr1 i m m2 := ⟨by omega, fun j hj hne => by rw [k2 j (by omega), F1.2 j hj hne]⟩
    clear hm2
    refine ctake_ret R2 hl hb_ fun m3 v3 R3 f3 fr3 => ?_
    obtain ⟨C, hC⟩ : ∃ C, C = callS all W.2 := ⟨_, rfl⟩
    rw [← hC] at R3 fr3 eS ⊢
    obtain ⟨y3, z3, rfl⟩ := fr3.is
    have l3 := f3.1
    have g3 := (f3.2 m1.next (by omega) (by omega)).trans g2
    have gz3 := (f3.2 m.next (by omega) (by omega)).trans gz2
    have F3 := F2.trans f3
    simp only [wk6, Nat.reduceBEq, wk1, forall_eq, Nat.reduceAdd, reduceIte, Nat.reduceEqDiff, reduceCtorEq, opLen, Int.reduceLT, Int.reduceEq, opConvert, opIndexAddr, opLoad, Nat.reduceLT, undef, Nat.reduceLeDiff, Array.toList, bldEk, bld44z, one_intM, wk4, wk5, wk0, fxC17h, g3]
    obtain ⟨m4, hm4⟩ : ∃ M, M = m3.set m1.next (.cells [.int .u8 1, .int .u16 C.1.t, .int .u16 C.1.n, .int .i64 C.1.p, .slice y3 C.1.args.length z3, .slice none 0 0] 44 true) := ⟨_, rfl⟩
    rw [← hm4]
    have n4 : m4.next = m3.next := by rw [hm4]; rfl
    have k4 : ∀ j, j ≠ m1.next → m4.get j = m3.get j := fun j hj => by rw [hm4, set_get_ne _ hj]
    have g4 : m4.get m1.next = some (.cells [.int .u8 1, .int .u16 C.1.t, .int .u16 C.1.n, .int .i64 C.1.p, .slice y3 C.1.args.length z3, .slice none 0 0] 44 true) := by rw [hm4, set_get]
    have p4 : Pz m3 m4 := by rw [hm4]; exact Pz.set g3 _
    clear hm4
    have R4 := R3.keep (by omega) (k4 i (by omega)) (k4 r (by omega))
    have gz4 := (k4 m.next (by omega)).trans gz3
    refine err_ret R4 ?_
    have F4 : Fr1 i m m4 := ⟨by omega, fun j hj hne => by rw [k4 j (by omega), F3.2 j hj hne]⟩
    by_cases he : C.2.2 = 0
    · rw [if_neg (by exact fun h => h he)] at eS
      rw [eS] at hK
      simp only [wk6, Nat.reduceBEq, wk1, forall_eq, Nat.reduceAdd, reduceIte, Nat.reduceEqDiff, reduceCtorEq, opLen, Int.reduceLT, Int.reduceEq, opConvert, opIndexAddr, opLoad, Nat.reduceLT, undef, Nat.reduceLeDiff, Array.toList, bldEk, bld44z, one_intM, wk4, wk5, wk0, fxC17h, g4, gz4, he]
      obtain ⟨q1, q2⟩ := fin m4 _ R4 F4 (by omega) (.cells [.int .u8 1, .int .u16 C.1.t, .int .u16 C.1.n, .int .i64 C.1.p, .slice y3 C.1.args.length z3, .slice none 0 0] 44 true)
      exact hK _ _ q1 q2 ⟨_, _, rfl, fr3.pz (p4.trans (Pz.set gz4 _)), FRow.nil⟩
    · rw [if_pos he] at eS
      rw [eS] at hK
      simp only [wk6, Nat.reduceBEq, wk1, forall_eq, Nat.reduceAdd, reduceIte, Nat.reduceEqDiff, reduceCtorEq, opLen, Int.reduceLT, Int.reduceEq, opConvert, opIndexAddr, opLoad, Nat.reduceLT, undef, Nat.reduceLeDiff, Array.toList, bldEk, bld44z, one_intM, wk4, wk5, wk0, fxC17h, g4, gz4, he]
      obtain ⟨q1, q2⟩ := fin m4 _ R4 F4 (by omega) (.cells [.int .u8 0, .int .u16 0, .int .u16 0, .int .i64 0, .slice none 0 0, .slice none 0 0] 44 true)
      exact hK _ _ q1 q2 ⟨_, _, rfl, FRow.nil, FRow.nil⟩
  · rw [if_neg (by omega), if_pos h] at eS
    have ek : IntKind.u8.wrap 2 = 2 := by decide
    simp only [wk6, Nat.reduceBEq, wk1, forall_eq, Nat.reduceAdd, reduceIte, Nat.reduceEqDiff, reduceCtorEq, opLen, Int.reduceLT, Int.reduceEq, opConvert, opIndexAddr, opLoad, Nat.reduceLT, undef, Nat.reduceLeDiff, Array.toList, bldEk, bld44z, one_intM, wk4, wk5, wk0, fxC17h, h, ek]
    obtain ⟨m2, hm2⟩ : ∃ M, M = (m1.new (.cells [.int .u8 0, .int .u16 0, .int .u16 0, .int .i64 0, .slice none 0 0, .slice none 0 0] 44 true)).set m1.next (.cells [.int .u8 2, .int .u16 0, .int .u16 0, .int .i64 0, .slice none 0 0, .slice none 0 0] 44 true) := ⟨_, rfl⟩
    rw [← hm2]
    have n2 : m2.next = m1.next + 1 := by rw [hm2]; rfl
    have k2 : ∀ j, j < m1.next → m2.get j = m1.get j := fun j hj => by rw [hm2, set_get_ne _ (by omega), new_get_ne _ (by omega)]
    have g2 : m2.get m1.next = some (.cells [.int .u8 2, .int .u16 0, .int .u16 0, .int .i64 0, .slice none 0 0, .slice none 0 0] 44 true) := by rw [hm2, set_get]
    have R2 := R1.keep (by omega) (k2 i (by omega)) (k2 r (by omega))
    have gz2 := (k2 m.next (by omega)).trans gz1
    rw [hZ] at gz2
    have F2 : Fr1 i m m2 := ⟨by omega, fun j hj hne => by rw [k2 j (by omega), F1.2 j hj hne]⟩
    clear hm2
    have hnm := within_most (most := 16) hb_ R2.2.2.2.1 (by decide)
    refine within_ret R2 hl hb_ fun m3 R3 f3 => ?_
    obtain ⟨NN, hNN⟩ : ∃ N, N = withinS all 16 W.2 := ⟨_, rfl⟩
    rw [← hNN] at R3 hnm ⊢
    obtain ⟨n, hn⟩ : ∃ n : Nat, NN.1 = (n : Int) := ⟨NN.1.toNat, by omega⟩
    have eS2 : entS all s = entE (wordsS all n NN.2).1 (wordsS all n NN.2).2 := by
      rw [eS, ← hNN, show NN.1.toNat = n by omega]
    clear eS
    rw [hn] at hnm ⊢
    have l3 := f3.1
    have g3 := (f3.2 m1.next (by omega) (by omega)).trans g2
    have gz3 := (f3.2 m.next (by omega) (by omega)).trans gz2
    have F3 := F2.trans f3
    obtain ⟨b3, hb3⟩ : ∃ b, b = m1.next := ⟨_, rfl⟩
    rw [← hb3] at g3 ⊢
    have h3a : m.next < b3 := by omega
    have h3b : b3 < m3.next := by omega
    clear g2 gz2 F2 n2 k2 l3
    simp only [wk6, Nat.reduceBEq, wk1, forall_eq, Nat.reduceAdd, reduceIte, Nat.reduceEqDiff, reduceCtorEq, opLen, Int.reduceLT, Int.reduceEq, opConvert, opIndexAddr, opLoad, Nat.reduceLT, undef, Nat.reduceLeDiff, Array.toList, bldEk, bld44z, one_intM, wk4, wk5, wk0, fxC17h]
    refine loop_wp [(8, [1])] (by kernel_rfl) (fun k env μ => ∃ (j rr : Nat) (v : Value), k + j = n ∧ Rri μ i r all (wordsS all j NN.2).2 ∧ Fr1 i m μ ∧ b3 < μ.next ∧ μ.get m.next = some (.cells [.int .u8 0, .int .u16 0, .int .u16 0, .int .i64 0, .slice none 0 0, .slice none 0 0] 44 true) ∧ μ.get b3 = some (.cells [.int .u8 2, .int .u16 0, .int .u16 0, .int .i64 0, .slice none 0 0, v] 44 true) ∧ OwnI rr 3 1 μ v j (intCells (wordsS all j NN.2).1) ∧ b3 < rr ∧ env 0 = some (.pointer (some ⟨i, 0, none⟩)) ∧ env 2 = some (.pointer (some ⟨m.next, 0, none⟩)) ∧ env 3 = some (.pointer (some ⟨b3, 0, none⟩)) ∧ env 19 = some (.int .i64 n) ∧ env 20 = some (.int .i64 j)) ?_ n
      ⟨0, m3.next, .slice none 0 0, rfl, R3, F3, h3b, gz3, g3, OwnI.nil, h3b, rfl, rfl, rfl, rfl, rfl⟩
    rintro k env μ ⟨j, rr, v, hk, R, F, hb, gz, gb, o, ov, e0', e2, e3, e19, e20⟩
    simp only [wk6, Nat.reduceBEq, wk1, forall_eq, Nat.reduceAdd, reduceIte, Nat.reduceEqDiff, reduceCtorEq, opLen, Int.reduceLT, Int.reduceEq, opConvert, opIndexAddr, opLoad, Nat.reduceLT, undef, Nat.reduceLeDiff, Array.toList, bldEk, bld44z, one_intM, wk4, wk5, wk0, fxC17h, e19, e20]
    refine cond_by (fun hlt => ?_) (fun hge => ?_)
    · have hj : j < n := by omega
      have cv := o.cell
      simp only [wk6, Nat.reduceBEq, wk1, forall_eq, Nat.reduceAdd, reduceIte, Nat.reduceEqDiff, reduceCtorEq, opLen, Int.reduceLT, Int.reduceEq, opConvert, opIndexAddr, opLoad, Nat.reduceLT, undef, Nat.reduceLeDiff, Array.toList, bldEk, bld44z, one_intM, wk4, wk5, wk0, fxC17h, e0', e3]
      refine Loose.freshTo [(1, 0)] 8 (by kernel_rfl) (by kernel_rfl) ?_
      simp only [wk2, wk7, Nat.reduceBEq, Nat.reduceSub, Nat.reduceAdd, reduceIte, Nat.reduceEqDiff, reduceCtorEq, opLen, Int.reduceLT, Int.reduceEq, opConvert, opIndexAddr, opLoad, Nat.reduceLT, undef, Nat.reduceLeDiff, Array.toList, bldEk, bld44z, one_intM, wk4, wk5, wk0, fxC17h, e0', e3, gb]
      refine ⟨cv.2.2.2, ?_⟩
      refine rword_ret R hl hb_ fun μ1 R4 f4 => ?_
      have wv := wordS_val (s := (wordsS all j NN.2).2) hb_
      have es1 : (wordsS all (j + 1) NN.2).1 = (wordsS all j NN.2).1 ++ [(wordS all (wordsS all j NN.2).2).1] := rfl
      have es2 : (wordsS all (j + 1) NN.2).2 = (wordS all (wordsS all j NN.2).2).2 := rfl
      obtain ⟨x, hx⟩ : ∃ x, x = (wordS all (wordsS all j NN.2).2).1 := ⟨_, rfl⟩
      rw [← hx] at wv es1 ⊢
      rw [← es2] at R4
      have l4 := f4.1
      have hb3i : b3 ≠ i := by omega
      have w64 : IntKind.i64.wrap x = x := wrap_i64 (by omega) (by omega)
      have gb4 := (f4.2 b3 hb hb3i).trans gb
      have gz4 := (f4.2 m.next (by have := F.1; omega) (by omega)).trans gz
      have o4 : OwnI rr 3 1 μ1 v j (intCells (wordsS all j NN.2).1) := o.keepN l4 fun hv hr => f4.2 rr hr (by omega)
      have on : OwnI μ1.next 3 1 (μ1.new (.cells (intCells [x]) 3 true)) (.slice (some ⟨μ1.next, 0, none⟩) 1 1) 1 (intCells [x]) := OwnI.made rfl
      obtain ⟨a5, q5, μ2, rr2, e5, o5, n5, l5, f5⟩ := (o4.ext (Ext.new μ1 (.cells (intCells [x]) 3 true))).push (P := Try.prog) (t := 42) (tx := 42) Try.underlying42 ⟨_, Try.underlying42⟩ ts3 (by decide) tz3 tb3 (by decide) rfl rfl on.rd.showsR (by omega)
      simp only [new_next] at n5 l5 f5
      have hrr2 : b3 < rr2 ∧ rr2 < μ2.next := by omega
      have f5' : ∀ k, k ≤ b3 → μ2.get k = μ1.get k := fun k hk => by
        rw [f5 k (by omega) (fun h => by omega), new_get_ne _ (by omega)]
      have gb5 := (f5' b3 (Nat.le_refl _)).trans gb4
      have hne : ¬ b3 = μ1.next := by omega
      have hw1 : IntKind.i64.wrap ((j : Int) + 1) = ((j + 1 : Nat) : Int) := by rw [wrap_i64 (by omega) (by omega)]; rfl
      have hne0 : ¬ m.next = b3 := by omega
      have gz5 := (f5' m.next (by omega)).trans gz4
      have e5 : opAppend Try.prog [42, 42] [v, .slice (some ⟨μ1.next, 0, none⟩) 1 1] (μ1.new (.cells [.int .i64 x] 3 true)) = some (.slice a5 (j + 1) q5, μ2) := e5
      simp only [wk2, wk7, Nat.reduceBEq, Nat.reduceSub, Nat.reduceAdd, reduceIte, Nat.reduceEqDiff, reduceCtorEq, opLen, Int.reduceLT, Int.reduceEq, opConvert, opIndexAddr, opLoad, Nat.reduceLT, undef, Nat.reduceLeDiff, Array.toList, bldEk, bld44z, one_intM, wk4, wk5, wk0, fxC17h, gb4, w64, e5, gb5, hne, gb, e0', e2, e3, e19, e20, hw1, hne0, gz5]
      refine ⟨k - 1, by omega, j + 1, rr2, _, by omega, ?_, ?_, by omega, rfl, ?_, hrr2.1, rfl⟩
      · exact R4.keep (by simp only [set_next]; omega) (by rw [set_get_ne _ (by omega), f5' i (by omega)]) (by rw [set_get_ne _ (by omega), f5' r (by omega)])
      · exact ⟨by have := F.1; simp only [set_next]; omega, fun k hk hne => by rw [set_get_ne _ (by omega), f5' k (by omega), (F.trans f4).2 k hk hne]⟩
      · have : intCells (wordsS all (j + 1) NN.2).1 = intCells (wordsS all j NN.2).1 ++ intCells [x] := by
          rw [es1]; simp
        rw [this]
        exact o5.keep (Nat.le_refl _) fun _ => set_get_ne _ (by omega)
    · have hj : j = n := by omega
      subst hj
      have hlen := wordsS_len all j NN.2
      obtain ⟨L, hL⟩ : ∃ L, L = wordsS all j NN.2 := ⟨_, rfl⟩
      rw [← hL] at o R eS2 hlen
      obtain ⟨a5, q5, rfl⟩ := o.is
      simp only [wk6, Nat.reduceBEq, wk1, forall_eq, Nat.reduceAdd, reduceIte, Nat.reduceEqDiff, reduceCtorEq, opLen, Int.reduceLT, Int.reduceEq, opConvert, opIndexAddr, opLoad, Nat.reduceLT, undef, Nat.reduceLeDiff, Array.toList, bldEk, bld44z, one_intM, wk4, wk5, wk0, fxC17h, e0', e2, e3, e19, e20, gb]
      obtain ⟨μ0, zf, fr, nf, kf⟩ := o.frz
      refine Ret.thaw zf ?_
      have gb0 := (kf b3 (by omega)).trans gb
      have gz0 := (kf m.next (by omega)).trans gz
      have R0' : Rri μ0 i r all L.2 := R.keep (by omega) (kf i (by omega)) (kf r (by omega))
      have F0 : Fr1 i m μ0 := ⟨by have := F.1; omega, fun k hk hne => (kf k (by omega)).trans (F.2 k hk hne)⟩
      have hb0 : b3 < μ0.next := by omega
      rw [← hlen] at fr
      refine echeck_ret (E := ⟨2, 0, 0, 0, [], L.1⟩) (show (0 : Int) ≤ 2 by decide) ⟨_, _, by rw [hlen], FRow.nil, fr⟩ (by show L.1.length < _; omega) fun μ1 x1 => ?_
      have R1' := R0'.ext x1
      have gb1 := (x1.2 b3 hb0).trans gb0
      have gz1' := (x1.2 m.next (by omega)).trans gz0
      have F1' : Fr1 i m μ1 := ⟨by have := F0.1; have := x1.1; omega, fun k hk hne => by rw [x1.2 k (by omega), F0.2 k hk hne]⟩
      have fr1 := fr.pz x1.pz
      rw [hlen] at fr1
      have lx := x1.1
      simp only [wk6, Nat.reduceBEq, wk1, forall_eq, Nat.reduceAdd, reduceIte, Nat.reduceEqDiff, reduceCtorEq, opLen, Int.reduceLT, Int.reduceEq, opConvert, opIndexAddr, opLoad, Nat.reduceLT, undef, Nat.reduceLeDiff, Array.toList, bldEk, bld44z, one_intM, wk4, wk5, wk0, fxC17h, e0', e2, e3]
      refine err_ret R1' ?_
      obtain ⟨ee, hee⟩ : ∃ ee, ee = echk ⟨2, 0, 0, 0, [], L.1⟩ := ⟨_, rfl⟩
      have eE : entE L.1 L.2 = if (if L.2.2 = 0 ∧ ee ≠ 0 then failS ee L.2 else L.2).2 ≠ 0 then (zE, if L.2.2 = 0 ∧ ee ≠ 0 then failS ee L.2 else L.2) else (⟨2, 0, 0, 0, [], L.1⟩, if L.2.2 = 0 ∧ ee ≠ 0 then failS ee L.2 else L.2) := by rw [hee]; rfl
      rw [eS2, eE] at hK
      rw [← hee]
      have put : ∀ (M : Mem) (t : Nat × Int) (E : Ent) (a : Option Addr) (z q : Nat), Rri M i r all t → Fr1 i m M → μ1.next ≤ M.next → True := fun _ _ _ _ _ _ _ _ _ => trivial
      by_cases hs : L.2.2 = 0
      · by_cases he : ee = 0
        · rw [show (if L.2.2 = 0 ∧ ee ≠ 0 then failS ee L.2 else L.2) = L.2 from if_neg (fun h => h.2 he), if_neg (by exact fun h => h hs)] at hK
          simp only [wk6, Nat.reduceBEq, wk1, forall_eq, Nat.reduceAdd, reduceIte, Nat.reduceEqDiff, reduceCtorEq, opLen, Int.reduceLT, Int.reduceEq, opConvert, opIndexAddr, opLoad, Nat.reduceLT, undef, Nat.reduceLeDiff, Array.toList, bldEk, bld44z, one_intM, wk4, wk5, wk0, fxC17h, hs, he, e0', e2, e3]
          refine err_ret R1' ?_
          simp only [wk6, Nat.reduceBEq, wk1, forall_eq, Nat.reduceAdd, reduceIte, Nat.reduceEqDiff, reduceCtorEq, opLen, Int.reduceLT, Int.reduceEq, opConvert, opIndexAddr, opLoad, Nat.reduceLT, undef, Nat.reduceLeDiff, Array.toList, bldEk, bld44z, one_intM, wk4, wk5, wk0, fxC17h, hs, e0', e2, e3, gb1, gz1']
          obtain ⟨w1, w2⟩ := fin μ1 _ R1' F1' (by omega) (.cells [.int .u8 2, .int .u16 0, .int .u16 0, .int .i64 0, .slice none 0 0, .slice a5 j q5] 44 true)
          refine hK _ _ w1 w2 ⟨_, _, rfl, FRow.nil, ?_⟩
          show FRow _ _ 1 L.1.length (ints L.1)
          rw [hlen]
          exact fr1.pz (Pz.set gz1' _)
        · have hf : (failS ee L.2).2 ≠ 0 := by rw [fail_ok hs]; exact he
          rw [show (if L.2.2 = 0 ∧ ee ≠ 0 then failS ee L.2 else L.2) = failS ee L.2 from if_pos ⟨hs, he⟩, if_pos hf] at hK
          simp only [wk6, Nat.reduceBEq, wk1, forall_eq, Nat.reduceAdd, reduceIte, Nat.reduceEqDiff, reduceCtorEq, opLen, Int.reduceLT, Int.reduceEq, opConvert, opIndexAddr, opLoad, Nat.reduceLT, undef, Nat.reduceLeDiff, Array.toList, bldEk, bld44z, one_intM, wk4, wk5, wk0, fxC17h, hs, he, e0', e2, e3]
          refine fail_ret R1' fun μ2 R2' f2' => ?_
          have l2' := f2'.1
          have gz2' := (f2'.2 m.next (by omega) (by omega)).trans gz1'
          simp only [wk6, Nat.reduceBEq, wk1, forall_eq, Nat.reduceAdd, reduceIte, Nat.reduceEqDiff, reduceCtorEq, opLen, Int.reduceLT, Int.reduceEq, opConvert, opIndexAddr, opLoad, Nat.reduceLT, undef, Nat.reduceLeDiff, Array.toList, bldEk, bld44z, one_intM, wk4, wk5, wk0, fxC17h, e0', e2, e3]
          refine err_ret R2' ?_
          simp only [wk6, Nat.reduceBEq, wk1, forall_eq, Nat.reduceAdd, reduceIte, Nat.reduceEqDiff, reduceCtorEq, opLen, Int.reduceLT, Int.reduceEq, opConvert, opIndexAddr, opLoad, Nat.reduceLT, undef, Nat.reduceLeDiff, Array.toList, bldEk, bld44z, one_intM, wk4, wk5, wk0, fxC17h, hf, e0', e2, e3, gz2']
          obtain ⟨w1, w2⟩ := fin μ2 _ R2' (F1'.trans f2') (by omega) (.cells [.int .u8 0, .int .u16 0, .int .u16 0, .int .i64 0, .slice none 0 0, .slice none 0 0] 44 true)
          exact hK _ _ w1 w2 ⟨_, _, rfl, FRow.nil, FRow.nil⟩
      · rw [show (if L.2.2 = 0 ∧ ee ≠ 0 then failS ee L.2 else L.2) = L.2 from if_neg (fun h => hs h.1), if_pos hs] at hK
        simp only [wk6, Nat.reduceBEq, wk1, forall_eq, Nat.reduceAdd, reduceIte, Nat.reduceEqDiff, reduceCtorEq, opLen, Int.reduceLT, Int.reduceEq, opConvert, opIndexAddr, opLoad, Nat.reduceLT, undef, Nat.reduceLeDiff, Array.toList, bldEk, bld44z, one_intM, wk4, wk5, wk0, fxC17h, hs, e0', e2, e3]
        refine err_ret R1' ?_
        simp only [wk6, Nat.reduceBEq, wk1, forall_eq, Nat.reduceAdd, reduceIte, Nat.reduceEqDiff, reduceCtorEq, opLen, Int.reduceLT, Int.reduceEq, opConvert, opIndexAddr, opLoad, Nat.reduceLT, undef, Nat.reduceLeDiff, Array.toList, bldEk, bld44z, one_intM, wk4, wk5, wk0, fxC17h, hs, e0', e2, e3, gz1']
        obtain ⟨w1, w2⟩ := fin μ1 _ R1' F1' (by omega) (.cells [.int .u8 0, .int .u16 0, .int .u16 0, .int .i64 0, .slice none 0 0, .slice none 0 0] 44 true)
        exact hK _ _ w1 w2 ⟨_, _, rfl, FRow.nil, FRow.nil⟩
end Go.Proofs.Ytejgoooanapjbaa
