/- A text of the abstract machine. -/






/- Letters: put. -/
/- Letters out of small numbers. -/
import Derived.Test.YtejgoooanapjbaaAmC17l
import Derived.Test.YtejgoooanapjbaaAmC17m
import Derived.Test.YtejgoooanapjbaaAmArgs7
import Derived.Test.YtejgoooanapjbaaAmBun
set_option linter.unusedSimpArgs false
set_option linter.unusedVariables false
set_option maxRecDepth 100000
set_option maxHeartbeats 4000000
namespace Go.Proofs.Ytejgoooanapjbaa
open Go Go.AM Go.AM.Crc Go.AM.Wire
theorem fxC17s : type_of% (And.intro (And.intro (And.intro (And.intro (And.intro (And.intro (And.intro (And.intro @Try.underlying3 @Try.underlying4) (And.intro @Try.underlying5 @Try.underlying9)) (And.intro (And.intro @Try.underlying42 @Try.underlying46) (And.intro @Try.underlying47 @Try.underlying123))) (And.intro (And.intro (And.intro @Try.underlying23 @Try.underlying26) (And.intro @Try.underlying28 @Try.underlying39)) (And.intro (And.intro @Try.underlying41 @Try.underlying44) (And.intro @Try.underlying24 (And.intro @Try.underlying37 @Try.underlying22))))) (And.intro (And.intro (And.intro (And.intro @Try.underlying0 @Try.underlying100) (And.intro @Try.underlying66 @Try.underlying68)) (And.intro (And.intro @Try.underlying78 @Try.underlying103) (And.intro @Try.underlying49 @Try.underlying34))) (And.intro (And.intro (And.intro @Try.underlying36 @Try.underlying51) (And.intro @Try.underlying53 @Try.underlying55)) (And.intro (And.intro @Try.underlying88 @Try.underlying32) (And.intro @Try.underlying30 (And.intro @Try.underlying61 @Try.underlying63)))))) (And.intro (And.intro (And.intro (And.intro (And.intro @Try.underlying90 @Try.underlying92) (And.intro @Try.underlying94 @ts3)) (And.intro (And.intro @ts4 @ts5) (And.intro @ts9 @ts42))) (And.intro (And.intro (And.intro @ts46 @ts47) (And.intro @ts123 @ts23)) (And.intro (And.intro @ts26 @ts28) (And.intro @ts39 (And.intro @ts41 @ts44))))) (And.intro (And.intro (And.intro (And.intro @ts24 @ts37) (And.intro @ts22 @ts0)) (And.intro (And.intro @ts100 @ts66) (And.intro @ts68 @ts78))) (And.intro (And.intro (And.intro @ts103 @ts49) (And.intro @ts34 @ts36)) (And.intro (And.intro @ts51 @ts53) (And.intro @ts55 (And.intro @ts88 @ts32))))))) (And.intro (And.intro (And.intro (And.intro (And.intro (And.intro @ts30 @ts61) (And.intro @ts63 @ts90)) (And.intro (And.intro @ts92 @ts94) (And.intro @tz3 @tz4))) (And.intro (And.intro (And.intro @tz5 @tz9) (And.intro @tz42 @tz46)) (And.intro (And.intro @tz47 @tz123) (And.intro @tz23 (And.intro @tz26 @tz28))))) (And.intro (And.intro (And.intro (And.intro @tz39 @tz41) (And.intro @tz44 @tz24)) (And.intro (And.intro @tz37 @tz22) (And.intro @tz0 @tz100))) (And.intro (And.intro (And.intro @tz66 @tz68) (And.intro @tz78 @tz103)) (And.intro (And.intro @tz49 @tz34) (And.intro @tz36 (And.intro @tz51 @tz53)))))) (And.intro (And.intro (And.intro (And.intro (And.intro @tz55 @tz88) (And.intro @tz32 @tz30)) (And.intro (And.intro @tz61 @tz63) (And.intro @tz90 @tz92))) (And.intro (And.intro (And.intro @tz94 @tb3) (And.intro @tb4 @tb5)) (And.intro (And.intro @tb9 @tb42) (And.intro @tb46 (And.intro @tb47 @tb123))))) (And.intro (And.intro (And.intro (And.intro @tb23 @tb26) (And.intro @tb28 @tb39)) (And.intro (And.intro @tb41 @tb44) (And.intro @tb24 @tb37))) (And.intro (And.intro (And.intro @tb22 @tb0) (And.intro @tb100 @tb66)) (And.intro (And.intro @tb68 @tb78) (And.intro @tb103 (And.intro @tb49 @tb34)))))))) (And.intro (And.intro (And.intro (And.intro (And.intro (And.intro (And.intro @tb36 @tb51) (And.intro @tb53 @tb55)) (And.intro (And.intro @tb88 @tb32) (And.intro @tb30 @tb61))) (And.intro (And.intro (And.intro @tb63 @tb90) (And.intro @tb92 @tb94)) (And.intro (And.intro @fr8 @fr9) (And.intro @fr10 (And.intro @fr11 @fr13))))) (And.intro (And.intro (And.intro (And.intro @fr15 @fr16) (And.intro @fr18 @fr19)) (And.intro (And.intro @fr20 @fr21) (And.intro @fr22 @fr23))) (And.intro (And.intro (And.intro @fr24 @fr25) (And.intro @fr26 @fr27)) (And.intro (And.intro @fr28 @fr38) (And.intro @fr39 (And.intro @fr40 @fr41)))))) (And.intro (And.intro (And.intro (And.intro (And.intro @fr42 @fr51) (And.intro @fr52 @fr53)) (And.intro (And.intro @fr54 @bz46) (And.intro @al46 @fa46_0))) (And.intro (And.intro (And.intro @fa46_1 @bz28) (And.intro @bz26 @bz41)) (And.intro (And.intro @bz44 @al41) (And.intro @al44 (And.intro @fa44_0 @fa44_1))))) (And.intro (And.intro (And.intro (And.intro @fa44_2 @fa41_0) (And.intro @fa41_1 @fa41_2)) (And.intro (And.intro @fa28_0 @fa28_1) (And.intro @fa28_2 @fa26_0))) (And.intro (And.intro (And.intro @fa26_1 @fa26_2) (And.intro @fa26_3 @bz103)) (And.intro (And.intro @al68 @al103) (And.intro @fa68_0 (And.intro @fa103_0 @fa103_1))))))) (And.intro (And.intro (And.intro (And.intro (And.intro (And.intro @fa103_2 @bin_weq) (And.intro @bin_wneq @bin_req)) (And.intro (And.intro @bin_rneq @bz39) (And.intro @fa39_0 @fa39_1))) (And.intro (And.intro (And.intro @bz68 @bz49) (And.intro @al49 @fa49_0)) (And.intro (And.intro @fa49_1 @fa49_2) (And.intro @bz51 (And.intro @al51 @fa51_0))))) (And.intro (And.intro (And.intro (And.intro @fa51_1 @fa51_2) (And.intro @fa51_3 @fa51_4)) (And.intro (And.intro @fa51_5 @fa51_6) (And.intro @fa51_7 @fa51_8))) (And.intro (And.intro (And.intro @fa51_9 @fa51_10) (And.intro @fa51_11 @bz36)) (And.intro (And.intro @al36 @fa36_0) (And.intro @fa36_1 (And.intro @oneOf_two @al24)))))) (And.intro (And.intro (And.intro (And.intro (And.intro @al90 @bz32) (And.intro @fa32_0 @fa32_1)) (And.intro (And.intro @fa32_2 @fa32_3) (And.intro @fa32_4 @fa32_5))) (And.intro (And.intro (And.intro @fa32_6 @fa32_7) (And.intro @fa32_8 @fa32_9)) (And.intro (And.intro @fa32_10 @fa32_11) (And.intro @fa32_12 (And.intro @fa32_13 @fa32_14))))) (And.intro (And.intro (And.intro (And.intro @fa32_15 @al32) (And.intro @al28 @al26)) (And.intro (And.intro @fa30_0 @fa30_1) (And.intro @fa30_2 (And.intro @al30 @bldI)))) (And.intro (And.intro (And.intro @set_set @bldL3) (And.intro @bldB @vqB)) (And.intro (And.intro @vqE @vqA) (And.intro @vqC (And.intro @vqI @vqW))))))))) := (And.intro (And.intro (And.intro (And.intro (And.intro (And.intro (And.intro (And.intro @Try.underlying3 @Try.underlying4) (And.intro @Try.underlying5 @Try.underlying9)) (And.intro (And.intro @Try.underlying42 @Try.underlying46) (And.intro @Try.underlying47 @Try.underlying123))) (And.intro (And.intro (And.intro @Try.underlying23 @Try.underlying26) (And.intro @Try.underlying28 @Try.underlying39)) (And.intro (And.intro @Try.underlying41 @Try.underlying44) (And.intro @Try.underlying24 (And.intro @Try.underlying37 @Try.underlying22))))) (And.intro (And.intro (And.intro (And.intro @Try.underlying0 @Try.underlying100) (And.intro @Try.underlying66 @Try.underlying68)) (And.intro (And.intro @Try.underlying78 @Try.underlying103) (And.intro @Try.underlying49 @Try.underlying34))) (And.intro (And.intro (And.intro @Try.underlying36 @Try.underlying51) (And.intro @Try.underlying53 @Try.underlying55)) (And.intro (And.intro @Try.underlying88 @Try.underlying32) (And.intro @Try.underlying30 (And.intro @Try.underlying61 @Try.underlying63)))))) (And.intro (And.intro (And.intro (And.intro (And.intro @Try.underlying90 @Try.underlying92) (And.intro @Try.underlying94 @ts3)) (And.intro (And.intro @ts4 @ts5) (And.intro @ts9 @ts42))) (And.intro (And.intro (And.intro @ts46 @ts47) (And.intro @ts123 @ts23)) (And.intro (And.intro @ts26 @ts28) (And.intro @ts39 (And.intro @ts41 @ts44))))) (And.intro (And.intro (And.intro (And.intro @ts24 @ts37) (And.intro @ts22 @ts0)) (And.intro (And.intro @ts100 @ts66) (And.intro @ts68 @ts78))) (And.intro (And.intro (And.intro @ts103 @ts49) (And.intro @ts34 @ts36)) (And.intro (And.intro @ts51 @ts53) (And.intro @ts55 (And.intro @ts88 @ts32))))))) (And.intro (And.intro (And.intro (And.intro (And.intro (And.intro @ts30 @ts61) (And.intro @ts63 @ts90)) (And.intro (And.intro @ts92 @ts94) (And.intro @tz3 @tz4))) (And.intro (And.intro (And.intro @tz5 @tz9) (And.intro @tz42 @tz46)) (And.intro (And.intro @tz47 @tz123) (And.intro @tz23 (And.intro @tz26 @tz28))))) (And.intro (And.intro (And.intro (And.intro @tz39 @tz41) (And.intro @tz44 @tz24)) (And.intro (And.intro @tz37 @tz22) (And.intro @tz0 @tz100))) (And.intro (And.intro (And.intro @tz66 @tz68) (And.intro @tz78 @tz103)) (And.intro (And.intro @tz49 @tz34) (And.intro @tz36 (And.intro @tz51 @tz53)))))) (And.intro (And.intro (And.intro (And.intro (And.intro @tz55 @tz88) (And.intro @tz32 @tz30)) (And.intro (And.intro @tz61 @tz63) (And.intro @tz90 @tz92))) (And.intro (And.intro (And.intro @tz94 @tb3) (And.intro @tb4 @tb5)) (And.intro (And.intro @tb9 @tb42) (And.intro @tb46 (And.intro @tb47 @tb123))))) (And.intro (And.intro (And.intro (And.intro @tb23 @tb26) (And.intro @tb28 @tb39)) (And.intro (And.intro @tb41 @tb44) (And.intro @tb24 @tb37))) (And.intro (And.intro (And.intro @tb22 @tb0) (And.intro @tb100 @tb66)) (And.intro (And.intro @tb68 @tb78) (And.intro @tb103 (And.intro @tb49 @tb34)))))))) (And.intro (And.intro (And.intro (And.intro (And.intro (And.intro (And.intro @tb36 @tb51) (And.intro @tb53 @tb55)) (And.intro (And.intro @tb88 @tb32) (And.intro @tb30 @tb61))) (And.intro (And.intro (And.intro @tb63 @tb90) (And.intro @tb92 @tb94)) (And.intro (And.intro @fr8 @fr9) (And.intro @fr10 (And.intro @fr11 @fr13))))) (And.intro (And.intro (And.intro (And.intro @fr15 @fr16) (And.intro @fr18 @fr19)) (And.intro (And.intro @fr20 @fr21) (And.intro @fr22 @fr23))) (And.intro (And.intro (And.intro @fr24 @fr25) (And.intro @fr26 @fr27)) (And.intro (And.intro @fr28 @fr38) (And.intro @fr39 (And.intro @fr40 @fr41)))))) (And.intro (And.intro (And.intro (And.intro (And.intro @fr42 @fr51) (And.intro @fr52 @fr53)) (And.intro (And.intro @fr54 @bz46) (And.intro @al46 @fa46_0))) (And.intro (And.intro (And.intro @fa46_1 @bz28) (And.intro @bz26 @bz41)) (And.intro (And.intro @bz44 @al41) (And.intro @al44 (And.intro @fa44_0 @fa44_1))))) (And.intro (And.intro (And.intro (And.intro @fa44_2 @fa41_0) (And.intro @fa41_1 @fa41_2)) (And.intro (And.intro @fa28_0 @fa28_1) (And.intro @fa28_2 @fa26_0))) (And.intro (And.intro (And.intro @fa26_1 @fa26_2) (And.intro @fa26_3 @bz103)) (And.intro (And.intro @al68 @al103) (And.intro @fa68_0 (And.intro @fa103_0 @fa103_1))))))) (And.intro (And.intro (And.intro (And.intro (And.intro (And.intro @fa103_2 @bin_weq) (And.intro @bin_wneq @bin_req)) (And.intro (And.intro @bin_rneq @bz39) (And.intro @fa39_0 @fa39_1))) (And.intro (And.intro (And.intro @bz68 @bz49) (And.intro @al49 @fa49_0)) (And.intro (And.intro @fa49_1 @fa49_2) (And.intro @bz51 (And.intro @al51 @fa51_0))))) (And.intro (And.intro (And.intro (And.intro @fa51_1 @fa51_2) (And.intro @fa51_3 @fa51_4)) (And.intro (And.intro @fa51_5 @fa51_6) (And.intro @fa51_7 @fa51_8))) (And.intro (And.intro (And.intro @fa51_9 @fa51_10) (And.intro @fa51_11 @bz36)) (And.intro (And.intro @al36 @fa36_0) (And.intro @fa36_1 (And.intro @oneOf_two @al24)))))) (And.intro (And.intro (And.intro (And.intro (And.intro @al90 @bz32) (And.intro @fa32_0 @fa32_1)) (And.intro (And.intro @fa32_2 @fa32_3) (And.intro @fa32_4 @fa32_5))) (And.intro (And.intro (And.intro @fa32_6 @fa32_7) (And.intro @fa32_8 @fa32_9)) (And.intro (And.intro @fa32_10 @fa32_11) (And.intro @fa32_12 (And.intro @fa32_13 @fa32_14))))) (And.intro (And.intro (And.intro (And.intro @fa32_15 @al32) (And.intro @al28 @al26)) (And.intro (And.intro @fa30_0 @fa30_1) (And.intro @fa30_2 (And.intro @al30 @bldI)))) (And.intro (And.intro (And.intro @set_set @bldL3) (And.intro @bldB @vqB)) (And.intro (And.intro @vqE @vqA) (And.intro @vqC (And.intro @vqI @vqW)))))))))
/-- A letter by small numbers. -/
structure SmL where
  kd : Int
  fr : Int
  to : Int
  pl : Int
  br : Int
  wr : Int
  bn : Int
  wn : Int
  sm : Bool
  E : Sm
  C : Cal
  vn : Int
  mm : Int
  it : Int
  nn : Int
  A : Ans
structure SmOk (S : SmL) : Prop where
  kd : 0 ≤ S.kd ∧ S.kd < 256
  fr : 0 ≤ S.fr ∧ S.fr < 256
  to : 0 ≤ S.to ∧ S.to < 256
  pl : 0 ≤ S.pl ∧ S.pl < 4294967296
  br : 0 ≤ S.br ∧ S.br < 4294967296
  wr : 0 ≤ S.wr ∧ S.wr < 4294967296
  bn : 0 ≤ S.bn ∧ S.bn < 256
  wn : 0 ≤ S.wn ∧ S.wn < 256
  ek : 0 ≤ S.E.k ∧ S.E.k < 256
  et : 0 ≤ S.E.t ∧ S.E.t < 65536
  en : 0 ≤ S.E.n ∧ S.E.n < 65536
  ep : 0 ≤ S.E.p ∧ S.E.p < 65536
  eb : Bytes S.E.args
  ct : 0 ≤ S.C.t ∧ S.C.t < 65536
  cn : 0 ≤ S.C.n ∧ S.C.n < 65536
  cp : 0 ≤ S.C.p ∧ S.C.p < 65536
  cb : Bytes S.C.s
  vn : 0 ≤ S.vn ∧ S.vn < 4294967296
  mm : 0 ≤ S.mm ∧ S.mm < 65536
  it : 0 ≤ S.it ∧ S.it < 65536
  nn : 0 ≤ S.nn ∧ S.nn < 65536
  ae : 0 ≤ S.A.e ∧ S.A.e < 65536
  aq : 0 ≤ S.A.q ∧ S.A.q < 65536
  ab : Bytes S.A.s
abbrev smC (S : SmL) (ea ca aa : Value) : List Value := [.int .u8 S.kd, .int .u8 S.fr, .int .u8 S.to, .int .u32 S.pl, .int .u32 S.br, .int .u32 S.wr, .int .u8 S.bn, .int .u8 S.wn, .bool S.sm, .int .u8 S.E.k, .int .u16 S.E.t, .int .u16 S.E.n, .int .u16 S.E.p, ea, .int .u16 S.E.mm, .int .u16 S.C.t, .int .u16 S.C.n, .int .u16 S.C.p, ca, .int .u32 S.vn, .int .u16 S.mm, .int .u16 S.it, .int .u16 S.nn, .int .u16 S.A.e, .int .u16 S.A.q, aa]
structure SmR (m : Mem) (S : SmL) (ea ca aa : Value) : Prop where
  ea : FRow m ea 1 S.E.args.length (byteCells S.E.args)
  ca : FRow m ca 1 S.C.s.length (byteCells S.C.s)
  aa : FRow m aa 1 S.A.s.length (byteCells S.A.s)
theorem SmR.pz {m m' : Mem} {S : SmL} {ea ca aa : Value} (h : SmR m S ea ca aa) (z : Pz m m') : SmR m' S ea ca aa := ⟨h.ea.pz z, h.ca.pz z, h.aa.pz z⟩
def SmLF (m : Mem) (v : Value) (S : SmL) : Prop := ∃ ea ca aa, v = .agg (smC S ea ca aa).toArray ∧ SmR m S ea ca aa
theorem SmLF.pz {m m' : Mem} {v : Value} {S : SmL} (h : SmLF m v S) (z : Pz m m') : SmLF m' v S := by
  obtain ⟨a, b, c, h1, h2⟩ := h
  exact ⟨a, b, c, h1, h2.pz z⟩
def SmL.all (S : SmL) : Let := ⟨S.kd.tmod 8, S.fr.tmod 16, S.to.tmod 16, S.pl, S.br, S.bn.tmod 16, S.wr, S.wn.tmod 16, S.sm, S.E.ent, S.vn, memL S.mm, S.C, S.it, S.nn, S.A⟩
def SmL.light (S : SmL) : Prop := S.E.args.length ≤ 100 ∧ S.C.s.length ≤ 100 ∧ S.A.s.length ≤ 100
instance (S : SmL) : Decidable S.light := inferInstanceAs (Decidable (_ ∧ _ ∧ _))
theorem light_ret {m : Mem} {v : Value} {S : SmL} (h : SmLF m v S) {K : Value → Mem → Prop} (hK : ∀ m', Ext m m' → K (.bool (decide S.light)) m') : Ret Try.prog 8 [v] m K := by
  obtain ⟨ea, ca, aa, rfl, h⟩ := h
  obtain ⟨a1, z1, rfl⟩ := h.ea.is
  obtain ⟨a2, z2, rfl⟩ := h.ca.is
  obtain ⟨a3, z3, rfl⟩ := h.aa.is
  refine ret_wp [] Try.func8 rfl (by decide) (by kernel_rfl) ?_
  have l1 : opLen Try.prog (some 24) (.slice a1 S.E.args.length z1) = some (.int .i64 S.E.args.length) := h.ea.len Try.underlying24
  have l2 : opLen Try.prog (some 24) (.slice a2 S.C.s.length z2) = some (.int .i64 S.C.s.length) := h.ca.len Try.underlying24
  have l3 : opLen Try.prog (some 24) (.slice a3 S.A.s.length z3) = some (.int .i64 S.A.s.length) := h.aa.len Try.underlying24
  by_cases h1 : S.E.args.length ≤ 100
  · have d1 : ((S.E.args.length : Int) ≤ 100) := by omega
    by_cases h2 : S.C.s.length ≤ 100
    · have d2 : ((S.C.s.length : Int) ≤ 100) := by omega
      have e : decide S.light = decide ((S.A.s.length : Int) ≤ 100) := by
        refine decide_eq_decide.2 ⟨fun h => by have := h.2.2; omega, fun h => ⟨h1, h2, by omega⟩⟩
      rw [e] at hK
      simp only [Nat.reduceAdd, reduceIte, Nat.reduceEqDiff, reduceCtorEq, Int.reduceLT, Int.reduceEq, opConvert, opIndexAddr, opLoad, Nat.reduceLT, undef, Nat.reduceLeDiff, Array.toList, wk4, wk5, wk0, fxC17s, l1, l2, l3, d1, d2]
      exact hK _ (Ext.new _ _)
    · have d2 : ¬ ((S.C.s.length : Int) ≤ 100) := by omega
      have e : decide S.light = false := decide_eq_false fun h => h2 h.2.1
      rw [e] at hK
      simp only [Nat.reduceAdd, reduceIte, Nat.reduceEqDiff, reduceCtorEq, Int.reduceLT, Int.reduceEq, opConvert, opIndexAddr, opLoad, Nat.reduceLT, undef, Nat.reduceLeDiff, Array.toList, wk4, wk5, wk0, fxC17s, l1, l2, d1, d2]
      exact hK _ (Ext.new _ _)
  · have d1 : ¬ ((S.E.args.length : Int) ≤ 100) := by omega
    have e : decide S.light = false := decide_eq_false fun h => h1 h.1
    rw [e] at hK
    simp only [Nat.reduceAdd, reduceIte, Nat.reduceEqDiff, reduceCtorEq, Int.reduceLT, Int.reduceEq, opConvert, opIndexAddr, opLoad, Nat.reduceLT, undef, Nat.reduceLeDiff, Array.toList, wk4, wk5, wk0, fxC17s, l1, d1]
    exact hK _ (Ext.new _ _)
theorem reply_ret {m : Mem} {e q : Int} {a : Option Addr} {l z : Nat} (he : 0 ≤ e ∧ e < 65536) (hq : 0 ≤ q ∧ q < 65536) {K : Value → Mem → Prop} (hK : ∀ m', Ext m m' → K (.agg #[.int .i64 e, .int .i64 q, .slice a l z]) m') : Ret Try.prog 28 [.agg #[.int .u16 e, .int .u16 q, .slice a l z]] m K := by
  refine ret_wp [] Try.func28 rfl (by decide) (by kernel_rfl) ?_
  have e1 : IntKind.i64.wrap e = e := wrap_i64 (by omega) (by omega)
  have e2 : IntKind.i64.wrap q = q := wrap_i64 (by omega) (by omega)
  have b3 : opBuild Try.prog 49 [(0, .int .i64 e), (1, .int .i64 q), (2, .slice a l z)] = some (.agg #[.int .i64 e, .int .i64 q, .slice a l z]) := by kernel_rfl
  simp only [Nat.reduceAdd, reduceIte, Nat.reduceEqDiff, reduceCtorEq, opLen, Int.reduceLT, Int.reduceEq, opConvert, opIndexAddr, opLoad, Nat.reduceLT, undef, Nat.reduceLeDiff, Array.toList, wk4, wk5, wk0, fxC17s, e1, e2, b3]
  exact hK _ (((Ext.new _ _).trans (Ext.new _ _)).set (by first | omega | (simp only [new_next]; omega)))
theorem bldV (n : Int) (a : Option Addr) (l z : Nat) : opBuild Try.prog 46 [(0, .int .i64 n), (1, .slice a l z)] = some (.agg #[.int .i64 n, .slice a l z]) := by kernel_rfl
theorem bld51 (kd fr to pl br bn wr wn : Int) (sm : Bool) (ek et en ep : Int) (a1 : Option Addr) (l1 z1 : Nat) (a2 : Option Addr) (l2 z2 : Nat) (vn : Int) (a3 : Option Addr) (l3 z3 : Nat) (ct cn cp : Int) (a4 : Option Addr) (l4 z4 : Nat) (it nn ae aq : Int) (a5 : Option Addr) (l5 z5 : Nat) :
    opBuild Try.prog 51 [(0, .int .u8 kd), (1, .int .i64 fr), (2, .int .i64 to), (3, .int .i64 pl), (4, .agg #[.int .i64 br, .int .i64 bn]), (5, .agg #[.int .i64 wr, .int .i64 wn]), (6, .bool sm), (7, .agg #[.int .u8 ek, .int .u16 et, .int .u16 en, .int .i64 ep, .slice a1 l1 z1, .slice a2 l2 z2]), (8, .agg #[.int .i64 vn, .slice a3 l3 z3]), (9, .agg #[.int .u16 ct, .int .u16 cn, .int .i64 cp, .slice a4 l4 z4]), (10, .agg #[.int .u16 it, .int .u16 nn]), (11, .agg #[.int .i64 ae, .int .i64 aq, .slice a5 l5 z5])]
     = some (.agg #[.int .u8 kd, .int .i64 fr, .int .i64 to, .int .i64 pl, .int .i64 br, .int .i64 bn, .int .i64 wr, .int .i64 wn, .bool sm, .int .u8 ek, .int .u16 et, .int .u16 en, .int .i64 ep, .slice a1 l1 z1, .slice a2 l2 z2, .int .i64 vn, .slice a3 l3 z3, .int .u16 ct, .int .u16 cn, .int .i64 cp, .slice a4 l4 z4, .int .u16 it, .int .u16 nn, .int .i64 ae, .int .i64 aq, .slice a5 l5 z5]) := by kernel_rfl
theorem tm_lt {x n : Int} (h : 0 ≤ x) (hn : 0 < n) : 0 ≤ x.tmod n ∧ x.tmod n < n := by
  rw [Int.tmod_eq_emod_of_nonneg h]
  exact ⟨Int.emod_nonneg _ (by omega), Int.emod_lt_of_pos _ hn⟩
theorem all_ret {m : Mem} {v : Value} {S : SmL} (h : SmLF m v S) (ok : SmOk S) {K : Value → Mem → Prop} (hK : ∀ m' v', Ext m m' → LetF m' v' S.all → K v' m') : Ret Try.prog 11 [v] m K := by
  obtain ⟨ea, ca, aa, rfl, h⟩ := h
  obtain ⟨a1, z1, rfl⟩ := h.ea.is
  obtain ⟨a2, z2, rfl⟩ := h.ca.is
  obtain ⟨a3, z3, rfl⟩ := h.aa.is
  refine ret_wp [(1, [1, 4, 8, 12, 15, 18, 23, 26, 31, 36, 39, 43, 46, 48, 51])] Try.func11 rfl (by decide) (by kernel_rfl) ?_
  have q1 : IntKind.i64.wrap (S.fr.tmod 16) = S.fr.tmod 16 := wrap_i64 (by have := tm_lt ok.fr.1 (show (0 : Int) < 16 by decide); omega) (by have := tm_lt ok.fr.1 (show (0 : Int) < 16 by decide); omega)
  have q2 : IntKind.i64.wrap (S.to.tmod 16) = S.to.tmod 16 := wrap_i64 (by have := tm_lt ok.to.1 (show (0 : Int) < 16 by decide); omega) (by have := tm_lt ok.to.1 (show (0 : Int) < 16 by decide); omega)
  have q3 : IntKind.i64.wrap (S.bn.tmod 16) = S.bn.tmod 16 := wrap_i64 (by have := tm_lt ok.bn.1 (show (0 : Int) < 16 by decide); omega) (by have := tm_lt ok.bn.1 (show (0 : Int) < 16 by decide); omega)
  have q4 : IntKind.i64.wrap (S.wn.tmod 16) = S.wn.tmod 16 := wrap_i64 (by have := tm_lt ok.wn.1 (show (0 : Int) < 16 by decide); omega) (by have := tm_lt ok.wn.1 (show (0 : Int) < 16 by decide); omega)
  have q5 : IntKind.i64.wrap S.pl = S.pl := wrap_i64 (by have := ok.pl; omega) (by have := ok.pl; omega)
  have q6 : IntKind.i64.wrap S.br = S.br := wrap_i64 (by have := ok.br; omega) (by have := ok.br; omega)
  have q7 : IntKind.i64.wrap S.wr = S.wr := wrap_i64 (by have := ok.wr; omega) (by have := ok.wr; omega)
  have q8 : IntKind.i64.wrap S.vn = S.vn := wrap_i64 (by have := ok.vn; omega) (by have := ok.vn; omega)
  have w1 : IntKind.i64.wrap S.C.p = S.C.p := wrap_i64 (by have := ok.cp; omega) (by have := ok.cp; omega)
  simp only [wk6, Nat.reduceBEq, wk1, forall_eq, Nat.reduceAdd, reduceIte, Nat.reduceEqDiff, reduceCtorEq, opLen, Int.reduceLT, Int.reduceEq, opConvert, opIndexAddr, opLoad, Nat.reduceLT, undef, Nat.reduceLeDiff, Array.toList, wk4, wk5, wk0, fxC17s]
  refine Loose.by (fun y => y = m.next) ?_
  obtain ⟨Z, hZ⟩ : ∃ Z, Z = smC S (.slice a1 S.E.args.length z1) (.slice a2 S.C.s.length z2) (.slice a3 S.A.s.length z3) := ⟨_, rfl⟩
  simp only [wk6, Nat.reduceBEq, wk1, forall_eq, Nat.reduceAdd, reduceIte, Nat.reduceEqDiff, reduceCtorEq, opLen, Int.reduceLT, Int.reduceEq, opConvert, opIndexAddr, opLoad, Nat.reduceLT, undef, Nat.reduceLeDiff, Array.toList, wk4, wk5, wk0, fxC17s, q1, q2, q3, q4, q5, q6, q7, q8, bldB]
  obtain ⟨m0, hm0⟩ : ∃ m0, m0 = (m.new (.cells (smC S (.slice a1 S.E.args.length z1) (.slice a2 S.C.s.length z2) (.slice a3 S.A.s.length z3)) 32 true)).new (.cells (zCells 0 0 0) 51 true) := ⟨_, rfl⟩
  have x0 : Ext m m0 := by rw [hm0]; exact (Ext.new _ _).trans (Ext.new _ _)
  have n0 : m0.next = m.next + 2 := by rw [hm0]; rfl
  have g0 : m0.get m.next = some (.cells (smC S (.slice a1 S.E.args.length z1) (.slice a2 S.C.s.length z2) (.slice a3 S.A.s.length z3)) 32 true) := by rw [hm0, new_get_ne _ (by simp only [new_next]; omega), new_get]
  have g00 : m0.get (m.next + 1) = some (.cells (zCells 0 0 0) 51 true) := by rw [hm0]; exact new_get (m.new _) _
  simp only [zCells] at hm0
  rw [← hm0]
  clear hm0
  refine sentry_ret ⟨_, rfl, h.ea.pz x0.pz⟩ fun v1 M1 en x1 => ?_
  obtain ⟨va, vb, rfl, s1, s2⟩ := en
  obtain ⟨c1, y1, rfl⟩ := s1.is
  obtain ⟨c2, y2, rfl⟩ := s2.is
  have X1 := x0.trans x1
  have g1 := (x1.2 m.next (by omega)).trans g0
  have g11 := (x1.2 (m.next + 1) (by omega)).trans g00
  have l1 := x1.1
  simp only [wk6, Nat.reduceBEq, wk1, forall_eq, Nat.reduceAdd, reduceIte, Nat.reduceEqDiff, reduceCtorEq, opLen, Int.reduceLT, Int.reduceEq, opConvert, opIndexAddr, opLoad, Nat.reduceLT, undef, Nat.reduceLeDiff, Array.toList, wk4, wk5, wk0, fxC17s, g0, g1, q1, q2, q3, q4, q5, q6, q7, q8, bldB]
  refine memf_ret fun M2 v2 x2 f2 => ?_
  obtain ⟨c3, y3, rfl⟩ := f2.is
  have X2 := X1.trans x2
  have g2 := (x2.2 m.next (by omega)).trans g1
  have g22 := (x2.2 (m.next + 1) (by omega)).trans g11
  have l2 := x2.1
  simp only [wk6, Nat.reduceBEq, wk1, forall_eq, Nat.reduceAdd, reduceIte, Nat.reduceEqDiff, reduceCtorEq, opLen, Int.reduceLT, Int.reduceEq, opConvert, opIndexAddr, opLoad, Nat.reduceLT, undef, Nat.reduceLeDiff, Array.toList, wk4, wk5, wk0, fxC17s, g0, g1, g2, q1, q2, q3, q4, q5, q6, q7, q8, bldB, bldV]
  refine ⟨by simp [veq, veqList, veqCell], scall_ret fun M3 x3 => ?_⟩
  have X3 := X2.trans x3
  have g3 := (x3.2 m.next (by omega)).trans g2
  have g33 := (x3.2 (m.next + 1) (by omega)).trans g22
  have l3 := x3.1
  rw [w1]
  simp only [wk6, Nat.reduceBEq, wk1, forall_eq, Nat.reduceAdd, reduceIte, Nat.reduceEqDiff, reduceCtorEq, opLen, Int.reduceLT, Int.reduceEq, opConvert, opIndexAddr, opLoad, Nat.reduceLT, undef, Nat.reduceLeDiff, Array.toList, wk4, wk5, wk0, fxC17s, g0, g1, g2, g3, q1, q2, q3, q4, q5, q6, q7, q8, bldB, bldV]
  refine ⟨by simp [veq, veqList, veqCell], reply_ret ok.ae ok.aq fun M4 x4 => ?_⟩
  have X4 := X3.trans x4
  have g4 := (x4.2 m.next (by omega)).trans g3
  have g44 := (x4.2 (m.next + 1) (by omega)).trans g33
  simp only [wk6, Nat.reduceBEq, wk1, forall_eq, Nat.reduceAdd, reduceIte, Nat.reduceEqDiff, reduceCtorEq, opLen, Int.reduceLT, Int.reduceEq, opConvert, opIndexAddr, opLoad, Nat.reduceLT, undef, Nat.reduceLeDiff, Array.toList, wk4, wk5, wk0, fxC17s, g0, g1, g2, g3, g4, g44, q1, q2, q3, q4, q5, q6, q7, q8, bldB, bldV, bld51]
  have fin : ∀ B, Ext m (M4.set (m.next + 1) B) := fun B => X4.set (by omega)
  have z4 : ∀ B, Pz M4 (M4.set (m.next + 1) B) := fun B => Pz.set g44 _
  have z : ∀ B, Pz M1 (M4.set (m.next + 1) B) := fun B => ((x2.trans x3).trans x4).pz.trans (z4 B)
  have z2 : ∀ B, Pz M2 (M4.set (m.next + 1) B) := fun B => (x3.trans x4).pz.trans (z4 B)
  exact hK _ _ (fin _) ⟨_, _, _, _, _, rfl, s1.pz (z _), s2.pz (z _), f2.pz (z2 _), h.ca.pz (fin _).pz, h.aa.pz (fin _).pz⟩
theorem letter_ret {m : Mem} {v : Value} {S : SmL} (h : SmLF m v S) (ok : SmOk S) {K : Value → Mem → Prop} (hK : ∀ m' v', Ext m m' → LetF m' v' (only S.all) → K v' m') : Ret Try.prog 9 [v] m K := by
  obtain ⟨ea, ca, aa, rfl, h⟩ := h
  obtain ⟨a1, z1, rfl⟩ := h.ea.is
  obtain ⟨a2, z2, rfl⟩ := h.ca.is
  obtain ⟨a3, z3, rfl⟩ := h.aa.is
  refine ret_wp [] Try.func9 rfl (by decide) (by kernel_rfl) ?_
  simp only [Nat.reduceAdd, reduceIte, Nat.reduceEqDiff, reduceCtorEq, opLen, Int.reduceLT, Int.reduceEq, opConvert, opIndexAddr, opLoad, Nat.reduceLT, undef, Nat.reduceLeDiff, Array.toList, wk4, wk5, wk0, fxC17s]
  obtain ⟨m0, hm0⟩ : ∃ m0, m0 = (m.new (.cells (smC S (.slice a1 S.E.args.length z1) (.slice a2 S.C.s.length z2) (.slice a3 S.A.s.length z3)) 32 true)).new (.cells (zCells 0 0 0) 51 true) := ⟨_, rfl⟩
  have x0 : Ext m m0 := by rw [hm0]; exact (Ext.new _ _).trans (Ext.new _ _)
  have n0 : m0.next = m.next + 2 := by rw [hm0]; rfl
  have g00 : m0.get (m.next + 1) = some (.cells (zCells 0 0 0) 51 true) := by rw [hm0]; exact new_get (m.new _) _
  simp only [zCells] at hm0
  rw [← hm0]
  clear hm0
  refine all_ret ⟨_, _, _, rfl, h.pz x0.pz⟩ ok fun M1 v1 x1 f1 => ?_
  simp only [Nat.reduceAdd, reduceIte, Nat.reduceEqDiff, reduceCtorEq, opLen, Int.reduceLT, Int.reduceEq, opConvert, opIndexAddr, opLoad, Nat.reduceLT, undef, Nat.reduceLeDiff, Array.toList, wk4, wk5, wk0, fxC17s]
  refine only_ret f1 fun M2 v2 x2 f2 => ?_
  obtain ⟨ea, em, vm, ca, aa, rfl, f2⟩ := f2
  obtain ⟨c1, y1, rfl⟩ := f2.ea.is
  obtain ⟨c2, y2, rfl⟩ := f2.em.is
  obtain ⟨c3, y3, rfl⟩ := f2.vm.is
  obtain ⟨c4, y4, rfl⟩ := f2.ca.is
  obtain ⟨c5, y5, rfl⟩ := f2.aa.is
  have g2 := (x2.2 (m.next + 1) (by have := x1.1; omega)).trans ((x1.2 (m.next + 1) (by omega)).trans g00)
  have X2 := (x0.trans x1).trans x2
  simp only [Nat.reduceAdd, reduceIte, Nat.reduceEqDiff, reduceCtorEq, opLen, Int.reduceLT, Int.reduceEq, opConvert, opIndexAddr, opLoad, Nat.reduceLT, undef, Nat.reduceLeDiff, Array.toList, wk4, wk5, wk0, fxC17s, g2]
  exact hK _ _ (X2.set (by omega)) ⟨_, _, _, _, _, rfl, f2.pz (Pz.set g2 _)⟩
theorem all_ok {S : SmL} (ok : SmOk S) (lt : S.light) : Ok S.all ∧ Ty S.all := by
  have z0 : (0 : Int) ≤ 0 ∧ (0 : Int) < 65536 := by decide
  have k := tm_lt ok.kd.1 (show (0 : Int) < 8 by decide)
  have ml := memL_len S.mm
  have ml2 := memL_len S.E.mm
  have hE : (0 ≤ S.E.ent.kind) ∧ (0 ≤ S.E.ent.tr ∧ S.E.ent.tr < 65536) ∧ (0 ≤ S.E.ent.nu ∧ S.E.ent.nu < 65536) ∧ Bytes S.E.ent.args ∧ S.E.ent.mem.length ≤ 16 := by
    unfold Sm.ent
    split
    · exact ⟨by show (0 : Int) ≤ 1; decide, ok.et, ok.en, ok.eb, Nat.zero_le _⟩
    split
    · exact ⟨by show (0 : Int) ≤ 2; decide, z0, z0, bytes_nil, ml2.2⟩
    · exact ⟨Int.le_refl _, z0, z0, bytes_nil, Nat.zero_le _⟩
  refine ⟨⟨hE.1, Nat.lt_of_le_of_lt hE.2.2.2.2 (by decide), Nat.lt_of_le_of_lt ml.2 (by decide), ok.cp, ?_, ok.ae, ok.aq, ?_⟩, ⟨?_, hE.2.1, hE.2.2.1, hE.2.2.2.1, ok.ct, ok.cn, ok.cb, ok.it, ok.nn, ok.ab⟩⟩
  · exact Nat.le_trans lt.2.1 (by decide)
  · exact Nat.le_trans lt.2.2 (by decide)
  · show 0 ≤ S.kd.tmod 8 ∧ S.kd.tmod 8 < 256; omega
end Go.Proofs.Ytejgoooanapjbaa
