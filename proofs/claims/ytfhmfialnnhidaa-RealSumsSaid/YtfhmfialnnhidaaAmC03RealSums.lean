/- A text of the abstract machine. -/

/- The law RealSums, simp only [Nat.reduceAdd, reduceIte, Nat.reduceEqDiff, reduceCtorEq, opLen, Int.reduceLT, Int.reduceEq, opConvert, opIndexAddr, opLoad, Nat.reduceLT, undef, Nat.reduceLeDiff, Array.toList, bin_fadd, bin_fsub, bin_fmul, bin_fquo, bin_feql, bin_fneq, bin_flss, bin_fleq, bin_fgtr, bin_fgeq, un_fneg, neqf_self, eqf_self, wk4, wk5, wk0, fxC03RealSums]ed. -/
import Derived.Test.YtfhmfialnnhidaaAmC03b
import Derived.Test.YtfhmfialnnhidaaAmArgs6
import Derived.Test.YtfhmfialnnhidaaAmBun
set_option linter.unusedSimpArgs false
set_option linter.unusedVariables false
set_option maxRecDepth 100000
set_option maxHeartbeats 4000000
namespace Go.Proofs.Ytfhmfialnnhidaa
open Go Go.AM Go.AM.Flt
theorem fxC03RealSums : type_of% (And.intro (And.intro (And.intro (And.intro (And.intro @Try.underlying2 (And.intro @Try.underlying3 @Try.underlying4)) (And.intro (And.intro @Try.underlying5 @Try.underlying9) (And.intro @Try.underlying22 @Try.underlying24))) (And.intro (And.intro @Try.underlying27 (And.intro @Try.underlying28 @ts2)) (And.intro (And.intro @ts3 @ts4) (And.intro @ts5 @ts9)))) (And.intro (And.intro (And.intro @ts22 (And.intro @ts24 @ts27)) (And.intro (And.intro @ts28 @tz2) (And.intro @tz3 @tz4))) (And.intro (And.intro (And.intro @tz5 @tz9) (And.intro @tz22 @tz24)) (And.intro (And.intro @tz27 @tz28) (And.intro @tb2 @tb3))))) (And.intro (And.intro (And.intro (And.intro @tb4 (And.intro @tb5 @tb9)) (And.intro (And.intro @tb22 @tb24) (And.intro @tb27 @tb28))) (And.intro (And.intro (And.intro @fr3 @fr4) (And.intro @fr5 @fr6)) (And.intro (And.intro @fr7 @fr8) (And.intro @fr9 @fr10)))) (And.intro (And.intro (And.intro @fr11 (And.intro @fr13 @fr14)) (And.intro (And.intro @fr15 @fr16) (And.intro @fr17 @fr18))) (And.intro (And.intro (And.intro @fr19 @fr20) (And.intro @fr21 @fr23)) (And.intro (And.intro @fr24 @fr25) (And.intro @fr26 @al27)))))) := (And.intro (And.intro (And.intro (And.intro (And.intro @Try.underlying2 (And.intro @Try.underlying3 @Try.underlying4)) (And.intro (And.intro @Try.underlying5 @Try.underlying9) (And.intro @Try.underlying22 @Try.underlying24))) (And.intro (And.intro @Try.underlying27 (And.intro @Try.underlying28 @ts2)) (And.intro (And.intro @ts3 @ts4) (And.intro @ts5 @ts9)))) (And.intro (And.intro (And.intro @ts22 (And.intro @ts24 @ts27)) (And.intro (And.intro @ts28 @tz2) (And.intro @tz3 @tz4))) (And.intro (And.intro (And.intro @tz5 @tz9) (And.intro @tz22 @tz24)) (And.intro (And.intro @tz27 @tz28) (And.intro @tb2 @tb3))))) (And.intro (And.intro (And.intro (And.intro @tb4 (And.intro @tb5 @tb9)) (And.intro (And.intro @tb22 @tb24) (And.intro @tb27 @tb28))) (And.intro (And.intro (And.intro @fr3 @fr4) (And.intro @fr5 @fr6)) (And.intro (And.intro @fr7 @fr8) (And.intro @fr9 @fr10)))) (And.intro (And.intro (And.intro @fr11 (And.intro @fr13 @fr14)) (And.intro (And.intro @fr15 @fr16) (And.intro @fr17 @fr18))) (And.intro (And.intro (And.intro @fr19 @fr20) (And.intro @fr21 @fr23)) (And.intro (And.intro @fr24 @fr25) (And.intro @fr26 @al27))))))
theorem bld27 (a b : Nat) : opBuild Try.prog 27 [(0, .float .f64 a), (1, .float .f64 b)] = some (.agg #[.float .f64 a, .float .f64 b]) := by kernel_rfl
theorem bld28 (m : Mem) (a b c d e f : Nat) : opBuildSlice Try.prog 28 3 [(0, .agg #[.float .f64 a, .float .f64 b]), (1, .agg #[.float .f64 c, .float .f64 d]), (2, .agg #[.float .f64 e, .float .f64 f])] m = some (.slice (some ⟨m.next, 0, none⟩) 3 2, m.new (.cells [.float .f64 a, .float .f64 b, .float .f64 c, .float .f64 d, .float .f64 e, .float .f64 f] 27 true)) := by kernel_rfl
theorem veq_f {x : Nat} : veq (.float .f64 x) (.float .f64 x) = true := by simp [veq, veqCell]
theorem realsums_ret {m : Mem} {n k : Int} {e f : Int} (hn : 0 ≤ n ∧ n < 2 ^ 64) (hk : 0 ≤ k ∧ k < 2 ^ 64) (he : 0 ≤ e ∧ e < 256) (hf : 0 ≤ f ∧ f < 256) : Ret Try.prog 3 [.int .u64 n, .int .u64 k, .int .u8 e, .int .u8 f] m fun v _ => v = .bool true := by
  refine ret_wp [(7, [4])] Try.func3 rfl (by decide) (by kernel_rfl) ?_
  simp only [wk6, Nat.reduceBEq, wk1, forall_eq, Nat.reduceAdd, reduceIte, Nat.reduceEqDiff, reduceCtorEq, opLen, Int.reduceLT, Int.reduceEq, opConvert, opIndexAddr, opLoad, Nat.reduceLT, undef, Nat.reduceLeDiff, Array.toList, bin_fadd, bin_fsub, bin_fmul, bin_fquo, bin_feql, bin_fneq, bin_flss, bin_fleq, bin_fgtr, bin_fgeq, un_fneg, neqf_self, eqf_self, wk4, wk5, wk0, fxC03RealSums]
  refine awake_ret ?_
  simp only [wk6, Nat.reduceBEq, wk1, forall_eq, Nat.reduceAdd, reduceIte, Nat.reduceEqDiff, reduceCtorEq, opLen, Int.reduceLT, Int.reduceEq, opConvert, opIndexAddr, opLoad, Nat.reduceLT, undef, Nat.reduceLeDiff, Array.toList, bin_fadd, bin_fsub, bin_fmul, bin_fquo, bin_feql, bin_fneq, bin_flss, bin_fleq, bin_fgtr, bin_fgeq, un_fneg, neqf_self, eqf_self, wk4, wk5, wk0, fxC03RealSums]
  refine float_ret hn he fun x hx => ?_
  simp only [wk6, Nat.reduceBEq, wk1, forall_eq, Nat.reduceAdd, reduceIte, Nat.reduceEqDiff, reduceCtorEq, opLen, Int.reduceLT, Int.reduceEq, opConvert, opIndexAddr, opLoad, Nat.reduceLT, undef, Nat.reduceLeDiff, Array.toList, bin_fadd, bin_fsub, bin_fmul, bin_fquo, bin_feql, bin_fneq, bin_flss, bin_fleq, bin_fgtr, bin_fgeq, un_fneg, neqf_self, eqf_self, wk4, wk5, wk0, fxC03RealSums]
  refine float_ret hk hf fun y hy => ?_
  simp only [wk6, Nat.reduceBEq, wk1, forall_eq, Nat.reduceAdd, reduceIte, Nat.reduceEqDiff, reduceCtorEq, opLen, Int.reduceLT, Int.reduceEq, opConvert, opIndexAddr, opLoad, Nat.reduceLT, undef, Nat.reduceLeDiff, Array.toList, bin_fadd, bin_fsub, bin_fmul, bin_fquo, bin_feql, bin_fneq, bin_flss, bin_fleq, bin_fgtr, bin_fgeq, un_fneg, neqf_self, eqf_self, wk4, wk5, wk0, fxC03RealSums]
  refine add_ret ?_
  simp only [wk6, Nat.reduceBEq, wk1, forall_eq, Nat.reduceAdd, reduceIte, Nat.reduceEqDiff, reduceCtorEq, opLen, Int.reduceLT, Int.reduceEq, opConvert, opIndexAddr, opLoad, Nat.reduceLT, undef, Nat.reduceLeDiff, Array.toList, bin_fadd, bin_fsub, bin_fmul, bin_fquo, bin_feql, bin_fneq, bin_flss, bin_fleq, bin_fgtr, bin_fgeq, un_fneg, neqf_self, eqf_self, wk4, wk5, wk0, fxC03RealSums, bld27]
  refine mul_ret ?_
  simp only [wk6, Nat.reduceBEq, wk1, forall_eq, Nat.reduceAdd, reduceIte, Nat.reduceEqDiff, reduceCtorEq, opLen, Int.reduceLT, Int.reduceEq, opConvert, opIndexAddr, opLoad, Nat.reduceLT, undef, Nat.reduceLeDiff, Array.toList, bin_fadd, bin_fsub, bin_fmul, bin_fquo, bin_feql, bin_fneq, bin_flss, bin_fleq, bin_fgtr, bin_fgeq, un_fneg, neqf_self, eqf_self, wk4, wk5, wk0, fxC03RealSums, bld27]
  refine div_ret ?_
  have l3 : opLen Try.prog (some 28) (.slice (some ⟨m.next, 0, none⟩) 3 2) = some (.int .i64 3) := by simp only [opLen, Try.underlying28]; rfl
  simp only [wk6, Nat.reduceBEq, wk1, forall_eq, Nat.reduceAdd, reduceIte, Nat.reduceEqDiff, reduceCtorEq, Int.reduceLT, Int.reduceEq, opConvert, opIndexAddr, opLoad, Nat.reduceLT, undef, Nat.reduceLeDiff, Array.toList, bin_fadd, bin_fsub, bin_fmul, bin_fquo, bin_feql, bin_fneq, bin_flss, bin_fleq, bin_fgtr, bin_fgeq, un_fneg, neqf_self, eqf_self, wk4, wk5, wk0, fxC03RealSums, bld27, bld28, l3]
  obtain ⟨C, hC⟩ : ∃ C : List Value, C = [.float .f64 (addX x y), .float .f64 ((F.add x y).getD lax), .float .f64 (mulX x y), .float .f64 ((F.mul x y).getD lax), .float .f64 (divX x y), .float .f64 ((F.div x y).getD lax)] := ⟨_, rfl⟩
  rw [← hC]
  have gr := new_get m (.cells C 27 true)
  have nr : m.next < (m.new (.cells C 27 true)).next := Nat.lt_succ_self _
  have key : ∀ j, j < 3 → ∃ a b : Nat, (C.drop (j * 2)).take 2 = [.float .f64 a, .float .f64 b] ∧ j * 2 + 2 ≤ C.length ∧ a < 2 ^ 64 ∧ a = tell b := by
    intro j hj
    have : j = 0 ∨ j = 1 ∨ j = 2 := by omega
    rcases this with rfl | rfl | rfl
    · exact ⟨_, _, by rw [hC]; rfl, by rw [hC]; simp only [List.length_cons, List.length_nil]; omega, tell_lt add_ok, rfl⟩
    · exact ⟨_, _, by rw [hC]; rfl, by rw [hC]; simp only [List.length_cons, List.length_nil]; omega, tell_lt mul_ok, rfl⟩
    · exact ⟨_, _, by rw [hC]; rfl, by rw [hC]; simp only [List.length_cons, List.length_nil]; omega, tell_lt div_ok, rfl⟩
  generalize m.new (.cells C 27 true) = mR at gr nr ⊢
  generalize m.next = iR at gr nr ⊢
  clear hC
  refine loop_wp [(7, [4])] (by kernel_rfl) (fun k env μ => ∃ j : Nat, k + j = 3 ∧ Ext mR μ ∧ env 42 = some (.slice (some ⟨iR, 0, none⟩) 3 2) ∧ env 43 = some (.int .i64 3) ∧ env 44 = some (.int .i64 j)) ?_ 3 ⟨0, rfl, Ext.refl _, rfl, rfl, rfl⟩
  rintro k env μ ⟨j, hk3, x2, e42, e43, e44⟩
  simp only [wk6, Nat.reduceBEq, wk1, forall_eq, Nat.reduceAdd, reduceIte, Nat.reduceEqDiff, reduceCtorEq, opLen, Int.reduceLT, Int.reduceEq, opConvert, opIndexAddr, opLoad, Nat.reduceLT, undef, Nat.reduceLeDiff, Array.toList, bin_fadd, bin_fsub, bin_fmul, bin_fquo, bin_feql, bin_fneq, bin_flss, bin_fleq, bin_fgtr, bin_fgeq, un_fneg, neqf_self, eqf_self, wk4, wk5, wk0, fxC03RealSums, e43, e44]
  refine cond_by (fun hlt => ?_) (fun hge => ?_)
  · have hj : j < 3 := by omega
    obtain ⟨a, b, hc, hl, ha, hab⟩ := key j hj
    have ix : opIndexAddr Try.prog 28 (.slice (some ⟨iR, 0, none⟩) 3 2) (.int .i64 (j : Int)) = some (.pointer (some ⟨iR, j * 2, none⟩)) := by
      simp [opIndexAddr, Try.underlying28, ts27]
      omega
    have gμ := (x2.2 iR nr).trans gr
    have ld : opLoad Try.prog 27 (.pointer (some ⟨iR, j * 2, none⟩)) μ = some (.agg #[.float .f64 a, .float .f64 b]) := by
      rw [load_agg (sz := 2) gμ (by simp only [aggOf, Try.underlying27]) ts27 hl, hc]
    have hw1 : IntKind.i64.wrap ((j : Int) + 1) = ((j + 1 : Nat) : Int) := by rw [wrap_i64 (by omega) (by omega)]; rfl
    simp only [wk6, Nat.reduceBEq, wk1, forall_eq, Nat.reduceAdd, reduceIte, Nat.reduceEqDiff, reduceCtorEq, opLen, Int.reduceLT, Int.reduceEq, opConvert, Nat.reduceLT, undef, Nat.reduceLeDiff, Array.toList, bin_fadd, bin_fsub, bin_fmul, bin_fquo, bin_feql, bin_fneq, bin_flss, bin_fleq, bin_fgtr, bin_fgeq, un_fneg, neqf_self, eqf_self, wk4, wk5, wk0, fxC03RealSums, e42, e43, e44, ix, ld]
    have h00 : (0 : Int) ≤ 0 ∧ (0 : Int) < ((2 : Nat) : Int) := by decide
    have h11 : (0 : Int) ≤ 1 ∧ (1 : Int) < ((2 : Nat) : Int) := by decide
    have t0 : Int.toNat 0 = 0 := rfl
    have t1 : Int.toNat 1 = 1 := rfl
    refine Loose.by (fun y => y = μ.next) ?_
    simp only [wk6, Nat.reduceBEq, wk1, forall_eq, Nat.reduceAdd, reduceIte, Nat.reduceEqDiff, reduceCtorEq, opLen, Int.reduceLT, Int.reduceEq, opConvert, opIndexAddr, opLoad, Nat.reduceLT, undef, Nat.reduceLeDiff, Array.toList, bin_fadd, bin_fsub, bin_fmul, bin_fquo, bin_feql, bin_fneq, bin_flss, bin_fleq, bin_fgtr, bin_fgeq, un_fneg, neqf_self, eqf_self, wk4, wk5, wk0, fxC03RealSums, veq_f, e42, e43, e44, h00, h11, t0, t1]
    refine bits12_ret (lt_lax ha) ?_
    simp only [wk6, Nat.reduceBEq, wk1, forall_eq, Nat.reduceAdd, reduceIte, Nat.reduceEqDiff, reduceCtorEq, opLen, Int.reduceLT, Int.reduceEq, opConvert, opIndexAddr, opLoad, Nat.reduceLT, undef, Nat.reduceLeDiff, Array.toList, bin_fadd, bin_fsub, bin_fmul, bin_fquo, bin_feql, bin_fneq, bin_flss, bin_fleq, bin_fgtr, bin_fgeq, un_fneg, neqf_self, eqf_self, wk4, wk5, wk0, fxC03RealSums, veq_f, e42, e43, e44, h00, h11, t0, t1]
    refine refbits_ret ?_
    rw [← hab]
    simp only [wk6, Nat.reduceBEq, wk1, forall_eq, Nat.reduceAdd, reduceIte, Nat.reduceEqDiff, reduceCtorEq, opLen, Int.reduceLT, Int.reduceEq, opConvert, opIndexAddr, opLoad, Nat.reduceLT, undef, Nat.reduceLeDiff, Array.toList, bin_fadd, bin_fsub, bin_fmul, bin_fquo, bin_feql, bin_fneq, bin_flss, bin_fleq, bin_fgtr, bin_fgeq, un_fneg, neqf_self, eqf_self, wk4, wk5, wk0, fxC03RealSums, e42, e43, e44, h00, h11, t0, t1, hw1]
    exact ⟨k - 1, by omega, j + 1, by omega, x2.trans ((Ext.new _ _).set (Nat.le_refl _)), rfl⟩
  · simp only [wk6, Nat.reduceBEq, wk1, forall_eq, Nat.reduceAdd, reduceIte, Nat.reduceEqDiff, reduceCtorEq, opLen, Int.reduceLT, Int.reduceEq, opConvert, opIndexAddr, opLoad, Nat.reduceLT, undef, Nat.reduceLeDiff, Array.toList, bin_fadd, bin_fsub, bin_fmul, bin_fquo, bin_feql, bin_fneq, bin_flss, bin_fleq, bin_fgtr, bin_fgeq, un_fneg, neqf_self, eqf_self, wk4, wk5, wk0, fxC03RealSums, e43, e44]
theorem realSums_true {H : Type} {m : Mem} {xs : List Value} {ds : List (DataW H)} (hd : IsDs Try.prog 8 [22, 22, 5, 5] ds) (hl : LieAll Try.prog m [22, 22, 5, 5] ds xs) : Ret Try.prog 3 xs m fun v _ => v = .bool true := by
  obtain ⟨d0, dr, rfl, i0, hd⟩ := isDs_cons hd
  obtain ⟨d1, dr, rfl, i1, hd⟩ := isDs_cons hd
  obtain ⟨d2, dr, rfl, i2, hd⟩ := isDs_cons hd
  obtain ⟨d3, dr, rfl, i3, hd⟩ := isDs_cons hd
  obtain rfl := isDs_nil hd
  obtain ⟨v0, _, rfl, l0, v1, _, rfl, l1, v2, _, rfl, l2, v3, _, rfl, l3, rfl⟩ := hl
  obtain ⟨a, rfl, w1⟩ := lies_int (k := 7) Try.underlying22 i0 l0
  obtain ⟨b, rfl, w2⟩ := lies_int (k := 7) Try.underlying22 i1 l1
  obtain ⟨c, rfl, w3⟩ := lies_int (k := 7) Try.underlying5 i2 l2
  obtain ⟨d, rfl, w4⟩ := lies_int (k := 7) Try.underlying5 i3 l3
  exact realsums_ret (wf_u64 w1) (wf_u64 w2) (wf_u8 w3) (wf_u8 w4)
end Go.Proofs.Ytfhmfialnnhidaa
