/- A text of the abstract machine. -/

/- The functions of a guest. -/
import Derived.Test.YtimjcfaciiimmaaAmC22p
import Derived.Test.YtimjcfaciiimmaaAmMaps
import Derived.Test.YtimjcfaciiimmaaAmBun
set_option linter.unusedSimpArgs false
set_option linter.unusedVariables false
set_option maxRecDepth 100000
set_option maxHeartbeats 4000000
namespace Go.Proofs.Ytimjcfaciiimmaa
open Go Go.AM Go.AM.Crc Go.AM.Wire
theorem fxC22a : type_of% (And.intro (And.intro (And.intro (And.intro (And.intro (And.intro (And.intro @Try.underlying3 @Try.underlying4) (And.intro @Try.underlying5 @Try.underlying9)) (And.intro (And.intro @Try.underlying22 @Try.underlying23) (And.intro @Try.underlying25 (And.intro @Try.underlying26 @Try.underlying30)))) (And.intro (And.intro (And.intro @Try.underlying32 @Try.underlying34) (And.intro @Try.underlying35 @Try.underlying39)) (And.intro (And.intro @Try.underlying40 @Try.underlying45) (And.intro @Try.underlying56 (And.intro @Try.underlying62 @Try.underlying66))))) (And.intro (And.intro (And.intro (And.intro @Try.underlying72 @Try.underlying75) (And.intro @Try.underlying77 @Try.underlying83)) (And.intro (And.intro @Try.underlying85 @Try.underlying92) (And.intro @Try.underlying93 (And.intro @Try.underlying94 @Try.underlying98)))) (And.intro (And.intro (And.intro @ts3 @ts4) (And.intro @ts5 (And.intro @ts9 @ts22))) (And.intro (And.intro @ts23 @ts25) (And.intro @ts26 (And.intro @ts30 @ts32)))))) (And.intro (And.intro (And.intro (And.intro (And.intro @ts34 @ts35) (And.intro @ts39 @ts40)) (And.intro (And.intro @ts45 @ts56) (And.intro @ts62 (And.intro @ts66 @ts72)))) (And.intro (And.intro (And.intro @ts75 @ts77) (And.intro @ts83 @ts85)) (And.intro (And.intro @ts92 @ts93) (And.intro @ts94 (And.intro @ts98 @tz3))))) (And.intro (And.intro (And.intro (And.intro @tz4 @tz5) (And.intro @tz9 @tz22)) (And.intro (And.intro @tz23 @tz25) (And.intro @tz26 (And.intro @tz30 @tz32)))) (And.intro (And.intro (And.intro @tz34 @tz35) (And.intro @tz39 (And.intro @tz40 @tz45))) (And.intro (And.intro @tz56 @tz62) (And.intro @tz66 (And.intro @tz72 @tz75))))))) (And.intro (And.intro (And.intro (And.intro (And.intro (And.intro @tz77 @tz83) (And.intro @tz85 @tz92)) (And.intro (And.intro @tz93 @tz94) (And.intro @tz98 (And.intro @tb3 @tb4)))) (And.intro (And.intro (And.intro @tb5 @tb9) (And.intro @tb22 @tb23)) (And.intro (And.intro @tb25 @tb26) (And.intro @tb30 (And.intro @tb32 @tb34))))) (And.intro (And.intro (And.intro (And.intro @tb35 @tb39) (And.intro @tb40 @tb45)) (And.intro (And.intro @tb56 @tb62) (And.intro @tb66 (And.intro @tb72 @tb75)))) (And.intro (And.intro (And.intro @tb77 @tb83) (And.intro @tb85 (And.intro @tb92 @tb93))) (And.intro (And.intro @tb94 @tb98) (And.intro @fr7 (And.intro @fr8 @fr9)))))) (And.intro (And.intro (And.intro (And.intro (And.intro @fr10 @fr11) (And.intro @fr12 @fr13)) (And.intro (And.intro @fr14 @fr23) (And.intro @fr24 (And.intro @fr25 @fr26)))) (And.intro (And.intro (And.intro @bz39 @bz32) (And.intro @bz92 @al39)) (And.intro (And.intro @al32 @al92) (And.intro @al62 (And.intro @bz85 @fa32_0))))) (And.intro (And.intro (And.intro (And.intro @fa32_5 @fa39_0) (And.intro @fa39_1 @fa39_2)) (And.intro (And.intro @fa62_0 @fa62_1) (And.intro @fa62_2 (And.intro @fa85_0 @fa85_1)))) (And.intro (And.intro (And.intro @fa85_2 @fa85_3) (And.intro @fa85_4 (And.intro @fa85_5 @fa85_6))) (And.intro (And.intro @fa92_1 @fa92_4) (And.intro @fa92_5 (And.intro @fa98_0 @fa98_2)))))))) := (And.intro (And.intro (And.intro (And.intro (And.intro (And.intro (And.intro @Try.underlying3 @Try.underlying4) (And.intro @Try.underlying5 @Try.underlying9)) (And.intro (And.intro @Try.underlying22 @Try.underlying23) (And.intro @Try.underlying25 (And.intro @Try.underlying26 @Try.underlying30)))) (And.intro (And.intro (And.intro @Try.underlying32 @Try.underlying34) (And.intro @Try.underlying35 @Try.underlying39)) (And.intro (And.intro @Try.underlying40 @Try.underlying45) (And.intro @Try.underlying56 (And.intro @Try.underlying62 @Try.underlying66))))) (And.intro (And.intro (And.intro (And.intro @Try.underlying72 @Try.underlying75) (And.intro @Try.underlying77 @Try.underlying83)) (And.intro (And.intro @Try.underlying85 @Try.underlying92) (And.intro @Try.underlying93 (And.intro @Try.underlying94 @Try.underlying98)))) (And.intro (And.intro (And.intro @ts3 @ts4) (And.intro @ts5 (And.intro @ts9 @ts22))) (And.intro (And.intro @ts23 @ts25) (And.intro @ts26 (And.intro @ts30 @ts32)))))) (And.intro (And.intro (And.intro (And.intro (And.intro @ts34 @ts35) (And.intro @ts39 @ts40)) (And.intro (And.intro @ts45 @ts56) (And.intro @ts62 (And.intro @ts66 @ts72)))) (And.intro (And.intro (And.intro @ts75 @ts77) (And.intro @ts83 @ts85)) (And.intro (And.intro @ts92 @ts93) (And.intro @ts94 (And.intro @ts98 @tz3))))) (And.intro (And.intro (And.intro (And.intro @tz4 @tz5) (And.intro @tz9 @tz22)) (And.intro (And.intro @tz23 @tz25) (And.intro @tz26 (And.intro @tz30 @tz32)))) (And.intro (And.intro (And.intro @tz34 @tz35) (And.intro @tz39 (And.intro @tz40 @tz45))) (And.intro (And.intro @tz56 @tz62) (And.intro @tz66 (And.intro @tz72 @tz75))))))) (And.intro (And.intro (And.intro (And.intro (And.intro (And.intro @tz77 @tz83) (And.intro @tz85 @tz92)) (And.intro (And.intro @tz93 @tz94) (And.intro @tz98 (And.intro @tb3 @tb4)))) (And.intro (And.intro (And.intro @tb5 @tb9) (And.intro @tb22 @tb23)) (And.intro (And.intro @tb25 @tb26) (And.intro @tb30 (And.intro @tb32 @tb34))))) (And.intro (And.intro (And.intro (And.intro @tb35 @tb39) (And.intro @tb40 @tb45)) (And.intro (And.intro @tb56 @tb62) (And.intro @tb66 (And.intro @tb72 @tb75)))) (And.intro (And.intro (And.intro @tb77 @tb83) (And.intro @tb85 (And.intro @tb92 @tb93))) (And.intro (And.intro @tb94 @tb98) (And.intro @fr7 (And.intro @fr8 @fr9)))))) (And.intro (And.intro (And.intro (And.intro (And.intro @fr10 @fr11) (And.intro @fr12 @fr13)) (And.intro (And.intro @fr14 @fr23) (And.intro @fr24 (And.intro @fr25 @fr26)))) (And.intro (And.intro (And.intro @bz39 @bz32) (And.intro @bz92 @al39)) (And.intro (And.intro @al32 @al92) (And.intro @al62 (And.intro @bz85 @fa32_0))))) (And.intro (And.intro (And.intro (And.intro @fa32_5 @fa39_0) (And.intro @fa39_1 @fa39_2)) (And.intro (And.intro @fa62_0 @fa62_1) (And.intro @fa62_2 (And.intro @fa85_0 @fa85_1)))) (And.intro (And.intro (And.intro @fa85_2 @fa85_3) (And.intro @fa85_4 (And.intro @fa85_5 @fa85_6))) (And.intro (And.intro @fa92_1 @fa92_4) (And.intro @fa92_5 (And.intro @fa98_0 @fa98_2))))))))
theorem bin_geq26 {a : Option Addr} : binV Try.prog .eql 26 (.pointer a) (.pointer none) = some (.bool a.isNone) := by
  cases a <;> simp only [binV, eqCell, Try.underlying26] <;> rfl
theorem bin_mapn {a : Option Nat} : binV Try.prog .eql 83 (.map a) (.map none) = some (.bool a.isNone) := by
  cases a <;> simp only [binV, eqCell, Try.underlying83] <;> rfl
theorem bin_pnn {a : Option Addr} : binV Try.prog .neq 93 (.pointer a) (.pointer none) = some (.bool (!a.isNone)) := by
  cases a <;> simp only [binV, eqCell, Try.underlying93] <;> rfl
theorem bin_pne {a : Option Addr} : binV Try.prog .eql 93 (.pointer a) (.pointer none) = some (.bool a.isNone) := by
  cases a <;> simp only [binV, eqCell, Try.underlying93] <;> rfl
abbrev keyU (k : Int) : Value := .int .u16 k
theorem keyU_ok : KeyOk Try.prog 22 keyU := by
  refine ⟨fun a => by simp only [keyFit, Try.underlying22], fun a b => ?_, fun a => ?_⟩
  · simp only [eqIn, Try.underlying22, eqCell, if_true]
    by_cases h : a = b
    · subst h; simp
    · have h3 : (a == b) = false := by simpa using h
      simp [h3, h]
  · simp [keySame, keyCell]
def procC (t : Int) (j : Nat) : List Value := [.string (strOf [97 + (j : Int)]), .int .i64 ((j : Int) + 1), .int .u8 0, .int .i64 0, .slice none 0 0, .slice none 0 0, .int .u8 0, .int .i64 0, .slice none 0 0, .slice none 0 0, .int .u8 j, .int .i64 t]
def procsC (t : Int) (n : Nat) : List Value := (List.range n).flatMap (procC t)
theorem procsC_succ (t : Int) (n : Nat) : procsC t (n + 1) = procsC t n ++ procC t n := by simp [procsC, List.range_succ]
abbrev faceV (v : Value) : Value := .agg #[.string ⟨#[102, 97, 99, 101]⟩, .int .i64 0, .int .i64 0, .slice none 0 0, .slice none 0 0, v]
theorem bldF : opBuild Try.prog 32 [(0, .string ⟨#[102, 97, 99, 101]⟩)] = some (faceV (.slice none 0 0)) := by kernel_rfl
theorem bldP (s : ByteArray) (n c t : Int) : opBuild Try.prog 92 [(0, .string s), (1, .int .i64 n), (4, .int .u8 c), (5, .int .i64 t)] = some (.agg #[.string s, .int .i64 n, .int .u8 0, .int .i64 0, .slice none 0 0, .slice none 0 0, .int .u8 0, .int .i64 0, .slice none 0 0, .slice none 0 0, .int .u8 c, .int .i64 t]) := by kernel_rfl
theorem one_proc (m : Mem) (s : ByteArray) (n c t : Int) : opBuildSlice Try.prog 30 1 [(0, .agg #[.string s, .int .i64 n, .int .u8 0, .int .i64 0, .slice none 0 0, .slice none 0 0, .int .u8 0, .int .i64 0, .slice none 0 0, .slice none 0 0, .int .u8 c, .int .i64 t])] m = some (.slice (some ⟨m.next, 0, none⟩) 1 12, m.new (.cells [.string s, .int .i64 n, .int .u8 0, .int .i64 0, .slice none 0 0, .slice none 0 0, .int .u8 0, .int .i64 0, .slice none 0 0, .slice none 0 0, .int .u8 c, .int .i64 t] 92 true)) := by kernel_rfl
theorem one_byte (m : Mem) (a : Int) : opBuildSlice Try.prog 23 1 [(0, .int .u8 a)] m = some (.slice (some ⟨m.next, 0, none⟩) 1 1, m.new (.cells (byteCells [a]) 5 true)) := by kernel_rfl
theorem conv35 (n : Int) (m : Mem) : opConvert Try.prog 3 5 (.int .i64 n) m = some (.int .u8 (IntKind.u8.wrap n), m) := by simp only [opConvert, Try.underlying3, Try.underlying5]
theorem conv377 (n : Int) (m : Mem) : opConvert Try.prog 3 77 (.int .i64 n) m = some (.int .u8 (IntKind.u8.wrap n), m) := by simp only [opConvert, Try.underlying3, Try.underlying77]
theorem face_ret {m : Mem} {t : Int} {K : Value → Mem → Prop} (hK : ∀ m' w, Pz m m' → FRow m' w 12 3 (procsC t 3) → K (faceV w) m') : Ret Try.prog 9 [.int .i64 t] m K := by
  refine Ret.pz (Ret.join ?_)
  refine ret_wp [] Try.func9 rfl (by decide) (by kernel_rfl) ?_
  simp only [Nat.reduceAdd, reduceIte, Nat.reduceEqDiff, reduceCtorEq, opLen, Int.reduceLT, Int.reduceEq, opConvert, opIndexAddr, opLoad, Nat.reduceLT, undef, Nat.reduceLeDiff, Array.toList, bin_geq26, bin_mapn, bin_pnn, bin_pne, veq_map, wk4, wk5, wk0, fxC22a, bldF]
  obtain ⟨m1, hm1⟩ : ∃ m1, m1 = ((m.new (.cells [.string ⟨#[]⟩, .int .i64 0, .int .i64 0, .slice none 0 0, .slice none 0 0, .slice none 0 0] 32 true)).new (.cells [.string ⟨#[]⟩, .int .i64 0, .int .i64 0, .slice none 0 0, .slice none 0 0, .slice none 0 0] 32 true)).set (m.next + 1) (.cells [.string ⟨#[102, 97, 99, 101]⟩, .int .i64 0, .int .i64 0, .slice none 0 0, .slice none 0 0, .slice none 0 0] 32 true) := ⟨_, rfl⟩
  have g0 : m1.get m.next = some (.cells [.string ⟨#[]⟩, .int .i64 0, .int .i64 0, .slice none 0 0, .slice none 0 0, .slice none 0 0] 32 true) := by
    rw [hm1, set_get_ne _ (by omega), new_get_ne _ (by simp only [new_next]; omega), new_get]
  have g1 : m1.get (m.next + 1) = some (.cells [.string ⟨#[102, 97, 99, 101]⟩, .int .i64 0, .int .i64 0, .slice none 0 0, .slice none 0 0, .slice none 0 0] 32 true) := by rw [hm1, set_get]
  have n1 : m1.next = m.next + 2 := by rw [hm1]; rfl
  rw [← hm1]
  clear hm1
  refine loop_wp [] (by kernel_rfl) (fun k env μ => ∃ (j r : Nat) (pv : Value), k + j = 3 ∧ OwnI r 92 12 μ pv j (procsC t j) ∧ μ.get (m.next + 1) = some (.cells [.string ⟨#[102, 97, 99, 101]⟩, .int .i64 0, .int .i64 0, .slice none 0 0, .slice none 0 0, pv] 32 true) ∧ μ.get m.next = some (.cells [.string ⟨#[]⟩, .int .i64 0, .int .i64 0, .slice none 0 0, .slice none 0 0, .slice none 0 0] 32 true) ∧ m.next + 2 ≤ r ∧ m.next + 2 ≤ μ.next ∧ env 0 = some (.int .i64 t) ∧ env 2 = some (.pointer (some ⟨m.next, 0, none⟩)) ∧ env 3 = some (.pointer (some ⟨m.next + 1, 0, none⟩)) ∧ env 6 = some (.int .i64 j)) ?_ 3 ⟨0, m.next + 2, .slice none 0 0, rfl, OwnI.nil, g1, g0, Nat.le_refl _, by omega, rfl, rfl, rfl, rfl⟩
  clear g0 g1 n1
  rintro k env μ ⟨j, r, pv, hk, o, g1, g0, hr, hn, e0, e2, e3, e6⟩
  obtain ⟨pa, pq, hpv⟩ := o.is
  rw [hpv] at g1
  simp only [Nat.reduceAdd, reduceIte, Nat.reduceEqDiff, reduceCtorEq, opLen, Int.reduceLT, Int.reduceEq, opConvert, opIndexAddr, opLoad, Nat.reduceLT, undef, Nat.reduceLeDiff, Array.toList, bin_geq26, bin_mapn, bin_pnn, bin_pne, veq_map, wk4, wk5, wk0, fxC22a, e6]
  refine cond_by (fun hlt => ?_) (fun hge => ?_)
  · have hj : j < 3 := by omega
    have w1 : IntKind.i64.wrap (97 + (j : Int)) = 97 + j := wrap_i64 (by omega) (by omega)
    have w2 : IntKind.u8.wrap (97 + (j : Int)) = 97 + j := by rw [u8_lo]; omega
    have w3 : IntKind.i64.wrap ((j : Int) + 1) = (j : Int) + 1 := wrap_i64 (by omega) (by omega)
    have w4 : IntKind.u8.wrap (j : Int) = j := by rw [u8_lo]; omega
    have x2 := Ext.new μ (.cells (byteCells [97 + (j : Int)]) 5 true)
    have cv : opConvert Try.prog 23 9 (.slice (some ⟨μ.next, 0, none⟩) 1 1) (μ.new (.cells (byteCells [97 + (j : Int)]) 5 true)) = some (.string (strOf [97 + (j : Int)]), μ.new (.cells (byteCells [97 + (j : Int)]) 5 true)) := conv_string (P := Try.prog) Try.underlying23 Try.underlying5 Try.underlying9 (Shows.whole (new_get _ _))
    have g12 := (x2.2 (m.next + 1) (by omega)).trans g1
    have g02 := (x2.2 m.next (by omega)).trans g0
    have o2 := o.ext x2
    have n2 : (μ.new (.cells (byteCells [97 + (j : Int)]) 5 true)).next = μ.next + 1 := rfl
    have lp : opLoad Try.prog 30 (.pointer (some ⟨m.next + 1, 5, none⟩)) μ = some pv := by rw [hpv]; exact load_cell g1 (by simp only [aggOf, Try.underlying30]) rfl
    simp only [Nat.reduceAdd, reduceIte, Nat.reduceEqDiff, reduceCtorEq, opLen, Int.reduceLT, Int.reduceEq, opIndexAddr, Nat.reduceLT, undef, Nat.reduceLeDiff, Array.toList, bin_geq26, bin_mapn, bin_pnn, bin_pne, veq_map, wk4, wk5, wk0, fxC22a, e0, e2, e3, e6, lp, w1, w2, w3, w4, one_byte, cv, conv35, conv377, bldP, one_proc]
    generalize μ.new (.cells (byteCells [97 + (j : Int)]) 5 true) = m2 at x2 g12 g02 o2 n2 ⊢
    have sn : ShowsR 12 (m2.new (.cells (procC t j) 92 true)) (.slice (some ⟨m2.next, 0, none⟩) 1 12) 1 (procC t j) := ⟨_, _, rfl, by simp [shown, new_get, procC], rfl⟩
    obtain ⟨a', q', m3, r', p1, p2, p3, p4, p5⟩ := (o2.ext (Ext.new m2 (.cells (procC t j) 92 true))).push (P := Try.prog) (t := 30) (tx := 30) Try.underlying30 ⟨_, Try.underlying30⟩ ts92 (by decide) tz92 tb92 (by decide) rfl rfl sn (by omega)
    simp only [new_next] at p3 p4 p5
    have p1' : opAppend Try.prog [30, 30] [pv, .slice (some ⟨m2.next, 0, none⟩) 1 12] (m2.new (.cells [.string (strOf [97 + (j : Int)]), .int .i64 ((j : Int) + 1), .int .u8 0, .int .i64 0, .slice none 0 0, .slice none 0 0, .int .u8 0, .int .i64 0, .slice none 0 0, .slice none 0 0, .int .u8 j, .int .i64 t] 92 true)) = some (.slice a' (j + 1) q', m3) := p1
    have h13 : m3.get (m.next + 1) = m2.get (m.next + 1) := by rw [p5 _ (by omega) (fun h => by omega), new_get_ne _ (by omega)]
    have h03 : m3.get m.next = m2.get m.next := by rw [p5 _ (by omega) (fun h => by omega), new_get_ne _ (by omega)]
    have g13 := h13.trans g12
    rw [n2] at p1'
    simp only [Nat.reduceAdd, reduceIte, Nat.reduceEqDiff, reduceCtorEq, opLen, Int.reduceLT, Int.reduceEq, opConvert, opIndexAddr, opLoad, Nat.reduceLT, undef, Nat.reduceLeDiff, Array.toList, bin_geq26, bin_mapn, bin_pnn, bin_pne, veq_map, wk4, wk5, wk0, fxC22a, e0, e2, e3, e6, p1', g13]
    refine ⟨k - 1, by omega, j + 1, r', _, by omega, ?_, rfl, ?_, by omega, by omega, by rw [w3]; rfl⟩
    · rw [procsC_succ]
      exact p2.keep (Nat.le_refl _) fun _ => set_get_ne _ (by omega)
    · exact h03.trans g02
  · obtain rfl : j = 3 := by omega
    have ne : ¬ m.next = m.next + 1 := by omega
    simp only [Nat.reduceAdd, reduceIte, Nat.reduceEqDiff, reduceCtorEq, opLen, Int.reduceLT, Int.reduceEq, opConvert, opIndexAddr, opLoad, Nat.reduceLT, undef, Nat.reduceLeDiff, Array.toList, bin_geq26, bin_mapn, bin_pnn, bin_pne, veq_map, wk4, wk5, wk0, fxC22a, e0, e2, e3, g1, g0, ne]
    have o2 : OwnI r 92 12 (μ.set m.next (.cells [.string ⟨#[102, 97, 99, 101]⟩, .int .i64 0, .int .i64 0, .slice none 0 0, .slice none 0 0, .slice pa 3 pq] 32 true)) pv 3 (procsC t 3) := o.keep (Nat.le_refl _) fun _ => set_get_ne _ (by omega)
    rw [hpv] at o2
    obtain ⟨m4, z4, f4, n4, k4⟩ := o2.frz
    exact ⟨m4, z4, fun zz => hK m4 _ zz f4⟩
/-- A procedure, as a value. -/
def procV (t : Int) (j : Nat) : Value := .agg (procC t j).toArray
theorem procs_at (t : Int) (n j : Nat) (hj : j < n) : ((procsC t n).drop (j * 12)).take 12 = procC t j := by
  induction n with
  | zero => omega
  | succ n ih =>
    have hl : ∀ n, (procsC t n).length = n * 12 := fun n => by
      induction n with
      | zero => rfl
      | succ n ih => rw [procsC_succ, List.length_append, ih]; simp only [procC, List.length_cons, List.length_nil]; omega
    rw [procsC_succ]
    by_cases h : j < n
    · rw [List.drop_append_of_le_length (by rw [hl]; omega), List.take_append_of_le_length (by rw [List.length_drop, hl]; omega)]
      exact ih h
    · obtain rfl : j = n := by omega
      rw [List.drop_left' (hl j)]
      rfl
theorem ld92 (μ : Mem) (Z : Blk) (t : Int) (j : Nat) : opLoad Try.prog 92 (.pointer (some ⟨μ.next, 0, none⟩)) ((μ.new Z).set μ.next (.cells (procC t j) 92 true)) = some (procV t j) := by
  simp only [opLoad, set_get, aggOf, Try.underlying92, ts92]
  rfl
def zero92 : List Value := [.string ⟨#[]⟩, .int .i64 0, .int .u8 0, .int .i64 0, .slice none 0 0, .slice none 0 0, .int .u8 0, .int .i64 0, .slice none 0 0, .slice none 0 0, .int .u8 0, .int .i64 0]
theorem find_ret {m : Mem} {t : Int} {v : Value} {p : Int} {k : Nat} (fv : FRow m v 12 3 (procsC t 3)) (hp : p = (k : Int) + 1) (hk : k < 3) {K : Value → Mem → Prop} (hK : ∀ m', Ext m m' → K (.tuple #[procV t k, .bool true]) m') : Ret Try.prog 23 [faceV v, .int .i64 p] m K := by
  obtain ⟨va, vq, rfl⟩ := fv.is
  refine ret_wp [] Try.func23 rfl (by decide) (by kernel_rfl) ?_
  have lv : opLen Try.prog (some 30) (.slice va 3 vq) = some (.int .i64 3) := fv.len Try.underlying30
  simp only [Nat.reduceAdd, reduceIte, Nat.reduceEqDiff, reduceCtorEq, Int.reduceLT, Int.reduceEq, opConvert, opIndexAddr, opLoad, Nat.reduceLT, undef, Nat.reduceLeDiff, Array.toList, bin_geq26, bin_mapn, bin_pnn, bin_pne, veq_map, wk4, wk5, wk0, fxC22a, lv]
  obtain ⟨m1, hm1⟩ : ∃ m1, m1 = (m.new (.cells [.string ⟨#[102, 97, 99, 101]⟩, .int .i64 0, .int .i64 0, .slice none 0 0, .slice none 0 0, .slice va 3 vq] 32 true)).new (.cells zero92 92 true) := ⟨_, rfl⟩
  have x1 : Ext m m1 := by rw [hm1]; exact (Ext.new _ _).trans (Ext.new _ _)
  have g1 : m1.get (m.next + 1) = some (.cells zero92 92 true) := by rw [hm1]; exact new_get (m.new _) _
  have n1 : m1.next = m.next + 2 := by rw [hm1]; rfl
  have e1 : (m.new (.cells [.string ⟨#[102, 97, 99, 101]⟩, .int .i64 0, .int .i64 0, .slice none 0 0, .slice none 0 0, .slice va 3 vq] 32 true)).new (.cells [.string ⟨#[]⟩, .int .i64 0, .int .u8 0, .int .i64 0, .slice none 0 0, .slice none 0 0, .int .u8 0, .int .i64 0, .slice none 0 0, .slice none 0 0, .int .u8 0, .int .i64 0] 92 true) = m1 := hm1.symm
  rw [e1]
  clear e1 hm1
  refine loop_wp [] (by kernel_rfl) (fun q env μ => ∃ j : Nat, q + j = 3 ∧ j ≤ k ∧ Ext m1 μ ∧ env 1 = some (.int .i64 p) ∧ env 4 = some (.pointer (some ⟨m.next + 1, 0, none⟩)) ∧ env 9 = some (.slice va 3 vq) ∧ env 10 = some (.int .i64 3) ∧ env 11 = some (.int .i64 j)) ?_ 3 ⟨0, rfl, Nat.zero_le _, Ext.refl m1, rfl, rfl, rfl, rfl, rfl⟩
  rintro q env μ ⟨j, hq, hjk, xμ, e1, e4, e9, e10, e11⟩
  have hj : j < 3 := by omega
  have dj : decide ((j : Int) < 3) = true := decide_eq_true (by omega)
  obtain ⟨pp, h1, h2, h3⟩ := fv.at (P := Try.prog) Try.underlying30 ts92 (by simp only [aggOf, Try.underlying92]) hj
  have h4 : opLoad Try.prog 92 (.pointer (some pp)) μ = some (procV t j) := by rw [h3 μ (x1.pz.trans xμ.pz), procs_at t 3 j hj]; rfl
  obtain ⟨m2, hm2⟩ : ∃ m2, m2 = (μ.new (.cells [.string ⟨#[]⟩, .int .i64 0, .int .u8 0, .int .i64 0, .slice none 0 0, .slice none 0 0, .int .u8 0, .int .i64 0, .slice none 0 0, .slice none 0 0, .int .u8 0, .int .i64 0] 92 true)).set μ.next (.cells (procC t j) 92 true) := ⟨_, rfl⟩
  have x2 : Ext μ m2 := by rw [hm2]; exact (Ext.new _ _).set (Nat.le_refl _)
  have g2 : m2.get μ.next = some (.cells (procC t j) 92 true) := by rw [hm2]; exact set_get _ _ _
  have l2 : opLoad Try.prog 92 (.pointer (some ⟨μ.next, 0, none⟩)) m2 = some (procV t j) := by rw [hm2]; exact ld92 _ _ _ _
  have st2 : opStore Try.prog 92 (.pointer (some ⟨μ.next, 0, none⟩)) (procV t j) (μ.new (.cells [.string ⟨#[]⟩, .int .i64 0, .int .u8 0, .int .i64 0, .slice none 0 0, .slice none 0 0, .int .u8 0, .int .i64 0, .slice none 0 0, .slice none 0 0, .int .u8 0, .int .i64 0] 92 true)) = some m2 := by
    rw [hm2]
    simp only [opStore, new_get, ts92, procV, procC, Value.cells]
    rfl
  have ln : opLoad Try.prog 3 (.pointer (some ⟨μ.next, 1, none⟩)) m2 = some (.int .i64 ((j : Int) + 1)) := load_cell g2 (by simp only [aggOf, Try.underlying3]) rfl
  clear hm2
  by_cases hjk' : j = k
  · subst hjk'
    have d1 : decide ((j : Int) + 1 = p) = true := decide_eq_true hp.symm
    have g14 := ((xμ.trans x2).2 (m.next + 1) (by omega)).trans g1
    have st3 : opStore Try.prog 92 (.pointer (some ⟨m.next + 1, 0, none⟩)) (procV t j) m2 = some (m2.set (m.next + 1) (.cells (procC t j) 92 true)) := by
      simp only [opStore, g14, ts92, procV, procC, Value.cells]
      rfl
    have l3 : opLoad Try.prog 92 (.pointer (some ⟨m.next + 1, 0, none⟩)) (m2.set (m.next + 1) (.cells (procC t j) 92 true)) = some (procV t j) := by
      simp only [opLoad, set_get, aggOf, Try.underlying92, ts92]
      rfl
    simp only [evOp, evParts, okVal, ev1, evs, evOpt, envOf, List.lookup_nil, List.size_toArray, List.length_cons, List.length_nil, List.range, List.range.loop, Nat.zero_add, Nat.reduceAdd, Bool.not_false, Bool.not_true, Bool.true_or, if_true, if_false, reduceIte, Nat.reduceEqDiff, reduceCtorEq, List.getElem?_toArray, List.getElem?_cons_zero, List.getElem?_cons_succ, guardOf, constOk, constCell, evBuiltin, opLen, List.head?_cons, foldV, min2V, max2V, Int.reduceLT, Int.reduceEq, Kend, resOf, Bool.false_eq_true, Bool.true_eq_false, IntKind.signed, IntKind.max, opConvert, aggOf, Option.some.injEq, Value.bool.injEq, exists_eq_left', true_and, forall_const, decide_eq_true_eq, decide_eq_false_iff_not, Int.natCast_nonneg, and_self, Int.toNat_natCast, Nat.mul_one, List.append_nil, beq_self_eq_true, Nat.lt_irrefl, Nat.zero_lt_succ, Nat.reduceLT, Option.bind_some, undef, opBox, Value.cells, setCells, Nat.reduceLeDiff, Array.toList, bin_geq26, bin_mapn, bin_pnn, bin_pne, veq_map, wk5, wk0, fxC22a, e1, e4, e9, e10, e11, dj, h1, h4, st2, ln, d1, l2, st3, l3, two_of]
    exact hK _ (((x1.trans xμ).trans x2).set (by omega))
  · have d1 : decide ((j : Int) + 1 = p) = false := decide_eq_false (by omega)
    simp only [evOp, evParts, okVal, ev1, evs, evOpt, envOf, List.lookup_nil, List.size_toArray, List.length_cons, List.length_nil, List.range, List.range.loop, Nat.zero_add, Nat.reduceAdd, Bool.not_false, Bool.not_true, Bool.true_or, if_true, if_false, reduceIte, Nat.reduceEqDiff, reduceCtorEq, List.getElem?_toArray, List.getElem?_cons_zero, List.getElem?_cons_succ, guardOf, constOk, constCell, evBuiltin, opLen, List.head?_cons, foldV, min2V, max2V, Int.reduceLT, Int.reduceEq, Kend, resOf, Bool.false_eq_true, Bool.true_eq_false, IntKind.signed, IntKind.max, opConvert, aggOf, Option.some.injEq, Value.bool.injEq, exists_eq_left', true_and, forall_const, decide_eq_true_eq, decide_eq_false_iff_not, Int.natCast_nonneg, and_self, Int.toNat_natCast, Nat.mul_one, List.append_nil, beq_self_eq_true, Nat.lt_irrefl, Nat.zero_lt_succ, Nat.reduceLT, Option.bind_some, undef, opBox, Value.cells, setCells, Nat.reduceLeDiff, Array.toList, bin_geq26, bin_mapn, bin_pnn, bin_pne, veq_map, wk5, wk0, fxC22a, e1, e4, e9, e10, e11, dj, h1, h4, st2, ln, d1]
    refine ⟨q - 1, by omega, j + 1, by omega, by omega, xμ.trans x2, ?_⟩
    rw [wrap_i64 (by omega) (by omega)]; rfl
abbrev callV (t n p : Int) (v : Value) : Value := .agg #[.int .u16 t, .int .u16 n, .int .i64 p, v]
theorem callck_ret {m : Mem} {t n p : Int} {v : Value} {k : Nat} (hv : opLen Try.prog (some 23) v = some (.int .i64 k)) (hp : 0 ≤ p ∧ p ≤ 65535) (hk : k ≤ 4000) {K : Value → Mem → Prop} (hK : ∀ m', Ext m m' → K (.int .i64 0) m') : Ret Try.prog 24 [callV t n p v] m K := by
  refine ret_wp [] Try.func24 rfl (by decide) (by kernel_rfl) ?_
  have d1 : ¬ p < 0 := by omega
  have d2 : ¬ 65535 < p := by omega
  have d3 : ¬ 4000 < (k : Int) := by omega
  simp only [Nat.reduceAdd, reduceIte, Nat.reduceEqDiff, reduceCtorEq, Int.reduceLT, Int.reduceEq, opConvert, opIndexAddr, opLoad, Nat.reduceLT, undef, Nat.reduceLeDiff, Array.toList, bin_geq26, bin_mapn, bin_pnn, bin_pne, veq_map, wk4, wk5, wk0, fxC22a, hv, d1, d2, d3]
  exact hK _ (Ext.new _ _)
end Go.Proofs.Ytimjcfaciiimmaa
