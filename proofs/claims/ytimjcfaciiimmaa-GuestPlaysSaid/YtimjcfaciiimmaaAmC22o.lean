/- A text of the abstract machine. -/


/- Answers, collated. -/
import Derived.Test.YtimjcfaciiimmaaAmC22v
import Derived.Test.YtimjcfaciiimmaaAmWire
import Derived.Test.YtimjcfaciiimmaaAmBun
set_option linter.unusedSimpArgs false
set_option linter.unusedVariables false
set_option maxRecDepth 100000
set_option maxHeartbeats 4000000
namespace Go.Proofs.Ytimjcfaciiimmaa
open Go Go.AM Go.AM.Crc Go.AM.Wire
theorem fxC22o : type_of% (And.intro (And.intro (And.intro (And.intro (And.intro (And.intro @Try.underlying3 @Try.underlying4) (And.intro @Try.underlying5 (And.intro @Try.underlying9 @Try.underlying25))) (And.intro (And.intro @Try.underlying52 (And.intro @Try.underlying35 @Try.underlying107)) (And.intro @Try.underlying22 (And.intro @Try.underlying23 @Try.underlying39)))) (And.intro (And.intro (And.intro @Try.underlying101 @Try.underlying103) (And.intro @Try.underlying75 (And.intro @Try.underlying77 @Try.underlying49))) (And.intro (And.intro @ts3 (And.intro @ts4 @ts5)) (And.intro @ts9 (And.intro @ts25 @ts52))))) (And.intro (And.intro (And.intro (And.intro @ts35 @ts107) (And.intro @ts22 (And.intro @ts23 @ts39))) (And.intro (And.intro @ts101 (And.intro @ts103 @ts75)) (And.intro @ts77 (And.intro @ts49 @tz3)))) (And.intro (And.intro (And.intro @tz4 @tz5) (And.intro @tz9 (And.intro @tz25 @tz52))) (And.intro (And.intro @tz35 (And.intro @tz107 @tz22)) (And.intro @tz23 (And.intro @tz39 @tz101)))))) (And.intro (And.intro (And.intro (And.intro (And.intro @tz103 @tz75) (And.intro @tz77 (And.intro @tz49 @tb3))) (And.intro (And.intro @tb4 (And.intro @tb5 @tb9)) (And.intro @tb25 (And.intro @tb52 @tb35)))) (And.intro (And.intro (And.intro @tb107 @tb22) (And.intro @tb23 (And.intro @tb39 @tb101))) (And.intro (And.intro @tb103 (And.intro @tb75 @tb77)) (And.intro @tb49 (And.intro @fr18 @fr21))))) (And.intro (And.intro (And.intro (And.intro @fr16 @fr22) (And.intro @fr17 (And.intro @fr0 @fr33))) (And.intro (And.intro @fr34 (And.intro @bz52 @al52)) (And.intro @fa52_0 (And.intro @fa52_1 @bz39)))) (And.intro (And.intro (And.intro @al39 (And.intro @bz103 @fa39_0)) (And.intro @fa39_1 (And.intro @fa39_2 @fa103_0))) (And.intro (And.intro @fa103_1 (And.intro @fa103_2 @fa103_3)) (And.intro @fa49_0 (And.intro @fa49_1 @fa49_2))))))) := (And.intro (And.intro (And.intro (And.intro (And.intro (And.intro @Try.underlying3 @Try.underlying4) (And.intro @Try.underlying5 (And.intro @Try.underlying9 @Try.underlying25))) (And.intro (And.intro @Try.underlying52 (And.intro @Try.underlying35 @Try.underlying107)) (And.intro @Try.underlying22 (And.intro @Try.underlying23 @Try.underlying39)))) (And.intro (And.intro (And.intro @Try.underlying101 @Try.underlying103) (And.intro @Try.underlying75 (And.intro @Try.underlying77 @Try.underlying49))) (And.intro (And.intro @ts3 (And.intro @ts4 @ts5)) (And.intro @ts9 (And.intro @ts25 @ts52))))) (And.intro (And.intro (And.intro (And.intro @ts35 @ts107) (And.intro @ts22 (And.intro @ts23 @ts39))) (And.intro (And.intro @ts101 (And.intro @ts103 @ts75)) (And.intro @ts77 (And.intro @ts49 @tz3)))) (And.intro (And.intro (And.intro @tz4 @tz5) (And.intro @tz9 (And.intro @tz25 @tz52))) (And.intro (And.intro @tz35 (And.intro @tz107 @tz22)) (And.intro @tz23 (And.intro @tz39 @tz101)))))) (And.intro (And.intro (And.intro (And.intro (And.intro @tz103 @tz75) (And.intro @tz77 (And.intro @tz49 @tb3))) (And.intro (And.intro @tb4 (And.intro @tb5 @tb9)) (And.intro @tb25 (And.intro @tb52 @tb35)))) (And.intro (And.intro (And.intro @tb107 @tb22) (And.intro @tb23 (And.intro @tb39 @tb101))) (And.intro (And.intro @tb103 (And.intro @tb75 @tb77)) (And.intro @tb49 (And.intro @fr18 @fr21))))) (And.intro (And.intro (And.intro (And.intro @fr16 @fr22) (And.intro @fr17 (And.intro @fr0 @fr33))) (And.intro (And.intro @fr34 (And.intro @bz52 @al52)) (And.intro @fa52_0 (And.intro @fa52_1 @bz39)))) (And.intro (And.intro (And.intro @al39 (And.intro @bz103 @fa39_0)) (And.intro @fa39_1 (And.intro @fa39_2 @fa103_0))) (And.intro (And.intro @fa103_1 (And.intro @fa103_2 @fa103_3)) (And.intro @fa49_0 (And.intro @fa49_1 @fa49_2)))))))
theorem bin_cteq {a : Option Addr} : binV Try.prog .eql 75 (.pointer a) (.pointer none) = some (.bool a.isNone) := by
  cases a <;> simp only [binV, eqCell, Try.underlying75] <;> rfl
theorem wtc : WTy Try.prog 5 23 := ⟨Try.underlying23, Try.underlying5, ts5, tz5, tb5⟩
/-- An answer. -/
structure Ans where
  e : Int
  q : Int
  s : List Int
abbrev ansV (e r : Int) (v : Value) : Value := .agg #[.int .i64 e, .int .i64 r, v]
def AnsC (m : Mem) (a : Ans) (c : List Value) : Prop := ∃ w, c = [.int .i64 a.e, .int .i64 a.q, w] ∧ FRow m w 1 a.s.length (byteCells a.s)
theorem AnsC.pz {m m' : Mem} (hp : Pz m m') (a : Ans) (c : List Value) (h : AnsC m a c) : AnsC m' a c := by
  obtain ⟨v, h1, h2⟩ := h
  exact ⟨v, h1, h2.pz hp⟩
theorem AnsC.len {m : Mem} (a : Ans) (c : List Value) (h : AnsC m a c) : c.length = 3 := by
  obtain ⟨v, h1, h2⟩ := h
  rw [h1]; rfl
def alikeB (a b : Ans) : Bool := decide (a.e = b.e) && (decide (a.q = b.q) && decide (strOf a.s = strOf b.s))
theorem bldT (h : Int) : opBuild Try.prog 103 [(0, .int .u8 h)] = some (.agg #[.int .u8 h, .int .i64 0, .slice none 0 0, .slice none 0 0, .slice none 0 0]) := by kernel_rfl
theorem bldA (e q : Int) (a : Option Addr) (n z : Nat) : opBuild Try.prog 39 [(0, .int .i64 e), (1, .int .i64 q), (2, .slice a n z)] = some (ansV e q (.slice a n z)) := by kernel_rfl
theorem bldV (k : Int) (a : Option Addr) (n z : Nat) : opBuild Try.prog 52 [(0, .int .i64 k), (1, .slice a n z)] = some (viewV k (.slice a n z)) := by kernel_rfl
theorem bldE (e : Int) : opBuild Try.prog 39 [(0, .int .i64 e)] = some (ansV e 0 (.slice none 0 0)) := by kernel_rfl
theorem no_ints (m : Mem) : opBuildSlice Try.prog 25 0 [] m = some (.slice (some ⟨m.next, 0, none⟩) 0 1, m.new (.cells [] 3 true)) := by kernel_rfl
theorem one_int (m : Mem) (n : Int) : opBuildSlice Try.prog 25 1 [(0, .int .i64 n)] m = some (.slice (some ⟨m.next, 0, none⟩) 1 1, m.new (.cells [.int .i64 n] 3 true)) := by kernel_rfl
theorem no_bytes (m : Mem) : opBuildSlice Try.prog 23 0 [] m = some (.slice (some ⟨m.next, 0, none⟩) 0 1, m.new (.cells [] 5 true)) := by kernel_rfl
theorem one_ans (m : Mem) (e q : Int) (a : Option Addr) (n z : Nat) : opBuildSlice Try.prog 101 1 [(0, .agg #[.int .i64 e, .int .i64 q, .slice a n z])] m = some (.slice (some ⟨m.next, 0, none⟩) 1 3, m.new (.cells [.int .i64 e, .int .i64 q, .slice a n z] 39 true)) := by kernel_rfl
/-- Whether two answers are alike. -/
theorem alike_ret {m : Mem} {a b : Ans} {v w : Value} (h1 : FRow m v 1 a.s.length (byteCells a.s)) (h2 : FRow m w 1 b.s.length (byteCells b.s)) {K : Value → Mem → Prop} (hK : ∀ m', Ext m m' → K (.bool (alikeB a b)) m') : Ret Try.prog 17 [ansV a.e a.q v, ansV b.e b.q w] m K := by
  refine ret_wp [] Try.func17 rfl (by decide) (by kernel_rfl) ?_
  obtain ⟨a1, z1, rfl⟩ := h1.is
  obtain ⟨a2, z2, rfl⟩ := h2.is
  have xx := (Ext.new m (.cells [.int .i64 a.e, .int .i64 a.q, .slice a1 a.s.length z1] 39 true)).trans (Ext.new _ (.cells [.int .i64 b.e, .int .i64 b.q, .slice a2 b.s.length z2] 39 true))
  have c1 := conv_string (P := Try.prog) Try.underlying23 Try.underlying5 Try.underlying9 (h1.pz xx.pz).shows
  have c2 := conv_string (P := Try.prog) Try.underlying23 Try.underlying5 Try.underlying9 (h2.pz xx.pz).shows
  unfold alikeB at hK
  cases d1 : decide (a.e = b.e) with
  | false =>
    rw [d1] at hK
    simp only [Nat.reduceAdd, reduceIte, Nat.reduceEqDiff, reduceCtorEq, opLen, Int.reduceLT, Int.reduceEq, opIndexAddr, opLoad, Nat.reduceLT, undef, Nat.reduceLeDiff, Array.toList, bin_cteq, bldT, bldA, bldV, no_ints, one_int, no_bytes, one_ans, wk4, wk5, wk0, fxC22o, d1]
    exact hK _ xx
  | true =>
    cases d2 : decide (a.q = b.q) with
    | false =>
      rw [d1, d2] at hK
      simp only [Nat.reduceAdd, reduceIte, Nat.reduceEqDiff, reduceCtorEq, opLen, Int.reduceLT, Int.reduceEq, opIndexAddr, opLoad, Nat.reduceLT, undef, Nat.reduceLeDiff, Array.toList, bin_cteq, bldT, bldA, bldV, no_ints, one_int, no_bytes, one_ans, wk4, wk5, wk0, fxC22o, d1, d2]
      exact hK _ xx
    | true =>
      rw [d1, d2] at hK
      simp only [Nat.reduceAdd, reduceIte, Nat.reduceEqDiff, reduceCtorEq, opLen, Int.reduceLT, Int.reduceEq, opIndexAddr, opLoad, Nat.reduceLT, undef, Nat.reduceLeDiff, Array.toList, bin_cteq, bldT, bldA, bldV, no_ints, one_int, no_bytes, one_ans, wk4, wk5, wk0, fxC22o, d1, d2, c1, c2]
      exact hK _ xx
/-- A table, as it is meant. -/
structure Tc where
  how : Int
  vn : Int
  mem : List Int
  nodes : List Int
  ans : List Ans
structure TcIs (m : Mem) (k i : Nat) (C : Tc) (mv nv av : Value) (rn ra : Nat) (cs : List Value) : Prop where
  gi : m.get i = some (.cells [.int .u8 C.how, .int .i64 C.vn, mv, nv, av] 103 true)
  fm : FRow m mv 1 C.mem.length (ints C.mem)
  on : OwnI rn 3 1 m nv C.nodes.length (ints C.nodes)
  oa : OwnI ra 39 3 m av C.ans.length cs
  rows : RowsOf (AnsC m) C.ans cs
  len : C.nodes.length = C.ans.length
  li : k ≤ i ∧ i < m.next
  ln : k ≤ rn
  la : k ≤ ra
  ni : rn ≠ i
  ai : ra ≠ i
theorem TcIs.keep {m m' : Mem} {k i : Nat} {C : Tc} {mv nv av : Value} {rn ra : Nat} {cs : List Value} (H : TcIs m k i C mv nv av rn ra cs) (z : Pz m m') (hi : m'.get i = m.get i) (hn : rn < m.next → m'.get rn = m.get rn) (ha : ra < m.next → m'.get ra = m.get ra) : TcIs m' k i C mv nv av rn ra cs := by
  obtain ⟨h1, h2, h3, h4, h5, h6, h7, h8, h9, h10, h11⟩ := H
  have := z.1
  exact ⟨hi.trans h1, h2.pz z, h3.keep this hn, h4.keep this ha, h5.mono (AnsC.pz z), h6, by omega, h8, h9, h10, h11⟩
def TcAt (m : Mem) (k i : Nat) (C : Tc) : Prop := ∃ mv nv av rn ra cs, TcIs m k i C mv nv av rn ra cs
theorem TcIs.ext {m m' : Mem} {k i : Nat} {C : Tc} {mv nv av : Value} {rn ra : Nat} {cs : List Value} (H : TcIs m k i C mv nv av rn ra cs) (x : Ext m m') : TcIs m' k i C mv nv av rn ra cs := H.keep x.pz (x.2 i H.li.2) (x.2 rn) (x.2 ra)
theorem TcAt.ext {m m' : Mem} {k i : Nat} {C : Tc} (H : TcAt m k i C) (x : Ext m m') : TcAt m' k i C := by
  obtain ⟨mv, nv, av, rn, ra, cs, H⟩ := H
  exact ⟨mv, nv, av, rn, ra, cs, H.ext x⟩
theorem cnew_ret {m : Mem} {h : Int} {K : Value → Mem → Prop} (hK : ∀ m', TcAt m' m.next m.next ⟨h, 0, [], [], []⟩ → Ext m m' → K (.pointer (some ⟨m.next, 0, none⟩)) m') : Ret Try.prog 18 [.int .u8 h] m K := by
  refine ret_wp [] Try.func18 rfl (by decide) (by kernel_rfl) ?_
  simp only [Nat.reduceAdd, reduceIte, Nat.reduceEqDiff, reduceCtorEq, opLen, Int.reduceLT, Int.reduceEq, opConvert, opIndexAddr, opLoad, Nat.reduceLT, undef, Nat.reduceLeDiff, Array.toList, bin_cteq, bldT, bldA, bldV, no_ints, one_int, no_bytes, one_ans, wk4, wk5, wk0, fxC22o]
  exact hK _ ⟨.slice none 0 0, .slice none 0 0, .slice none 0 0, m.next + 1, m.next + 1, [], new_get _ _, FRow.nil, OwnI.nil, OwnI.nil, rfl, rfl, ⟨Nat.le_refl _, Nat.lt_succ_self _⟩, by omega, by omega, by omega, by omega⟩ (Ext.new _ _)
theorem among_ret {m : Mem} {v : Value} {l : List Int} {x : Int} (h : RdI m v l) (hl : l.length < 2 ^ 40) {K : Value → Mem → Prop} (hK : K (.bool (decide (x ∈ l))) m) : Ret Try.prog 33 [v, .int .i64 x] m K := by
  refine ret_wp [] Try.func33 rfl (by decide) (by kernel_rfl) ?_
  have ll := h.len
  simp only [Nat.reduceAdd, reduceIte, Nat.reduceEqDiff, reduceCtorEq, Int.reduceLT, Int.reduceEq, opConvert, opIndexAddr, opLoad, Nat.reduceLT, undef, Nat.reduceLeDiff, Array.toList, bin_cteq, bldT, bldA, bldV, no_ints, one_int, no_bytes, one_ans, wk4, wk5, wk0, fxC22o, ll]
  refine loop_wp [] (by kernel_rfl) (fun k env μ => ∃ j : Nat, k + j = l.length ∧ x ∉ l.take j ∧ μ = m ∧ env 1 = some (.int .i64 x) ∧ env 7 = some v ∧ env 8 = some (.int .i64 l.length) ∧ env 9 = some (.int .i64 j)) ?_ l.length ⟨0, rfl, by simp, rfl, rfl, rfl, rfl, rfl⟩
  rintro k env μ ⟨j, hk, hx, rfl, e1, e7, e8, e9⟩
  simp only [Nat.reduceAdd, reduceIte, Nat.reduceEqDiff, reduceCtorEq, opLen, Int.reduceLT, Int.reduceEq, opConvert, opIndexAddr, opLoad, Nat.reduceLT, undef, Nat.reduceLeDiff, Array.toList, bin_cteq, bldT, bldA, bldV, no_ints, one_int, no_bytes, one_ans, wk4, wk5, wk0, fxC22o, e8, e9]
  refine cond_by (fun hlt => ?_) (fun hge => ?_)
  · have hj : j < l.length := by omega
    obtain ⟨p, h1, h2⟩ := h.at hj
    simp only [Nat.reduceAdd, reduceIte, Nat.reduceEqDiff, reduceCtorEq, opLen, Int.reduceLT, Int.reduceEq, opConvert, Nat.reduceLT, undef, Nat.reduceLeDiff, Array.toList, bin_cteq, bldT, bldA, bldV, no_ints, one_int, no_bytes, one_ans, wk4, wk5, wk0, fxC22o, e1, e7, e8, e9, h1, h2]
    refine cond_by (fun he => ?_) (fun he => ?_)
    · rw [decide_eq_true (show x ∈ l by rw [he]; exact List.getElem_mem _)] at hK
      simp only [Nat.reduceAdd, reduceIte, Nat.reduceEqDiff, reduceCtorEq, opLen, Int.reduceLT, Int.reduceEq, opConvert, opIndexAddr, opLoad, Nat.reduceLT, undef, Nat.reduceLeDiff, Array.toList, bin_cteq, bldT, bldA, bldV, no_ints, one_int, no_bytes, one_ans, wk4, wk5, wk0, fxC22o]
      exact hK
    · simp only [Nat.reduceAdd, reduceIte, Nat.reduceEqDiff, reduceCtorEq, opLen, Int.reduceLT, Int.reduceEq, opConvert, opIndexAddr, opLoad, Nat.reduceLT, undef, Nat.reduceLeDiff, Array.toList, bin_cteq, bldT, bldA, bldV, no_ints, one_int, no_bytes, one_ans, wk4, wk5, wk0, fxC22o, e1, e7, e8, e9]
      refine ⟨k - 1, by omega, j + 1, by omega, not_mem_take_succ hj hx he, ?_⟩
      rw [wrap_i64 (by omega) (by omega)]; rfl
  · have hj : j = l.length := by omega
    subst hj
    rw [List.take_length] at hx
    rw [decide_eq_false hx] at hK
    simp only [Nat.reduceAdd, reduceIte, Nat.reduceEqDiff, reduceCtorEq, opLen, Int.reduceLT, Int.reduceEq, opConvert, opIndexAddr, opLoad, Nat.reduceLT, undef, Nat.reduceLeDiff, Array.toList, bin_cteq, bldT, bldA, bldV, no_ints, one_int, no_bytes, one_ans, wk4, wk5, wk0, fxC22o, e8, e9]
    exact hK
/-- A reply's answer. -/
abbrev repV (e q : Int) (v : Value) : Value := .agg #[.int .u16 e, .int .u16 q, v]
theorem answer_ret {m : Mem} {e q : Int} {v : Value} {n : Nat} (he : 0 ≤ e ∧ e < 65536) (hq : 0 ≤ q ∧ q < 65536) (hv : ∃ a z, v = .slice a n z) {K : Value → Mem → Prop} (hK : ∀ m', Ext m m' → K (ansV e q v) m') : Ret Try.prog 16 [repV e q v] m K := by
  refine ret_wp [] Try.func16 rfl (by decide) (by kernel_rfl) ?_
  obtain ⟨a, z, rfl⟩ := hv
  have e1 : IntKind.i64.wrap e = e := wrap_i64 (by omega) (by omega)
  have e2 : IntKind.i64.wrap q = q := wrap_i64 (by omega) (by omega)
  simp only [Nat.reduceAdd, reduceIte, Nat.reduceEqDiff, reduceCtorEq, opLen, Int.reduceLT, Int.reduceEq, opConvert, opIndexAddr, opLoad, Nat.reduceLT, undef, Nat.reduceLeDiff, Array.toList, bin_cteq, bldT, bldA, bldV, no_ints, one_int, no_bytes, one_ans, wk4, wk5, wk0, fxC22o, e1, e2]
  exact hK _ (((Ext.new _ _).trans (Ext.new _ _)).set (by omega))
end Go.Proofs.Ytimjcfaciiimmaa
