/- A text of the abstract machine. -/

/- Views: who is in them. -/
import Derived.Test.YtimjcfaciiimmaaAmDat2
import Derived.Test.YtimjcfaciiimmaaAmMaps
import Derived.Test.YtimjcfaciiimmaaAmF22
import Derived.Test.YtimjcfaciiimmaaAmBun
set_option linter.unusedSimpArgs false
set_option linter.unusedVariables false
set_option maxRecDepth 100000
set_option maxHeartbeats 4000000
namespace Go.Proofs.Ytimjcfaciiimmaa
open Go Go.AM
theorem fxC22v : type_of% (And.intro (And.intro (And.intro (And.intro (And.intro @Try.underlying3 (And.intro @Try.underlying4 @Try.underlying5)) (And.intro @Try.underlying9 (And.intro @Try.underlying25 @Try.underlying52))) (And.intro (And.intro @Try.underlying35 (And.intro @Try.underlying107 @Try.underlying22)) (And.intro (And.intro @ts3 @ts4) (And.intro @ts5 @ts9)))) (And.intro (And.intro (And.intro @ts25 (And.intro @ts52 @ts35)) (And.intro @ts107 (And.intro @ts22 @tz3))) (And.intro (And.intro @tz4 (And.intro @tz5 @tz9)) (And.intro (And.intro @tz25 @tz52) (And.intro @tz35 @tz107))))) (And.intro (And.intro (And.intro (And.intro @tz22 (And.intro @tb3 @tb4)) (And.intro @tb5 (And.intro @tb9 @tb25))) (And.intro (And.intro @tb52 (And.intro @tb35 @tb107)) (And.intro (And.intro @tb22 @fr31) (And.intro @fr32 @fr29)))) (And.intro (And.intro (And.intro @fr42 (And.intro @fr41 @fr43)) (And.intro @fr44 (And.intro @fr45 @fr46))) (And.intro (And.intro @fr47 (And.intro @fr35 @fr36)) (And.intro (And.intro @bz52 @al52) (And.intro @fa52_0 @fa52_1)))))) := (And.intro (And.intro (And.intro (And.intro (And.intro @Try.underlying3 (And.intro @Try.underlying4 @Try.underlying5)) (And.intro @Try.underlying9 (And.intro @Try.underlying25 @Try.underlying52))) (And.intro (And.intro @Try.underlying35 (And.intro @Try.underlying107 @Try.underlying22)) (And.intro (And.intro @ts3 @ts4) (And.intro @ts5 @ts9)))) (And.intro (And.intro (And.intro @ts25 (And.intro @ts52 @ts35)) (And.intro @ts107 (And.intro @ts22 @tz3))) (And.intro (And.intro @tz4 (And.intro @tz5 @tz9)) (And.intro (And.intro @tz25 @tz52) (And.intro @tz35 @tz107))))) (And.intro (And.intro (And.intro (And.intro @tz22 (And.intro @tb3 @tb4)) (And.intro @tb5 (And.intro @tb9 @tb25))) (And.intro (And.intro @tb52 (And.intro @tb35 @tb107)) (And.intro (And.intro @tb22 @fr31) (And.intro @fr32 @fr29)))) (And.intro (And.intro (And.intro @fr42 (And.intro @fr41 @fr43)) (And.intro @fr44 (And.intro @fr45 @fr46))) (And.intro (And.intro @fr47 (And.intro @fr35 @fr36)) (And.intro (And.intro @bz52 @al52) (And.intro @fa52_0 @fa52_1))))))
abbrev ints (l : List Int) : List Value := l.map (.int .i64)
/-- Whole numbers that are read. -/
abbrev RdI (m : Mem) (v : Value) (l : List Int) : Prop := Rd m v 1 l.length (ints l)
theorem RdI.at {m : Mem} {v : Value} {l : List Int} (h : RdI m v l) {j : Nat} (hj : j < l.length) : ∃ p, opIndexAddr Try.prog 25 v (.int .i64 j) = some (.pointer (some p)) ∧ opLoad Try.prog 3 (.pointer (some p)) m = some (.int .i64 l[j]) := by
  obtain ⟨i, o, all, e', own, g1, g2, g3, g4, g5, g6⟩ := Rd.at (P := Try.prog) h Try.underlying25 ts3 hj
  refine ⟨_, g1, load_cell g3 (by simp only [aggOf, Try.underlying3]) ?_⟩
  have := g6 0 (by decide)
  rw [Nat.add_zero, Nat.mul_one, Nat.add_zero] at this
  rw [this, List.getElem?_map, List.getElem?_eq_getElem hj]
  rfl
theorem RdI.is {m : Mem} {v : Value} {l : List Int} (h : RdI m v l) : ∃ a q, v = .slice a l.length q := by
  obtain ⟨_, a, q, h, _⟩ := h
  exact ⟨a, q, h⟩
theorem RdI.len {m : Mem} {v : Value} {l : List Int} (h : RdI m v l) : opLen Try.prog (some 25) v = some (.int .i64 l.length) := Rd.len h Try.underlying25
theorem not_mem_take_succ {l : List Int} {x : Int} {j : Nat} (hj : j < l.length) (h : x ∉ l.take j) (hx : ¬ x = l[j]) : x ∉ l.take (j + 1) := by
  rw [List.take_succ_eq_append_getElem hj]
  simp only [List.mem_append, List.mem_singleton]
  exact fun h' => h'.elim h hx
def idxI (l : List Int) (x : Int) : Int := if x ∈ l then (l.idxOf x : Nat) else -1
theorem idx_take {l : List Int} {x : Int} {j : Nat} (hj : j < l.length) (h : x ∉ l.take j) (hx : x = l[j]) : idxI l x = j := by
  have hm : x ∈ l := by rw [hx]; exact List.getElem_mem _
  rw [idxI, if_pos hm]
  have e : l = l.take j ++ l.drop j := (List.take_append_drop _ _).symm
  have : l.idxOf x = j := by
    rw [e, List.idxOf_append, if_neg h, List.drop_eq_getElem_cons hj, hx, List.idxOf_cons_self, List.length_take]
    omega
  rw [this]
theorem index_ret {m : Mem} {v : Value} {l : List Int} {x : Int} (h : RdI m v l) (hl : l.length < 2 ^ 40) {K : Value → Mem → Prop} (hK : K (.int .i64 (idxI l x)) m) : Ret Try.prog 46 [v, .int .i64 x] m K := by
  refine ret_wp [] Try.func46 rfl (by decide) (by kernel_rfl) ?_
  have ll := h.len
  simp only [Nat.reduceAdd, reduceIte, Nat.reduceEqDiff, reduceCtorEq, Int.reduceLT, Int.reduceEq, opConvert, opIndexAddr, opLoad, Nat.reduceLT, undef, Nat.reduceLeDiff, Array.toList, wk4, wk5, wk0, fxC22v, ll]
  refine loop_wp [] (by kernel_rfl) (fun k env μ => ∃ j : Nat, k + j = l.length ∧ x ∉ l.take j ∧ μ = m ∧ env 0 = some v ∧ env 1 = some (.int .i64 x) ∧ env 7 = some (.int .i64 l.length) ∧ env 8 = some (.int .i64 j)) ?_ l.length ⟨0, rfl, by simp, rfl, rfl, rfl, rfl, rfl⟩
  rintro k env μ ⟨j, hk, hx, rfl, e0, e1, e7, e8⟩
  simp only [Nat.reduceAdd, reduceIte, Nat.reduceEqDiff, reduceCtorEq, opLen, Int.reduceLT, Int.reduceEq, opConvert, opIndexAddr, opLoad, Nat.reduceLT, undef, Nat.reduceLeDiff, Array.toList, wk4, wk5, wk0, fxC22v, e7, e8]
  refine cond_by (fun hlt => ?_) (fun hge => ?_)
  · have hj : j < l.length := by omega
    obtain ⟨p, h1, h2⟩ := h.at hj
    simp only [Nat.reduceAdd, reduceIte, Nat.reduceEqDiff, reduceCtorEq, opLen, Int.reduceLT, Int.reduceEq, opConvert, Nat.reduceLT, undef, Nat.reduceLeDiff, Array.toList, wk4, wk5, wk0, fxC22v, e0, e1, e7, e8, h1, h2]
    refine cond_by (fun he => ?_) (fun he => ?_)
    · simp only [Nat.reduceAdd, reduceIte, Nat.reduceEqDiff, reduceCtorEq, opLen, Int.reduceLT, Int.reduceEq, opConvert, opIndexAddr, opLoad, Nat.reduceLT, undef, Nat.reduceLeDiff, Array.toList, wk4, wk5, wk0, fxC22v, e0, e1, e7, e8]
      rw [← idx_take hj hx he]
      exact hK
    · simp only [Nat.reduceAdd, reduceIte, Nat.reduceEqDiff, reduceCtorEq, opLen, Int.reduceLT, Int.reduceEq, opConvert, opIndexAddr, opLoad, Nat.reduceLT, undef, Nat.reduceLeDiff, Array.toList, wk4, wk5, wk0, fxC22v, e0, e1, e7, e8]
      refine ⟨k - 1, by omega, j + 1, by omega, not_mem_take_succ hj hx he, ?_⟩
      rw [wrap_i64 (by omega) (by omega)]; rfl
  · have hj : j = l.length := by omega
    subst hj
    rw [List.take_length] at hx
    simp only [Nat.reduceAdd, reduceIte, Nat.reduceEqDiff, reduceCtorEq, opLen, Int.reduceLT, Int.reduceEq, opConvert, opIndexAddr, opLoad, Nat.reduceLT, undef, Nat.reduceLeDiff, Array.toList, wk4, wk5, wk0, fxC22v, e7, e8]
    have : idxI l x = -1 := by rw [idxI, if_neg hx]
    rw [← this]
    exact hK
theorem idx_ge (l : List Int) (x : Int) : decide (0 ≤ idxI l x) = decide (x ∈ l) := by
  unfold idxI
  split
  · rename_i h; simp [h]
  · rename_i h; simp [h]
theorem contains_ret {m : Mem} {v : Value} {l : List Int} {x : Int} (h : RdI m v l) (hl : l.length < 2 ^ 40) {K : Value → Mem → Prop} (hK : K (.bool (decide (x ∈ l))) m) : Ret Try.prog 43 [v, .int .i64 x] m K := by
  refine ret_wp [] Try.func43 rfl (by decide) (by kernel_rfl) ?_
  simp only [Nat.reduceAdd, reduceIte, Nat.reduceEqDiff, reduceCtorEq, opLen, Int.reduceLT, Int.reduceEq, opConvert, opIndexAddr, opLoad, Nat.reduceLT, undef, Nat.reduceLeDiff, Array.toList, wk4, wk5, wk0, fxC22v]
  refine index_ret h hl ?_
  simp only [Nat.reduceAdd, reduceIte, Nat.reduceEqDiff, reduceCtorEq, opLen, Int.reduceLT, Int.reduceEq, opConvert, opIndexAddr, opLoad, Nat.reduceLT, undef, Nat.reduceLeDiff, Array.toList, wk4, wk5, wk0, fxC22v, idx_ge]
  exact hK
abbrev viewV (n : Int) (v : Value) : Value := .agg #[.int .i64 n, v]
theorem has_ret {m : Mem} {v : Value} {l : List Int} {n x : Int} (h : RdI m v l) (hl : l.length < 2 ^ 40) {K : Value → Mem → Prop} (hK : ∀ m', Ext m m' → K (.bool (decide (x ∈ l))) m') : Ret Try.prog 32 [viewV n v, .int .i64 x] m K := by
  refine ret_wp [] Try.func32 rfl (by decide) (by kernel_rfl) ?_
  simp only [Nat.reduceAdd, reduceIte, Nat.reduceEqDiff, reduceCtorEq, opLen, Int.reduceLT, Int.reduceEq, opConvert, opIndexAddr, opLoad, Nat.reduceLT, undef, Nat.reduceLeDiff, Array.toList, wk4, wk5, wk0, fxC22v]
  refine contains_ret (h.ext (Ext.new _ _)) hl ?_
  simp only [Nat.reduceAdd, reduceIte, Nat.reduceEqDiff, reduceCtorEq, opLen, Int.reduceLT, Int.reduceEq, opConvert, opIndexAddr, opLoad, Nat.reduceLT, undef, Nat.reduceLeDiff, Array.toList, wk4, wk5, wk0, fxC22v]
  exact hK _ (Ext.new _ _)
/-- Whether nodes may be members. -/
def riseAt (l : List Int) (j : Nat) : Bool := decide (0 ≤ l.getD j 0) && decide (l.getD j 0 < 16) && (decide (j = 0) || decide (l.getD (j - 1) 0 < l.getD j 0))
def memCk (l : List Int) : Int := if l.length < 1 ∨ 16 < l.length then 7 else if (List.range l.length).all (riseAt l) then 0 else 2
theorem all_range_succ {f : Nat → Bool} {j : Nat} : (List.range (j + 1)).all f = ((List.range j).all f && f j) := by
  rw [List.range_succ, List.all_append]; simp
theorem all_range_bad {f : Nat → Bool} {j n : Nat} (hj : j < n) (h : f j = false) : (List.range n).all f = false := by
  rw [List.all_eq_false]
  exact ⟨j, List.mem_range.2 hj, by rw [h]; decide⟩
theorem getD_at {l : List Int} {j : Nat} (hj : j < l.length) : l.getD j 0 = l[j] := by
  rw [List.getD_eq_getElem?_getD, List.getElem?_eq_getElem hj]; rfl
theorem members_ret {m : Mem} {v : Value} {l : List Int} (h : RdI m v l) (hl : l.length < 2 ^ 40) {K : Value → Mem → Prop} (hK : K (.int .i64 (memCk l)) m) : Ret Try.prog 42 [v] m K := by
  refine ret_wp [] Try.func42 rfl (by decide) (by kernel_rfl) ?_
  have ll := h.len
  by_cases c1 : (l.length : Int) < 1
  · have : memCk l = 7 := by rw [memCk, if_pos (by omega)]
    rw [this] at hK
    simp only [Nat.reduceAdd, reduceIte, Nat.reduceEqDiff, reduceCtorEq, Int.reduceLT, Int.reduceEq, opConvert, opIndexAddr, opLoad, Nat.reduceLT, undef, Nat.reduceLeDiff, Array.toList, wk4, wk5, wk0, fxC22v, ll, c1]
    exact hK
  by_cases c2 : 16 < (l.length : Int)
  · have : memCk l = 7 := by rw [memCk, if_pos (by omega)]
    rw [this] at hK
    simp only [Nat.reduceAdd, reduceIte, Nat.reduceEqDiff, reduceCtorEq, Int.reduceLT, Int.reduceEq, opConvert, opIndexAddr, opLoad, Nat.reduceLT, undef, Nat.reduceLeDiff, Array.toList, wk4, wk5, wk0, fxC22v, ll, c1, c2]
    exact hK
  simp only [Nat.reduceAdd, reduceIte, Nat.reduceEqDiff, reduceCtorEq, Int.reduceLT, Int.reduceEq, opConvert, opIndexAddr, opLoad, Nat.reduceLT, undef, Nat.reduceLeDiff, Array.toList, wk4, wk5, wk0, fxC22v, ll, c1, c2]
  have e0 : memCk l = if (List.range l.length).all (riseAt l) then 0 else 2 := by rw [memCk, if_neg (by omega)]
  refine loop_wp [] (by kernel_rfl) (fun k env μ => ∃ j : Nat, k + j = l.length ∧ (List.range j).all (riseAt l) = true ∧ μ = m ∧ env 0 = some v ∧ env 13 = some v ∧ env 14 = some (.int .i64 l.length) ∧ env 15 = some (.int .i64 j)) ?_ l.length ⟨0, rfl, rfl, rfl, rfl, rfl, rfl, rfl⟩
  rintro k env μ ⟨j, hk, hx, rfl, f0, f13, f14, f15⟩
  simp only [Nat.reduceAdd, reduceIte, Nat.reduceEqDiff, reduceCtorEq, opLen, Int.reduceLT, Int.reduceEq, opConvert, opIndexAddr, opLoad, Nat.reduceLT, undef, Nat.reduceLeDiff, Array.toList, wk4, wk5, wk0, fxC22v, f14, f15]
  refine cond_by (fun hlt => ?_) (fun hge => ?_)
  · have hj : j < l.length := by omega
    obtain ⟨p, h1, h2⟩ := h.at hj
    have bad : riseAt l j = false → K (.int .i64 2) μ := fun hb => by
      rw [e0, all_range_bad hj hb] at hK
      exact hK
    have good : riseAt l j = true → (List.range (j + 1)).all (riseAt l) = true := fun hg => by rw [all_range_succ, hx, hg]; rfl
    by_cases d1 : l[j] < 0
    · simp only [Nat.reduceAdd, reduceIte, Nat.reduceEqDiff, reduceCtorEq, opLen, Int.reduceLT, Int.reduceEq, opConvert, Nat.reduceLT, undef, Nat.reduceLeDiff, Array.toList, wk4, wk5, wk0, fxC22v, f0, f13, f14, f15, h1, h2, d1]
      exact bad (by unfold riseAt; rw [getD_at hj, decide_eq_false (by omega)]; rfl)
    by_cases d2 : 16 ≤ l[j]
    · simp only [Nat.reduceAdd, reduceIte, Nat.reduceEqDiff, reduceCtorEq, opLen, Int.reduceLT, Int.reduceEq, opConvert, Nat.reduceLT, undef, Nat.reduceLeDiff, Array.toList, wk4, wk5, wk0, fxC22v, f0, f13, f14, f15, h1, h2, d1, d2]
      exact bad (by unfold riseAt; rw [getD_at hj, decide_eq_false (p := l[j] < 16) (by omega), Bool.and_false, Bool.false_and])
    by_cases d3 : 0 < (j : Int)
    · have hj1 : j - 1 < l.length := by omega
      obtain ⟨p', h3, h4⟩ := h.at hj1
      have w1 : IntKind.i64.wrap ((j : Int) - 1) = ((j - 1 : Nat) : Int) := by rw [wrap_i64 (by omega) (by omega)]; omega
      by_cases d4 : l[j] ≤ l[j - 1]
      · simp only [Nat.reduceAdd, reduceIte, Nat.reduceEqDiff, reduceCtorEq, opLen, Int.reduceLT, Int.reduceEq, opConvert, Nat.reduceLT, undef, Nat.reduceLeDiff, Array.toList, wk4, wk5, wk0, fxC22v, f0, f13, f14, f15, h1, h2, d1, d2, d3, w1, h3, h4, d4]
        exact bad (by unfold riseAt; rw [getD_at hj, getD_at hj1, decide_eq_false (p := j = 0) (by omega), decide_eq_false (p := l[j - 1] < l[j]) (by omega), Bool.or_false, Bool.and_false])
      · simp only [Nat.reduceAdd, reduceIte, Nat.reduceEqDiff, reduceCtorEq, opLen, Int.reduceLT, Int.reduceEq, opConvert, Nat.reduceLT, undef, Nat.reduceLeDiff, Array.toList, wk4, wk5, wk0, fxC22v, f0, f13, f14, f15, h1, h2, d1, d2, d3, w1, h3, h4, d4]
        refine ⟨k - 1, by omega, j + 1, by omega, good ?_, ?_⟩
        · unfold riseAt
          rw [getD_at hj, getD_at hj1, decide_eq_true (p := 0 ≤ l[j]) (by omega), decide_eq_true (p := l[j] < 16) (by omega), decide_eq_true (p := l[j - 1] < l[j]) (by omega)]
          simp
        · rw [wrap_i64 (by omega) (by omega)]; rfl
    · simp only [Nat.reduceAdd, reduceIte, Nat.reduceEqDiff, reduceCtorEq, opLen, Int.reduceLT, Int.reduceEq, opConvert, Nat.reduceLT, undef, Nat.reduceLeDiff, Array.toList, wk4, wk5, wk0, fxC22v, f0, f13, f14, f15, h1, h2, d1, d2, d3]
      refine ⟨k - 1, by omega, j + 1, by omega, good ?_, ?_⟩
      · unfold riseAt
        rw [getD_at hj, decide_eq_true (p := 0 ≤ l[j]) (by omega), decide_eq_true (p := l[j] < 16) (by omega), decide_eq_true (p := j = 0) (by omega)]
        simp
      · rw [wrap_i64 (by omega) (by omega)]; rfl
  · obtain rfl : j = l.length := by omega
    rw [e0, hx, if_pos rfl] at hK
    simp only [Nat.reduceAdd, reduceIte, Nat.reduceEqDiff, reduceCtorEq, opLen, Int.reduceLT, Int.reduceEq, opConvert, opIndexAddr, opLoad, Nat.reduceLT, undef, Nat.reduceLeDiff, Array.toList, wk4, wk5, wk0, fxC22v, f14, f15]
    exact hK
def viewCk (n : Int) (l : List Int) : Int := if n < 0 then 2 else memCk l
theorem vcheck_ret {m : Mem} {v : Value} {l : List Int} {n : Int} (h : RdI m v l) (hl : l.length < 2 ^ 40) {K : Value → Mem → Prop} (hK : ∀ m', Ext m m' → K (.int .i64 (viewCk n l)) m') : Ret Try.prog 31 [viewV n v] m K := by
  refine ret_wp [] Try.func31 rfl (by decide) (by kernel_rfl) ?_
  by_cases c : n < 0
  · have : viewCk n l = 2 := by rw [viewCk, if_pos c]
    rw [this] at hK
    simp only [Nat.reduceAdd, reduceIte, Nat.reduceEqDiff, reduceCtorEq, opLen, Int.reduceLT, Int.reduceEq, opConvert, opIndexAddr, opLoad, Nat.reduceLT, undef, Nat.reduceLeDiff, Array.toList, wk4, wk5, wk0, fxC22v, c]
    exact hK _ (Ext.new _ _)
  · have : viewCk n l = memCk l := by rw [viewCk, if_neg c]
    rw [this] at hK
    simp only [Nat.reduceAdd, reduceIte, Nat.reduceEqDiff, reduceCtorEq, opLen, Int.reduceLT, Int.reduceEq, opConvert, opIndexAddr, opLoad, Nat.reduceLT, undef, Nat.reduceLeDiff, Array.toList, wk4, wk5, wk0, fxC22v, c]
    refine members_ret (h.ext (Ext.new _ _)) hl ?_
    simp only [Nat.reduceAdd, reduceIte, Nat.reduceEqDiff, reduceCtorEq, opLen, Int.reduceLT, Int.reduceEq, opConvert, opIndexAddr, opLoad, Nat.reduceLT, undef, Nat.reduceLeDiff, Array.toList, wk4, wk5, wk0, fxC22v]
    exact hK _ (Ext.new _ _)
theorem equal_ret {m : Mem} {v w : Value} {l k : List Int} (h : RdI m v l) (g : RdI m w k) (hl : l.length < 2 ^ 40) {K : Value → Mem → Prop} (hK : K (.bool (decide (l = k))) m) : Ret Try.prog 41 [v, w] m K := by
  refine ret_wp [] Try.func41 rfl (by decide) (by kernel_rfl) ?_
  have ll := h.len
  have lk := g.len
  by_cases c : (l.length : Int) = k.length
  · have c' : l.length = k.length := by omega
    simp only [Nat.reduceAdd, reduceIte, Nat.reduceEqDiff, reduceCtorEq, Int.reduceLT, Int.reduceEq, opConvert, opIndexAddr, opLoad, Nat.reduceLT, undef, Nat.reduceLeDiff, Array.toList, wk4, wk5, wk0, fxC22v, ll, lk, c]
    refine loop_wp [] (by kernel_rfl) (fun q env μ => ∃ j : Nat, q + j = k.length ∧ l.take j = k.take j ∧ μ = m ∧ env 0 = some v ∧ env 1 = some w ∧ env 12 = some (.int .i64 k.length) ∧ env 13 = some (.int .i64 j)) ?_ k.length ⟨0, rfl, rfl, rfl, rfl, rfl, rfl, rfl⟩
    rintro q env μ ⟨j, hk, hx, rfl, e0, e1, e12, e13⟩
    simp only [Nat.reduceAdd, reduceIte, Nat.reduceEqDiff, reduceCtorEq, opLen, Int.reduceLT, Int.reduceEq, opConvert, opIndexAddr, opLoad, Nat.reduceLT, undef, Nat.reduceLeDiff, Array.toList, wk4, wk5, wk0, fxC22v, e12, e13]
    refine cond_by (fun hlt => ?_) (fun hge => ?_)
    · have hj : j < l.length := by omega
      have hj' : j < k.length := by omega
      obtain ⟨p, h1, h2⟩ := h.at hj
      obtain ⟨p', h3, h4⟩ := g.at hj'
      by_cases d : l[j] = k[j]
      · simp only [Nat.reduceAdd, reduceIte, Nat.reduceEqDiff, reduceCtorEq, opLen, Int.reduceLT, Int.reduceEq, opConvert, Nat.reduceLT, undef, Nat.reduceLeDiff, Array.toList, wk4, wk5, wk0, fxC22v, e0, e1, e12, e13, h1, h2, h3, h4, d]
        refine ⟨q - 1, by omega, j + 1, by omega, ?_, ?_⟩
        · rw [List.take_succ_eq_append_getElem hj, List.take_succ_eq_append_getElem hj', hx, d]
        · rw [wrap_i64 (by omega) (by omega)]; rfl
      · have : decide (l = k) = false := decide_eq_false fun e => d (by subst e; rfl)
        rw [this] at hK
        simp only [Nat.reduceAdd, reduceIte, Nat.reduceEqDiff, reduceCtorEq, opLen, Int.reduceLT, Int.reduceEq, opConvert, Nat.reduceLT, undef, Nat.reduceLeDiff, Array.toList, wk4, wk5, wk0, fxC22v, e0, e1, e12, e13, h1, h2, h3, h4, d]
        exact hK
    · obtain rfl : j = k.length := by omega
      rw [List.take_length, ← c', List.take_length] at hx
      rw [decide_eq_true hx] at hK
      simp only [Nat.reduceAdd, reduceIte, Nat.reduceEqDiff, reduceCtorEq, opLen, Int.reduceLT, Int.reduceEq, opConvert, opIndexAddr, opLoad, Nat.reduceLT, undef, Nat.reduceLeDiff, Array.toList, wk4, wk5, wk0, fxC22v, e12, e13]
      exact hK
  · have : decide (l = k) = false := decide_eq_false fun e => c (by rw [e])
    rw [this] at hK
    simp only [Nat.reduceAdd, reduceIte, Nat.reduceEqDiff, reduceCtorEq, Int.reduceLT, Int.reduceEq, opConvert, opIndexAddr, opLoad, Nat.reduceLT, undef, Nat.reduceLeDiff, Array.toList, wk4, wk5, wk0, fxC22v, ll, lk, c]
    exact hK
theorem vsame_ret {m : Mem} {v w : Value} {l k : List Int} {n n' : Int} (h : RdI m v l) (g : RdI m w k) (hl : l.length < 2 ^ 40) {K : Value → Mem → Prop} (hK : ∀ m', Ext m m' → K (.bool (decide (n = n') && decide (l = k))) m') : Ret Try.prog 29 [viewV n v, viewV n' w] m K := by
  refine ret_wp [] Try.func29 rfl (by decide) (by kernel_rfl) ?_
  have xx := (Ext.new m (.cells [.int .i64 n, v] 52 true)).trans (Ext.new _ (.cells [.int .i64 n', w] 52 true))
  cases d : decide (n = n') with
  | false =>
    rw [d] at hK
    simp only [Nat.reduceAdd, reduceIte, Nat.reduceEqDiff, reduceCtorEq, opLen, Int.reduceLT, Int.reduceEq, opConvert, opIndexAddr, opLoad, Nat.reduceLT, undef, Nat.reduceLeDiff, Array.toList, wk4, wk5, wk0, fxC22v, d]
    exact hK _ xx
  | true =>
    rw [d, Bool.true_and] at hK
    simp only [Nat.reduceAdd, reduceIte, Nat.reduceEqDiff, reduceCtorEq, opLen, Int.reduceLT, Int.reduceEq, opConvert, opIndexAddr, opLoad, Nat.reduceLT, undef, Nat.reduceLeDiff, Array.toList, wk4, wk5, wk0, fxC22v, d]
    refine equal_ret (h.ext xx) (g.ext xx) hl ?_
    simp only [Nat.reduceAdd, reduceIte, Nat.reduceEqDiff, reduceCtorEq, opLen, Int.reduceLT, Int.reduceEq, opConvert, opIndexAddr, opLoad, Nat.reduceLT, undef, Nat.reduceLeDiff, Array.toList, wk4, wk5, wk0, fxC22v]
    exact hK _ xx
/-- Of members, how many are among some nodes. -/
def manyIn (mem l : List Int) : Nat := mem.countP (fun x => decide (x ∈ l))
theorem manyIn_le (mem l : List Int) : manyIn mem l ≤ mem.length := List.countP_le_length
theorem most_ret {m : Mem} {v w : Value} {mem l : List Int} {n : Int} (h : RdI m v mem) (g : RdI m w l) (hl : mem.length < 2 ^ 40) (hl2 : l.length < 2 ^ 40) {K : Value → Mem → Prop} (hK : ∀ m', Ext m m' → K (.bool (decide (mem.length < 2 * manyIn mem l))) m') : Ret Try.prog 35 [viewV n v, w] m K := by
  refine ret_wp [] Try.func35 rfl (by decide) (by kernel_rfl) ?_
  have x := Ext.new m (.cells [.int .i64 n, v] 52 true)
  have h' := Rd.ext h x
  have g' := Rd.ext g x
  have g0 := new_get m (.cells [.int .i64 n, v] 52 true)
  have ll := h.len
  simp only [Nat.reduceAdd, reduceIte, Nat.reduceEqDiff, reduceCtorEq, Int.reduceLT, Int.reduceEq, opConvert, opIndexAddr, opLoad, Nat.reduceLT, undef, Nat.reduceLeDiff, Array.toList, wk4, wk5, wk0, fxC22v, ll]
  generalize m.new (.cells [.int .i64 n, v] 52 true) = m1 at x h' g' g0 ⊢
  refine loop_wp [] (by kernel_rfl) (fun q env μ => ∃ j : Nat, q + j = mem.length ∧ μ = m1 ∧ env 1 = some w ∧ env 2 = some (.pointer (some ⟨m.next, 0, none⟩)) ∧ env 5 = some (.int .i64 (manyIn (mem.take j) l : Nat)) ∧ env 9 = some v ∧ env 10 = some (.int .i64 mem.length) ∧ env 11 = some (.int .i64 j)) ?_ mem.length ⟨0, rfl, rfl, rfl, rfl, rfl, rfl, rfl, rfl⟩
  rintro q env μ ⟨j, hk, rfl, e1, e2, e5, e9, e10, e11⟩
  simp only [Nat.reduceAdd, reduceIte, Nat.reduceEqDiff, reduceCtorEq, opLen, Int.reduceLT, Int.reduceEq, opConvert, opIndexAddr, opLoad, Nat.reduceLT, undef, Nat.reduceLeDiff, Array.toList, wk4, wk5, wk0, fxC22v, e10, e11]
  have hm := manyIn_le (mem.take j) l
  rw [List.length_take] at hm
  refine cond_by (fun hlt => ?_) (fun hge => ?_)
  · have hj : j < mem.length := by omega
    obtain ⟨p, h1, h2⟩ := RdI.at h' hj
    simp only [Nat.reduceAdd, reduceIte, Nat.reduceEqDiff, reduceCtorEq, opLen, Int.reduceLT, Int.reduceEq, opConvert, Nat.reduceLT, undef, Nat.reduceLeDiff, Array.toList, wk4, wk5, wk0, fxC22v, e1, e2, e5, e9, e10, e11, h1, h2]
    refine contains_ret g' hl2 ?_
    have em : manyIn (mem.take (j + 1)) l = manyIn (mem.take j) l + if mem[j] ∈ l then 1 else 0 := by
      rw [manyIn, manyIn, List.take_succ_eq_append_getElem hj, List.countP_append]
      simp [List.countP_cons]
    by_cases d : mem[j] ∈ l
    · rw [if_pos d] at em
      have hd : decide (mem[j] ∈ l) = true := decide_eq_true d
      simp only [Nat.reduceAdd, reduceIte, Nat.reduceEqDiff, reduceCtorEq, opLen, Int.reduceLT, Int.reduceEq, opConvert, opIndexAddr, opLoad, Nat.reduceLT, undef, Nat.reduceLeDiff, Array.toList, wk4, wk5, wk0, fxC22v, hd, e1, e2, e5, e9, e10, e11]
      refine ⟨q - 1, by omega, j + 1, by omega, ?_, ?_⟩
      · rw [em, wrap_i64 (by omega) (by omega)]; rfl
      · rw [wrap_i64 (by omega) (by omega)]; rfl
    · rw [if_neg d] at em
      have hd : decide (mem[j] ∈ l) = false := decide_eq_false d
      simp only [Nat.reduceAdd, reduceIte, Nat.reduceEqDiff, reduceCtorEq, opLen, Int.reduceLT, Int.reduceEq, opConvert, opIndexAddr, opLoad, Nat.reduceLT, undef, Nat.reduceLeDiff, Array.toList, wk4, wk5, wk0, fxC22v, hd, e1, e2, e5, e9, e10, e11]
      refine ⟨q - 1, by omega, j + 1, by omega, ?_, ?_⟩
      · rw [em]; rfl
      · rw [wrap_i64 (by omega) (by omega)]; rfl
  · obtain rfl : j = mem.length := by omega
    rw [List.take_length] at e5 hm
    have w1 : IntKind.i64.wrap (2 * (manyIn mem l : Int)) = 2 * manyIn mem l := wrap_i64 (by omega) (by omega)
    have w2 : decide ((mem.length : Int) < 2 * (manyIn mem l : Int)) = decide (mem.length < 2 * manyIn mem l) := by
      rw [Bool.eq_iff_iff, decide_eq_true_eq, decide_eq_true_eq]; omega
    simp only [Nat.reduceAdd, reduceIte, Nat.reduceEqDiff, reduceCtorEq, Int.reduceLT, Int.reduceEq, opConvert, opIndexAddr, opLoad, Nat.reduceLT, undef, Nat.reduceLeDiff, Array.toList, wk4, wk5, wk0, fxC22v, ll, e1, e2, e5, e9, e10, e11, g0, w1, w2]
    exact hK _ x
/-- Whether all members are among some nodes. -/
def allIn (mem l : List Int) : Bool := mem.all (fun x => decide (x ∈ l))
theorem inner_ret {m : Mem} {c : Nat} {w : Value} {l : List Int} {x : Int} (g0 : m.get c = some (.cells [w] 25 true)) (g : RdI m w l) (hl : l.length < 2 ^ 40) {K : Value → Mem → Prop} (hK : K (.bool (!decide (x ∈ l))) m) : Ret Try.prog 45 [.int .i64 x, .pointer (some ⟨c, 0, none⟩)] m K := by
  refine ret_wp [] Try.func45 rfl (by decide) (by kernel_rfl) ?_
  simp only [Nat.reduceAdd, reduceIte, Nat.reduceEqDiff, reduceCtorEq, opLen, Int.reduceLT, Int.reduceEq, opConvert, opIndexAddr, opLoad, Nat.reduceLT, undef, Nat.reduceLeDiff, Array.toList, wk4, wk5, wk0, fxC22v, g0]
  refine contains_ret g hl ?_
  simp only [Nat.reduceAdd, reduceIte, Nat.reduceEqDiff, reduceCtorEq, opLen, Int.reduceLT, Int.reduceEq, opConvert, opIndexAddr, opLoad, Nat.reduceLT, undef, Nat.reduceLeDiff, Array.toList, wk4, wk5, wk0, fxC22v]
  exact hK
theorem indexf_ret {m : Mem} {c : Nat} {v w : Value} {mem l : List Int} (g0 : m.get c = some (.cells [w] 25 true)) (h : RdI m v mem) (g : RdI m w l) (hl0 : mem.length < 2 ^ 40) (hl : l.length < 2 ^ 40) {K : Value → Mem → Prop} (hK : ∀ z : Int, decide (0 ≤ z) = !allIn mem l → K (.int .i64 z) m) : Ret Try.prog 47 [v, .func (.func 45) #[] #[.pointer (some ⟨c, 0, none⟩)]] m K := by
  refine ret_wp [] Try.func47 rfl (by decide) (by kernel_rfl) ?_
  have ll := h.len
  simp only [Nat.reduceAdd, reduceIte, Nat.reduceEqDiff, reduceCtorEq, Int.reduceLT, Int.reduceEq, opConvert, opIndexAddr, opLoad, Nat.reduceLT, undef, Nat.reduceLeDiff, Array.toList, wk4, wk5, wk0, fxC22v, ll]
  refine loop_wp [] (by kernel_rfl) (fun k env μ => ∃ j : Nat, k + j = mem.length ∧ allIn (mem.take j) l = true ∧ μ = m ∧ env 0 = some v ∧ env 1 = some (.func (.func 45) #[] #[.pointer (some ⟨c, 0, none⟩)]) ∧ env 7 = some (.int .i64 mem.length) ∧ env 8 = some (.int .i64 j)) ?_ mem.length ⟨0, rfl, rfl, rfl, rfl, rfl, rfl, rfl⟩
  rintro k env μ ⟨j, hk, hx, rfl, e0, e1, e7, e8⟩
  simp only [Nat.reduceAdd, reduceIte, Nat.reduceEqDiff, reduceCtorEq, opLen, Int.reduceLT, Int.reduceEq, opConvert, opIndexAddr, opLoad, Nat.reduceLT, undef, Nat.reduceLeDiff, Array.toList, wk4, wk5, wk0, fxC22v, e7, e8]
  refine cond_by (fun hlt => ?_) (fun hge => ?_)
  · have hj : j < mem.length := by omega
    obtain ⟨p, h1, h2⟩ := h.at hj
    simp only [Nat.reduceAdd, reduceIte, Nat.reduceEqDiff, reduceCtorEq, opLen, Int.reduceLT, Int.reduceEq, opConvert, Nat.reduceLT, undef, Nat.reduceLeDiff, Array.toList, wk4, wk5, wk0, fxC22v, e0, e1, e7, e8, h1, h2]
    refine inner_ret g0 g hl ?_
    by_cases d : mem[j] ∈ l
    · have hd : decide (mem[j] ∈ l) = true := decide_eq_true d
      simp only [Nat.reduceAdd, reduceIte, Nat.reduceEqDiff, reduceCtorEq, opLen, Int.reduceLT, Int.reduceEq, opConvert, opIndexAddr, opLoad, Nat.reduceLT, undef, Nat.reduceLeDiff, Array.toList, wk4, wk5, wk0, fxC22v, hd, e0, e1, e7, e8]
      refine ⟨k - 1, by omega, j + 1, by omega, ?_, ?_⟩
      · rw [allIn, List.take_succ_eq_append_getElem hj, List.all_append, ← allIn, hx]
        simp [d]
      · rw [wrap_i64 (by omega) (by omega)]; rfl
    · have hd : decide (mem[j] ∈ l) = false := decide_eq_false d
      simp only [Nat.reduceAdd, reduceIte, Nat.reduceEqDiff, reduceCtorEq, opLen, Int.reduceLT, Int.reduceEq, opConvert, opIndexAddr, opLoad, Nat.reduceLT, undef, Nat.reduceLeDiff, Array.toList, wk4, wk5, wk0, fxC22v, hd, e0, e1, e7, e8]
      refine hK _ ?_
      have : allIn mem l = false := by
        rw [allIn, List.all_eq_false]
        exact ⟨mem[j], List.getElem_mem _, by simp [d]⟩
      rw [this]
      simp
  · obtain rfl : j = mem.length := by omega
    rw [List.take_length] at hx
    simp only [Nat.reduceAdd, reduceIte, Nat.reduceEqDiff, reduceCtorEq, opLen, Int.reduceLT, Int.reduceEq, opConvert, opIndexAddr, opLoad, Nat.reduceLT, undef, Nat.reduceLeDiff, Array.toList, wk4, wk5, wk0, fxC22v, e7, e8]
    exact hK _ (by rw [hx]; rfl)
theorem vall_ret {m : Mem} {v w : Value} {mem l : List Int} {n : Int} (h : RdI m v mem) (g : RdI m w l) (hl : mem.length < 2 ^ 40) (hl2 : l.length < 2 ^ 40) {K : Value → Mem → Prop} (hK : ∀ m', Ext m m' → K (.bool (allIn mem l)) m') : Ret Try.prog 36 [viewV n v, w] m K := by
  refine ret_wp [] Try.func36 rfl (by decide) (by kernel_rfl) ?_
  have xx := (Ext.new m (.cells [.int .i64 n, v] 52 true)).trans (Ext.new _ (.cells [w] 25 true))
  obtain ⟨wa, wq, rfl⟩ := g.is
  simp only [Nat.reduceAdd, reduceIte, Nat.reduceEqDiff, reduceCtorEq, opLen, Int.reduceLT, Int.reduceEq, opConvert, opIndexAddr, opLoad, Nat.reduceLT, undef, Nat.reduceLeDiff, Array.toList, wk4, wk5, wk0, fxC22v]
  refine ret_wp [] Try.func44 rfl (by decide) (by kernel_rfl) ?_
  simp only [Nat.reduceAdd, reduceIte, Nat.reduceEqDiff, reduceCtorEq, opLen, Int.reduceLT, Int.reduceEq, opConvert, opIndexAddr, opLoad, Nat.reduceLT, undef, Nat.reduceLeDiff, Array.toList, wk4, wk5, wk0, fxC22v]
  refine indexf_ret (w := .slice wa l.length wq) ?_ (h.ext xx) (g.ext xx) hl hl2 fun z hz => ?_
  · exact new_get (m.new _) _
  · simp only [Nat.reduceAdd, reduceIte, Nat.reduceEqDiff, reduceCtorEq, opLen, Int.reduceLT, Int.reduceEq, opConvert, opIndexAddr, opLoad, Nat.reduceLT, undef, Nat.reduceLeDiff, Array.toList, wk4, wk5, wk0, fxC22v, hz, Bool.not_not]
    exact hK _ xx
end Go.Proofs.Ytimjcfaciiimmaa
