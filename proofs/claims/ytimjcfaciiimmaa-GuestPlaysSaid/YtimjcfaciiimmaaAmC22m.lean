/- A text of the abstract machine. -/

/- Members of bits. -/
import Derived.Test.YtimjcfaciiimmaaAmC22v
import Derived.Test.YtimjcfaciiimmaaAmArgs6
import Derived.Test.YtimjcfaciiimmaaAmArgs7
import Derived.Test.YtimjcfaciiimmaaAmBun
set_option linter.unusedSimpArgs false
set_option linter.unusedVariables false
set_option maxRecDepth 100000
set_option maxHeartbeats 4000000
namespace Go.Proofs.Ytimjcfaciiimmaa
open Go Go.AM Go.AM.Crc Go.AM.Wire
theorem fxC22m : type_of% (And.intro (And.intro (And.intro (And.intro (And.intro @Try.underlying3 @Try.underlying4) (And.intro @Try.underlying5 (And.intro @Try.underlying9 @Try.underlying25))) (And.intro (And.intro @Try.underlying52 @Try.underlying35) (And.intro @Try.underlying107 (And.intro @Try.underlying22 @ts3)))) (And.intro (And.intro (And.intro @ts4 @ts5) (And.intro @ts9 (And.intro @ts25 @ts52))) (And.intro (And.intro @ts35 @ts107) (And.intro @ts22 (And.intro @tz3 @tz4))))) (And.intro (And.intro (And.intro (And.intro @tz5 @tz9) (And.intro @tz25 (And.intro @tz52 @tz35))) (And.intro (And.intro @tz107 @tz22) (And.intro @tb3 (And.intro @tb4 @tb5)))) (And.intro (And.intro (And.intro @tb9 @tb25) (And.intro @tb52 (And.intro @tb35 @tb107))) (And.intro (And.intro @tb22 (And.intro @fr20 @bz52)) (And.intro @al52 (And.intro @fa52_0 @fa52_1)))))) := (And.intro (And.intro (And.intro (And.intro (And.intro @Try.underlying3 @Try.underlying4) (And.intro @Try.underlying5 (And.intro @Try.underlying9 @Try.underlying25))) (And.intro (And.intro @Try.underlying52 @Try.underlying35) (And.intro @Try.underlying107 (And.intro @Try.underlying22 @ts3)))) (And.intro (And.intro (And.intro @ts4 @ts5) (And.intro @ts9 (And.intro @ts25 @ts52))) (And.intro (And.intro @ts35 @ts107) (And.intro @ts22 (And.intro @tz3 @tz4))))) (And.intro (And.intro (And.intro (And.intro @tz5 @tz9) (And.intro @tz25 (And.intro @tz52 @tz35))) (And.intro (And.intro @tz107 @tz22) (And.intro @tb3 (And.intro @tb4 @tb5)))) (And.intro (And.intro (And.intro @tb9 @tb25) (And.intro @tb52 (And.intro @tb35 @tb107))) (And.intro (And.intro @tb22 (And.intro @fr20 @bz52)) (And.intro @al52 (And.intro @fa52_0 @fa52_1))))))
theorem one_intM (m : Mem) (n : Int) : opBuildSlice Try.prog 25 1 [(0, .int .i64 n)] m = some (.slice (some ⟨m.next, 0, none⟩) 1 1, m.new (.cells [.int .i64 n] 3 true)) := by kernel_rfl
def bitI (x : Int) (n : Nat) : Int := bits .and .u16 (x.fdiv (2 ^ min n IntKind.u16.bits)) 1
def memN (x : Int) (n : Nat) : List Nat := (List.range n).filter fun k => decide (bitI x k = 1)
theorem memN_succ (x : Int) (n : Nat) : memN x (n + 1) = memN x n ++ if bitI x n = 1 then [n] else [] := by
  rw [memN, List.range_succ, List.filter_append, ← memN]
  by_cases h : bitI x n = 1 <;> simp [h]
def intsN (l : List Nat) : List Int := l.map fun (n : Nat) => (n : Int)
def memO (x : Int) : List Nat := if memN x 16 = [] then [0] else memN x 16
def memL (x : Int) : List Int := intsN (memO x)
theorem memN_lt (x : Int) (n : Nat) : ∀ k ∈ memN x n, k < n := fun k hk => List.mem_range.1 ((List.mem_filter.1 hk).1)
theorem range_lt (n : Nat) : (List.range n).Pairwise (· < ·) := List.pairwise_lt_range
theorem memO_fit (x : Int) : (memO x).Pairwise (· < ·) ∧ (∀ k ∈ memO x, k < 16) ∧ 1 ≤ (memO x).length ∧ (memO x).length ≤ 16 := by
  unfold memO
  split
  · exact ⟨by simp, by simp, by simp, by simp⟩
  · rename_i h
    refine ⟨(range_lt 16).sublist List.filter_sublist, memN_lt x 16, ?_, ?_⟩
    · cases hm : memN x 16 with
      | nil => exact (h hm).elim
      | cons a r => simp
    · have := List.length_filter_le (fun k => decide (bitI x k = 1)) (List.range 16)
      rw [List.length_range] at this
      exact this
theorem rise_of {L : List Nat} (h : L.Pairwise (· < ·)) (h16 : ∀ x ∈ L, x < 16) : (List.range (intsN L).length).all (riseAt (intsN L)) = true := by
  rw [List.all_eq_true]
  intro j hj
  rw [List.mem_range, intsN, List.length_map] at hj
  have e : ∀ k, k < L.length → (intsN L).getD k 0 = (L.getD k 0 : Nat) := fun k hk => by
    simp only [intsN, List.getD_eq_getElem?_getD, List.getElem?_map, List.getElem?_eq_getElem hk]
    rfl
  have e2 : ∀ k (hk : k < L.length), L.getD k 0 = L[k] := fun k hk => by
    simp only [List.getD_eq_getElem?_getD, List.getElem?_eq_getElem hk]
    rfl
  unfold riseAt
  rw [e j hj, e2 j hj]
  have h1 := h16 L[j] (List.getElem_mem _)
  by_cases hz : j = 0
  · subst hz
    simp
    omega
  · rw [e (j - 1) (by omega), e2 (j - 1) (by omega)]
    have h2 := List.pairwise_iff_getElem.1 h (j - 1) j (by omega) hj (by omega)
    simp
    omega
theorem intsN_length (l : List Nat) : (intsN l).length = l.length := by simp [intsN]
theorem memL_ok (x vn : Int) (hv : 0 ≤ vn) : viewCk vn (memL x) = 0 := by
  obtain ⟨h1, h2, h3, h4⟩ := memO_fit x
  rw [viewCk, if_neg (by omega), memCk, memL, rise_of h1 h2, intsN_length, if_neg (by omega)]
  rfl
theorem memL_nodup (x : Int) : (memL x).Nodup := by
  obtain ⟨h1, _⟩ := memO_fit x
  rw [memL, intsN, List.Nodup, List.pairwise_map]
  exact h1.imp fun h => by omega
theorem memL_len (x : Int) : 1 ≤ (memL x).length ∧ (memL x).length ≤ 16 := by
  obtain ⟨h1, h2, h3, h4⟩ := memO_fit x
  rw [memL, intsN_length]
  exact ⟨h3, h4⟩
theorem mem_ret {m : Mem} {x : Int} {K : Value → Mem → Prop} (hK : ∀ m' w r, Ext m m' → OwnI r 3 1 m' w (memL x).length (ints (memL x)) → m.next ≤ r → K w m') : Ret Try.prog 20 [.int .u16 x] m K := by
  refine ret_wp [] Try.func20 rfl (by decide) (by kernel_rfl) ?_
  simp only [Nat.reduceAdd, reduceIte, Nat.reduceEqDiff, reduceCtorEq, opLen, Int.reduceLT, Int.reduceEq, opConvert, opIndexAddr, opLoad, Nat.reduceLT, undef, Nat.reduceLeDiff, Array.toList, one_intM, wk4, wk5, wk0, fxC22m]
  refine loop_wp [] (by kernel_rfl) (fun q env μ => ∃ (j r : Nat) (pv : Value), q + j = 16 ∧ Ext m μ ∧ OwnI r 3 1 μ pv (memN x j).length (ints (intsN (memN x j))) ∧ m.next ≤ r ∧ env 0 = some (.int .u16 x) ∧ env 3 = some pv ∧ env 5 = some (.int .i64 j)) ?_ 16 ⟨0, m.next, .slice none 0 0, rfl, Ext.refl m, OwnI.nil, Nat.le_refl _, rfl, rfl, rfl⟩
  rintro q env μ ⟨j, r, pv, hk, xμ, o, hr, e0, e3, e5⟩
  have hlen : (memN x j).length ≤ 16 := by
    have := List.length_filter_le (fun k => decide (bitI x k = 1)) (List.range j)
    rw [List.length_range] at this
    have e : (memN x j).length = (List.filter (fun k => decide (bitI x k = 1)) (List.range j)).length := rfl
    omega
  simp only [Nat.reduceAdd, reduceIte, Nat.reduceEqDiff, reduceCtorEq, opLen, Int.reduceLT, Int.reduceEq, opConvert, opIndexAddr, opLoad, Nat.reduceLT, undef, Nat.reduceLeDiff, Array.toList, one_intM, wk4, wk5, wk0, fxC22m, e5]
  refine cond_by (fun hlt => ?_) (fun hge => ?_)
  · have hj : j < 16 := by omega
    have nj : ¬ (j : Int) < 0 := by omega
    have w1 : IntKind.i64.wrap ((j : Int) + 1) = ((j + 1 : Nat) : Int) := by rw [wrap_i64 (by omega) (by omega)]; rfl
    have hb : bits .and .u16 (x.fdiv (2 ^ min j IntKind.u16.bits)) 1 = bitI x j := rfl
    by_cases hbit : bitI x j = 1
    · have es : memN x (j + 1) = memN x j ++ [j] := by rw [memN_succ, if_pos hbit]
      have sn : ShowsR 1 (μ.new (.cells [.int .i64 j] 3 true)) (.slice (some ⟨μ.next, 0, none⟩) 1 1) 1 [.int .i64 j] := ⟨_, _, rfl, by simp [shown, new_get], rfl⟩
      obtain ⟨pa, pq, hpv⟩ := o.is
      obtain ⟨a', q', m2, r', p1, p2', p3, p4, p5⟩ := (o.ext (Ext.new μ (.cells [.int .i64 j] 3 true))).push (P := Try.prog) (tx := 25) Try.underlying25 ⟨_, Try.underlying25⟩ ts3 (by decide) tz3 tb3 (by decide) rfl rfl sn (by omega)
      simp only [new_next] at p3 p4 p5
      rw [hpv] at p1 e3
      have hx := xμ.1
      simp only [Nat.reduceAdd, reduceIte, Nat.reduceEqDiff, reduceCtorEq, opLen, Int.reduceLT, Int.reduceEq, opConvert, opIndexAddr, opLoad, Nat.reduceLT, undef, Nat.reduceLeDiff, Array.toList, one_intM, wk4, wk5, wk0, fxC22m, e0, e3, e5, nj, hb, hbit, p1]
      refine ⟨q - 1, by omega, j + 1, r', _, by omega, ⟨by omega, fun y hy => ?_⟩, ?_, by omega, rfl, by rw [w1]⟩
      · rw [p5 y (by omega) (fun h => by omega), new_get_ne _ (by omega), xμ.2 y hy]
      · rw [es, List.length_append]
        have : ints (intsN (memN x j ++ [j])) = ints (intsN (memN x j)) ++ [.int .i64 j] := by simp [intsN]
        rw [this]
        exact p2'
    · have es : memN x (j + 1) = memN x j := by rw [memN_succ, if_neg hbit, List.append_nil]
      simp only [Nat.reduceAdd, reduceIte, Nat.reduceEqDiff, reduceCtorEq, opLen, Int.reduceLT, Int.reduceEq, opConvert, opIndexAddr, opLoad, Nat.reduceLT, undef, Nat.reduceLeDiff, Array.toList, one_intM, wk4, wk5, wk0, fxC22m, e0, e3, e5, nj, hb, hbit]
      exact ⟨q - 1, by omega, j + 1, r, _, by omega, xμ, by rw [es]; exact o, hr, rfl, by rw [w1]⟩
  · obtain rfl : j = 16 := by omega
    obtain ⟨pa, pq, hpv⟩ := o.is
    have ll := o.len (P := Try.prog) Try.underlying25
    by_cases hz : memN x 16 = []
    · have eL : memL x = [0] := by rw [memL, memO, if_pos hz]; rfl
      have hz0 : ((memN x 16).length : Int) = 0 := by rw [hz]; rfl
      rw [eL] at hK
      rw [hpv] at ll e3
      simp only [Nat.reduceAdd, reduceIte, Nat.reduceEqDiff, reduceCtorEq, Int.reduceLT, Int.reduceEq, opConvert, opIndexAddr, opLoad, Nat.reduceLT, undef, Nat.reduceLeDiff, Array.toList, one_intM, wk4, wk5, wk0, fxC22m, e3, e5, ll, hz0]
      exact hK _ _ μ.next (xμ.trans (Ext.new _ _)) (OwnI.made rfl) xμ.1
    · have eL : memL x = intsN (memN x 16) := by rw [memL, memO, if_neg hz]
      have hz0 : ¬ ((memN x 16).length : Int) = 0 := fun h => hz (List.eq_nil_of_length_eq_zero (by omega))
      rw [eL] at hK
      simp only [Nat.reduceAdd, reduceIte, Nat.reduceEqDiff, reduceCtorEq, Int.reduceLT, Int.reduceEq, opConvert, opIndexAddr, opLoad, Nat.reduceLT, undef, Nat.reduceLeDiff, Array.toList, one_intM, wk4, wk5, wk0, fxC22m, e3, e5, ll, hz0]
      exact hK _ _ r xμ (by rw [intsN_length]; exact o) hr
/-- Frozen at once. -/
theorem memf_ret {m : Mem} {x : Int} {K : Value → Mem → Prop} (hK : ∀ m' w, Ext m m' → FRow m' w 1 (memL x).length (ints (memL x)) → K w m') : Ret Try.prog 20 [.int .u16 x] m K :=
  Ret.join (mem_ret fun m' w r x o hr => by
    obtain ⟨m2, z, f, n, k⟩ := o.frz
    exact ⟨m2, z, hK _ _ (x.frz z fun j hj => k j (by omega)) f⟩)
end Go.Proofs.Ytimjcfaciiimmaa
