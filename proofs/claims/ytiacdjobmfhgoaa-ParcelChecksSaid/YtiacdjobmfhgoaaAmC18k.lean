/- A text of the abstract machine. -/


/- A letter's parcels, one behind the other, put into the table. -/
import Derived.Test.YtiacdjobmfhgoaaAmC18z
import Derived.Test.YtiacdjobmfhgoaaAmBun
set_option linter.unusedSimpArgs false
set_option linter.unusedVariables false
set_option maxRecDepth 100000
set_option maxHeartbeats 4000000
namespace Go.Proofs.Ytiacdjobmfhgoaa
open Go Go.AM Go.AM.Crc Go.AM.Wire
theorem fxC18k : type_of% (And.intro (And.intro (And.intro (And.intro (And.intro (And.intro @Try.underlying34 (And.intro @Try.underlying35 @Try.underlying36)) (And.intro (And.intro @Try.underlying38 @Try.underlying39) (And.intro @Try.underlying57 @Try.underlying60))) (And.intro (And.intro (And.intro @Try.underlying61 @Try.underlying64) (And.intro @Try.underlying26 @Try.underlying32)) (And.intro (And.intro @Try.underlying3 @Try.underlying4) (And.intro @Try.underlying5 @Try.underlying9)))) (And.intro (And.intro (And.intro (And.intro @Try.underlying23 @Try.underlying24) (And.intro @Try.underlying0 @Try.underlying54)) (And.intro (And.intro @Try.underlying22 @Try.underlying66) (And.intro @Try.underlying68 @Try.underlying75))) (And.intro (And.intro (And.intro @Try.underlying85 @Try.underlying27) (And.intro @ts34 @ts35)) (And.intro (And.intro @ts36 @ts38) (And.intro @ts39 @ts57))))) (And.intro (And.intro (And.intro (And.intro @ts60 (And.intro @ts61 @ts64)) (And.intro (And.intro @ts26 @ts32) (And.intro @ts3 @ts4))) (And.intro (And.intro (And.intro @ts5 @ts9) (And.intro @ts23 @ts24)) (And.intro (And.intro @ts0 @ts54) (And.intro @ts22 @ts66)))) (And.intro (And.intro (And.intro (And.intro @ts68 @ts75) (And.intro @ts85 @ts27)) (And.intro (And.intro @tz34 @tz35) (And.intro @tz36 @tz38))) (And.intro (And.intro (And.intro @tz39 @tz57) (And.intro @tz60 @tz61)) (And.intro (And.intro @tz64 @tz26) (And.intro @tz32 @tz3)))))) (And.intro (And.intro (And.intro (And.intro (And.intro @tz4 (And.intro @tz5 @tz9)) (And.intro (And.intro @tz23 @tz24) (And.intro @tz0 @tz54))) (And.intro (And.intro (And.intro @tz22 @tz66) (And.intro @tz68 @tz75)) (And.intro (And.intro @tz85 @tz27) (And.intro @tb34 @tb35)))) (And.intro (And.intro (And.intro (And.intro @tb36 @tb38) (And.intro @tb39 @tb57)) (And.intro (And.intro @tb60 @tb61) (And.intro @tb64 @tb26))) (And.intro (And.intro (And.intro @tb32 @tb3) (And.intro @tb4 @tb5)) (And.intro (And.intro @tb9 @tb23) (And.intro @tb24 @tb0))))) (And.intro (And.intro (And.intro (And.intro (And.intro @tb54 @tb22) (And.intro @tb66 @tb68)) (And.intro (And.intro @tb75 @tb85) (And.intro @tb27 @fr10))) (And.intro (And.intro (And.intro @fr11 @fr12) (And.intro @fr19 @fr20)) (And.intro (And.intro @bz38 @al60) (And.intro @al38 @fa38_0)))) (And.intro (And.intro (And.intro (And.intro @fa38_1 @fa64_0) (And.intro @fa64_1 @fa64_2)) (And.intro (And.intro @fa32_0 @fa32_1) (And.intro @fa32_2 @fa32_3))) (And.intro (And.intro (And.intro @fa32_4 @bz85) (And.intro @al68 @al85)) (And.intro (And.intro @fa68_0 @fa85_0) (And.intro @fa85_1 @fa85_2))))))) := (And.intro (And.intro (And.intro (And.intro (And.intro (And.intro @Try.underlying34 (And.intro @Try.underlying35 @Try.underlying36)) (And.intro (And.intro @Try.underlying38 @Try.underlying39) (And.intro @Try.underlying57 @Try.underlying60))) (And.intro (And.intro (And.intro @Try.underlying61 @Try.underlying64) (And.intro @Try.underlying26 @Try.underlying32)) (And.intro (And.intro @Try.underlying3 @Try.underlying4) (And.intro @Try.underlying5 @Try.underlying9)))) (And.intro (And.intro (And.intro (And.intro @Try.underlying23 @Try.underlying24) (And.intro @Try.underlying0 @Try.underlying54)) (And.intro (And.intro @Try.underlying22 @Try.underlying66) (And.intro @Try.underlying68 @Try.underlying75))) (And.intro (And.intro (And.intro @Try.underlying85 @Try.underlying27) (And.intro @ts34 @ts35)) (And.intro (And.intro @ts36 @ts38) (And.intro @ts39 @ts57))))) (And.intro (And.intro (And.intro (And.intro @ts60 (And.intro @ts61 @ts64)) (And.intro (And.intro @ts26 @ts32) (And.intro @ts3 @ts4))) (And.intro (And.intro (And.intro @ts5 @ts9) (And.intro @ts23 @ts24)) (And.intro (And.intro @ts0 @ts54) (And.intro @ts22 @ts66)))) (And.intro (And.intro (And.intro (And.intro @ts68 @ts75) (And.intro @ts85 @ts27)) (And.intro (And.intro @tz34 @tz35) (And.intro @tz36 @tz38))) (And.intro (And.intro (And.intro @tz39 @tz57) (And.intro @tz60 @tz61)) (And.intro (And.intro @tz64 @tz26) (And.intro @tz32 @tz3)))))) (And.intro (And.intro (And.intro (And.intro (And.intro @tz4 (And.intro @tz5 @tz9)) (And.intro (And.intro @tz23 @tz24) (And.intro @tz0 @tz54))) (And.intro (And.intro (And.intro @tz22 @tz66) (And.intro @tz68 @tz75)) (And.intro (And.intro @tz85 @tz27) (And.intro @tb34 @tb35)))) (And.intro (And.intro (And.intro (And.intro @tb36 @tb38) (And.intro @tb39 @tb57)) (And.intro (And.intro @tb60 @tb61) (And.intro @tb64 @tb26))) (And.intro (And.intro (And.intro @tb32 @tb3) (And.intro @tb4 @tb5)) (And.intro (And.intro @tb9 @tb23) (And.intro @tb24 @tb0))))) (And.intro (And.intro (And.intro (And.intro (And.intro @tb54 @tb22) (And.intro @tb66 @tb68)) (And.intro (And.intro @tb75 @tb85) (And.intro @tb27 @fr10))) (And.intro (And.intro (And.intro @fr11 @fr12) (And.intro @fr19 @fr20)) (And.intro (And.intro @bz38 @al60) (And.intro @al38 @fa38_0)))) (And.intro (And.intro (And.intro (And.intro @fa38_1 @fa64_0) (And.intro @fa64_1 @fa64_2)) (And.intro (And.intro @fa32_0 @fa32_1) (And.intro @fa32_2 @fa32_3))) (And.intro (And.intro (And.intro @fa32_4 @bz85) (And.intro @al68 @al85)) (And.intro (And.intro @fa68_0 @fa85_0) (And.intro @fa85_1 @fa85_2)))))))
/-- The parts of a letter that are there. -/
def psOf (b : List Int) (S : List Nat) (n : Nat) : List Part := (List.range n).map fun j => if j ∈ S then some (chunk b j) else none
theorem psOf_length (b : List Int) (S : List Nat) (n : Nat) : (psOf b S n).length = n := by simp [psOf]
theorem psOf_nil (b : List Int) (n : Nat) : psOf b [] n = List.replicate n none := by
  refine List.ext_getElem (by simp [psOf]) fun j h1 h2 => ?_
  simp [psOf]
theorem psOf_at {b : List Int} {S : List Nat} {n p : Nat} (hp : p < n) : (psOf b S n)[p]? = some (if p ∈ S then some (chunk b p) else none) := by
  simp [psOf, hp]
theorem psOf_set {b : List Int} {S : List Nat} {n p : Nat} : (psOf b S n).set p (some (chunk b p)) = psOf b (p :: S) n := by
  simp only [psOf, set_range]
  refine List.map_congr_left fun j hj => ?_
  by_cases h : j = p
  · subst h; simp
  · simp [h]
theorem psOf_holes {b : List Int} {n : Nat} : ∀ {S : List Nat}, S.Nodup → (∀ x ∈ S, x < n) → holes (psOf b S n) + S.length = n
  | [], _, _ => by simp [psOf_nil, holes, List.countP_replicate]
  | p :: S, hn, hl => by
    have hn' := List.nodup_cons.1 hn
    have ih := psOf_holes (b := b) (n := n) hn'.2 fun x hx => hl x (List.mem_cons_of_mem _ hx)
    have hp := hl p (List.mem_cons_self ..)
    have := holes_set (ps := psOf b S n) (p := p) (b := chunk b p) (by rw [psOf_at hp, if_neg hn'.1])
    rw [psOf_set] at this
    simp only [List.length_cons]
    omega
theorem chunks_all (b : List Int) : ∀ n, (List.range n).flatMap (chunk b) = b.take (48 * n)
  | 0 => by simp
  | n + 1 => by
    rw [List.range_succ, List.flatMap_append, chunks_all b n]
    simp only [List.flatMap_cons, List.flatMap_nil, List.append_nil, chunk]
    rw [show 48 * (n + 1) = 48 * n + 48 by omega, List.take_add]
theorem psOf_out {b : List Int} {S : List Nat} (hz : holes (psOf b S (cutN b)) = 0) : partsOut (psOf b S (cutN b)) = b := by
  have : psOf b S (cutN b) = (List.range (cutN b)).map fun j => some (chunk b j) := by
    refine List.ext_getElem (by simp [psOf]) fun j h1 h2 => ?_
    obtain ⟨c, hc⟩ := holes_zero hz h1
    have h3 : j < cutN b := by rw [psOf_length] at h1; exact h1
    have h4 := psOf_at (b := b) (S := S) h3
    rw [List.getElem?_eq_getElem h1, hc] at h4
    rw [hc]
    simp only [List.getElem_map, List.getElem_range]
    split at h4
    · exact Option.some.inj h4
    · simp at h4
  rw [this, partsOut, List.flatMap_map]
  simp only [Option.getD_some]
  rw [chunks_all, List.take_of_length_le (by unfold cutN; omega)]
theorem chunk_len (b : List Int) (j : Nat) : (chunk b j).length ≤ 48 := by rw [chunk, List.length_take]; omega
abbrev paOf (f l : Int) (b : List Int) (p : Nat) : Pa := ⟨f, l, p, (cutN b : Nat), chunk b p⟩
theorem paOf_ok {f l : Int} {b : List Int} {p : Nat} (hf : 0 ≤ f ∧ f < 16) (hb : b.length ≤ 4800) (hp : p < cutN b) : pcheck (paOf f l b p) = 0 := by
  have hc : (chunk b p).length = min 48 (b.length - 48 * p) := by rw [chunk, List.length_take, List.length_drop]
  have hN : cutN b = max ((b.length + 47) / 48) 1 := rfl
  have h1 := chunk_len b p
  simp only [pcheck]
  rw [if_neg (by omega), if_neg (by omega)]

/-- The table when the parts S of a letter are there. -/
def stT (key : Key) (b : List Int) (S : List Nat) (done : List (Key × Bool)) : Tb :=
  if S.length = cutN b then ⟨none, mput done key true⟩ else ⟨if S = [] then none else some (key, psOf b S (cutN b)), done⟩
theorem cutN_pos (b : List Int) : 1 ≤ cutN b := by unfold cutN; omega
theorem step_ret {m : Mem} {k i p : Nat} {f l : Int} {b : List Int} {S : List Nat} {done : List (Key × Bool)} {v : Value} (H : TabAt m k i (stT (f, l) b S done)) (fv : FRow m v 1 (chunk b p).length (byteCells (chunk b p))) (hf : 0 ≤ f ∧ f < 16) (hb : b.length ≤ 4800) (hp : p < cutN b) (hpS : p ∉ S) (hS : S.Nodup) (hSl : ∀ x ∈ S, x < cutN b) (hd : hasD done (f, l) = false) {K : Value → Mem → Prop}
    (hK : ∀ m' w, TabAt m' k i (stT (f, l) b (p :: S) done) → Pz m m' → (∀ j, j < k → m'.get j = m.get j) → (S.length + 1 < cutN b → w = .slice none 0 0) → (S.length + 1 = cutN b → ∃ r, OwnI r 5 1 m' w b.length (byteCells b) ∧ k ≤ r) → S.length + 1 ≤ cutN b → K (.tuple #[w, .bool (decide (S.length + 1 = cutN b))]) m') : Ret Try.prog 11 [.pointer (some ⟨i, 0, none⟩), .agg #[.int .i64 f, .int .u32 l, .int .i64 p, .int .i64 (cutN b : Nat), v]] m K := by
  have hh := psOf_holes (b := b) (n := cutN b) hS hSl
  have hh2 := psOf_holes (b := b) (n := cutN b) (S := p :: S) (List.nodup_cons.2 ⟨hpS, hS⟩) (fun x hx => by
    rcases List.mem_cons.1 hx with rfl | h
    · exact hp
    · exact hSl x h)
  simp only [List.length_cons] at hh2
  have hlt : ¬ S.length = cutN b := by omega
  have eT : stT (f, l) b S done = ⟨if S = [] then none else some ((f, l), psOf b S (cutN b)), done⟩ := by rw [stT, if_neg hlt]
  rw [eT] at H
  refine tput_set (P := paOf f l b p) (ps := psOf b S (cutN b)) (n := cutN b) (p := p) H fv (paOf_ok hf hb hp) hd ?_ rfl (psOf_length _ _ _) rfl (by rw [psOf_at hp, if_neg hpS]) ?_ ?_
  · by_cases h : S = []
    · right
      subst h
      exact ⟨rfl, psOf_nil _ _⟩
    · left
      simp only [if_neg h]
  · intro c hc
    simp only [psOf, List.mem_map] at hc
    obtain ⟨j, _, hj⟩ := hc
    split at hj
    · rw [← Option.some.inj hj]; exact chunk_len _ _
    · cases hj
  · show ∀ m' w, TabAt m' k i (setT _ (f, l) ((psOf b S (cutN b)).set p (some (chunk b p)))) → _
    rw [psOf_set]
    intro m' w h1 h2 h3 h4 h5
    have ed : decide (holes (psOf b (p :: S) (cutN b)) = 0) = decide (S.length + 1 = cutN b) := by
      rw [Bool.eq_iff_iff, decide_eq_true_eq, decide_eq_true_eq]
      omega
    rw [ed]
    refine hK m' w ?_ h2 h3 (fun h => h4 (by omega)) (fun h => ?_) (by omega)
    · have : setT (⟨if S = [] then none else some ((f, l), psOf b S (cutN b)), done⟩ : Tb) (f, l) (psOf b (p :: S) (cutN b)) = stT (f, l) b (p :: S) done := by
        unfold setT stT
        simp only [List.length_cons, reduceCtorEq, if_false]
        by_cases h : S.length + 1 = cutN b
        · rw [if_pos h, if_neg (by omega)]
        · rw [if_neg h, if_pos (by omega)]
      rw [← this]
      exact h1
    · have := h5 (by omega)
      rw [psOf_out (by omega)] at this
      exact this
theorem hasD_put (done : List (Key × Bool)) (key : Key) : hasD (mput done key true) key = true := by
  simp [hasD, mget_put]
theorem hasD_put_ne {done : List (Key × Bool)} {key key' : Key} (h : key' ≠ key) : hasD (mput done key true) key' = hasD done key' := by
  simp [hasD, mget_put, h]
theorem again_ret {m : Mem} {k i p : Nat} {f l : Int} {b : List Int} {S : List Nat} {done : List (Key × Bool)} {v : Value} (H : TabAt m k i (stT (f, l) b S done)) (hv : opLen Try.prog (some 22) v = some (.int .i64 (chunk b p).length)) (hf : 0 ≤ f ∧ f < 16) (hb : b.length ≤ 4800) (hp : p < cutN b) (hpS : p ∈ S) (hd : hasD done (f, l) = false) {K : Value → Mem → Prop}
    (hK : ∀ m', Ext m m' → K (.tuple #[.slice none 0 0, .bool false]) m') : Ret Try.prog 11 [.pointer (some ⟨i, 0, none⟩), .agg #[.int .i64 f, .int .u32 l, .int .i64 p, .int .i64 (cutN b : Nat), v]] m K := by
  by_cases h : S.length = cutN b
  · rw [stT, if_pos h] at H
    exact tput_done (P := paOf f l b p) H hv (paOf_ok hf hb hp) (hasD_put _ _) hK
  · rw [stT, if_neg h, if_neg (List.ne_nil_of_mem hpS)] at H
    exact tput_full (P := paOf f l b p) H hv (paOf_ok hf hb hp) hd rfl rfl (psOf_length _ _ _) rfl (by rw [psOf_at hp, if_pos hpS]) hK
theorem stT_half (key : Key) (b : List Int) (S : List Nat) (done : List (Key × Bool)) : hlen (stT key b S done).half = if S.length = cutN b ∨ S = [] then 0 else 1 := by
  unfold stT
  split
  · rename_i h
    rw [if_pos (.inl h)]; rfl
  · rename_i h
    by_cases h2 : S = []
    · simp only [if_pos h2, hlen, h2, or_true, if_true]; rfl
    · simp only [if_neg h2, hlen, h2, h, or_self, if_false]; rfl
theorem stT_nil (key : Key) (b : List Int) (done : List (Key × Bool)) : stT key b [] done = ⟨none, done⟩ := by
  have := cutN_pos b
  unfold stT
  rw [if_neg (by simp only [List.length_nil]; omega)]
  rfl
end Go.Proofs.Ytiacdjobmfhgoaa
