/- A text of the abstract machine. -/


/- The table of letters in parts. -/
import Derived.Test.YtiacdjobmfhgoaaAmC18c
import Derived.Test.YtiacdjobmfhgoaaAmMaps
import Derived.Test.YtiacdjobmfhgoaaAmBun
set_option linter.unusedSimpArgs false
set_option linter.unusedVariables false
set_option maxRecDepth 100000
set_option maxHeartbeats 4000000
namespace Go.Proofs.Ytiacdjobmfhgoaa
open Go Go.AM Go.AM.Crc Go.AM.Wire
theorem fxC18x : type_of% (And.intro (And.intro (And.intro (And.intro (And.intro (And.intro @Try.underlying34 (And.intro @Try.underlying35 @Try.underlying36)) (And.intro (And.intro @Try.underlying38 @Try.underlying39) (And.intro @Try.underlying57 @Try.underlying60))) (And.intro (And.intro (And.intro @Try.underlying61 @Try.underlying64) (And.intro @Try.underlying26 @Try.underlying32)) (And.intro (And.intro @Try.underlying3 @Try.underlying4) (And.intro @Try.underlying5 @Try.underlying9)))) (And.intro (And.intro (And.intro (And.intro @Try.underlying23 @Try.underlying24) (And.intro @Try.underlying0 @Try.underlying54)) (And.intro (And.intro @Try.underlying22 @Try.underlying66) (And.intro @Try.underlying68 @Try.underlying75))) (And.intro (And.intro (And.intro @Try.underlying85 @Try.underlying27) (And.intro @ts34 @ts35)) (And.intro (And.intro @ts36 @ts38) (And.intro @ts39 @ts57))))) (And.intro (And.intro (And.intro (And.intro @ts60 (And.intro @ts61 @ts64)) (And.intro (And.intro @ts26 @ts32) (And.intro @ts3 @ts4))) (And.intro (And.intro (And.intro @ts5 @ts9) (And.intro @ts23 @ts24)) (And.intro (And.intro @ts0 @ts54) (And.intro @ts22 @ts66)))) (And.intro (And.intro (And.intro (And.intro @ts68 @ts75) (And.intro @ts85 @ts27)) (And.intro (And.intro @tz34 @tz35) (And.intro @tz36 @tz38))) (And.intro (And.intro (And.intro @tz39 @tz57) (And.intro @tz60 @tz61)) (And.intro (And.intro @tz64 @tz26) (And.intro @tz32 @tz3)))))) (And.intro (And.intro (And.intro (And.intro (And.intro @tz4 (And.intro @tz5 @tz9)) (And.intro (And.intro @tz23 @tz24) (And.intro @tz0 @tz54))) (And.intro (And.intro (And.intro @tz22 @tz66) (And.intro @tz68 @tz75)) (And.intro (And.intro @tz85 @tz27) (And.intro @tb34 @tb35)))) (And.intro (And.intro (And.intro (And.intro @tb36 @tb38) (And.intro @tb39 @tb57)) (And.intro (And.intro @tb60 @tb61) (And.intro @tb64 @tb26))) (And.intro (And.intro (And.intro @tb32 @tb3) (And.intro @tb4 @tb5)) (And.intro (And.intro @tb9 @tb23) (And.intro @tb24 @tb0))))) (And.intro (And.intro (And.intro (And.intro (And.intro @tb54 @tb22) (And.intro @tb66 @tb68)) (And.intro (And.intro @tb75 @tb85) (And.intro @tb27 @fr10))) (And.intro (And.intro (And.intro @fr11 @fr12) (And.intro @fr19 @fr20)) (And.intro (And.intro @bz38 @al60) (And.intro @al38 @fa38_0)))) (And.intro (And.intro (And.intro (And.intro @fa38_1 @fa64_0) (And.intro @fa64_1 @fa64_2)) (And.intro (And.intro @fa32_0 @fa32_1) (And.intro @fa32_2 @fa32_3))) (And.intro (And.intro (And.intro @fa32_4 @bz85) (And.intro @al68 @al85)) (And.intro (And.intro @fa68_0 @fa85_0) (And.intro @fa85_1 @fa85_2))))))) := (And.intro (And.intro (And.intro (And.intro (And.intro (And.intro @Try.underlying34 (And.intro @Try.underlying35 @Try.underlying36)) (And.intro (And.intro @Try.underlying38 @Try.underlying39) (And.intro @Try.underlying57 @Try.underlying60))) (And.intro (And.intro (And.intro @Try.underlying61 @Try.underlying64) (And.intro @Try.underlying26 @Try.underlying32)) (And.intro (And.intro @Try.underlying3 @Try.underlying4) (And.intro @Try.underlying5 @Try.underlying9)))) (And.intro (And.intro (And.intro (And.intro @Try.underlying23 @Try.underlying24) (And.intro @Try.underlying0 @Try.underlying54)) (And.intro (And.intro @Try.underlying22 @Try.underlying66) (And.intro @Try.underlying68 @Try.underlying75))) (And.intro (And.intro (And.intro @Try.underlying85 @Try.underlying27) (And.intro @ts34 @ts35)) (And.intro (And.intro @ts36 @ts38) (And.intro @ts39 @ts57))))) (And.intro (And.intro (And.intro (And.intro @ts60 (And.intro @ts61 @ts64)) (And.intro (And.intro @ts26 @ts32) (And.intro @ts3 @ts4))) (And.intro (And.intro (And.intro @ts5 @ts9) (And.intro @ts23 @ts24)) (And.intro (And.intro @ts0 @ts54) (And.intro @ts22 @ts66)))) (And.intro (And.intro (And.intro (And.intro @ts68 @ts75) (And.intro @ts85 @ts27)) (And.intro (And.intro @tz34 @tz35) (And.intro @tz36 @tz38))) (And.intro (And.intro (And.intro @tz39 @tz57) (And.intro @tz60 @tz61)) (And.intro (And.intro @tz64 @tz26) (And.intro @tz32 @tz3)))))) (And.intro (And.intro (And.intro (And.intro (And.intro @tz4 (And.intro @tz5 @tz9)) (And.intro (And.intro @tz23 @tz24) (And.intro @tz0 @tz54))) (And.intro (And.intro (And.intro @tz22 @tz66) (And.intro @tz68 @tz75)) (And.intro (And.intro @tz85 @tz27) (And.intro @tb34 @tb35)))) (And.intro (And.intro (And.intro (And.intro @tb36 @tb38) (And.intro @tb39 @tb57)) (And.intro (And.intro @tb60 @tb61) (And.intro @tb64 @tb26))) (And.intro (And.intro (And.intro @tb32 @tb3) (And.intro @tb4 @tb5)) (And.intro (And.intro @tb9 @tb23) (And.intro @tb24 @tb0))))) (And.intro (And.intro (And.intro (And.intro (And.intro @tb54 @tb22) (And.intro @tb66 @tb68)) (And.intro (And.intro @tb75 @tb85) (And.intro @tb27 @fr10))) (And.intro (And.intro (And.intro @fr11 @fr12) (And.intro @fr19 @fr20)) (And.intro (And.intro @bz38 @al60) (And.intro @al38 @fa38_0)))) (And.intro (And.intro (And.intro (And.intro @fa38_1 @fa64_0) (And.intro @fa64_1 @fa64_2)) (And.intro (And.intro @fa32_0 @fa32_1) (And.intro @fa32_2 @fa32_3))) (And.intro (And.intro (And.intro @fa32_4 @bz85) (And.intro @al68 @al85)) (And.intro (And.intro @fa68_0 @fa85_0) (And.intro @fa85_1 @fa85_2)))))))
theorem bin_teq {a : Option Addr} : binV Try.prog .eql 34 (.pointer a) (.pointer none) = some (.bool a.isNone) := by
  cases a <;> simp only [binV, eqCell, Try.underlying34] <;> rfl
theorem bin_meq {a : Option Nat} : binV Try.prog .eql 36 (.map a) (.map none) = some (.bool a.isNone) := by
  cases a <;> simp only [binV, eqCell, Try.underlying36] <;> rfl
theorem bin_sne {a : Option Addr} {n z : Nat} : binV Try.prog .neq 22 (.slice a n z) (.slice none 0 0) = some (.bool (!a.isNone)) := by
  cases a <;> simp only [binV, eqCell, Try.underlying22] <;> rfl
abbrev Key := Int × Int
abbrev keyV (k : Key) : Value := .agg #[.int .i64 k.1, .int .u32 k.2]
theorem key_fit (a b : Int) : keyFit Try.prog 40 60 (.agg #[.int .i64 a, .int .u32 b]) = true := by kernel_rfl
theorem key_held : Try.prog.stoodInHeld 60 = false := by kernel_rfl
theorem key_ok : KeyOk Try.prog 60 keyV := by
  refine ⟨fun a => key_fit a.1 a.2, fun a b => ?_, fun a => ?_⟩
  · simp only [eqIn, Try.underlying60, key_held, Bool.false_eq_true, if_false, eqFields, partOf, aggOf, Try.underlying3, Try.underlying24, List.getElem?_toArray, List.getElem?_cons_zero, List.getElem?_cons_succ, eqCell, if_true]
    obtain ⟨a1, a2⟩ := a
    obtain ⟨b1, b2⟩ := b
    dsimp only
    by_cases h1 : a1 = b1
    · by_cases h2 : a2 = b2
      · subst h1 h2; simp
      · subst h1
        have h3 : (a2 == b2) = false := by simpa using h2
        simp [h3, h2]
    · have h3 : (a1 == b1) = false := by simpa using h1
      simp [h3, h1]
  · simp [keySame, keyList, keyCell]
theorem key_guard : Try.prog.eqGuardType Try.prog.depth 60 = false := by kernel_rfl
theorem bin_keq (i : Key) : binV Try.prog .eql 60 (.agg #[.int .i64 i.1, .int .u32 i.2]) (.agg #[.int .i64 i.1, .int .u32 i.2]) = some (.bool true) := by
  have := key_ok.eq i i
  simp only [binV, key_guard, Bool.false_eq_true, if_false]
  rw [this]
  simp
theorem bin_kne (i : Key) : binV Try.prog .neq 60 (.agg #[.int .i64 i.1, .int .u32 i.2]) (.agg #[.int .i64 i.1, .int .u32 i.2]) = some (.bool false) := by
  have := key_ok.eq i i
  simp only [binV, key_guard, Bool.false_eq_true, if_false]
  rw [this]
  simp

abbrev Part := Option (List Int)
/-- A part's cell. -/
def partR (m : Mem) (p : Part) (c : List Value) : Prop := match p with
  | none => c = [.slice none 0 0]
  | some b => ∃ a z, c = [.slice (some a) b.length z] ∧ FRow m (.slice (some a) b.length z) 1 b.length (byteCells b)
theorem partR.pz {m m' : Mem} (hp : Pz m m') (p : Part) (c : List Value) (h : partR m p c) : partR m' p c := by
  cases p with
  | none => exact h
  | some b => obtain ⟨a, z, h1, h2⟩ := h; exact ⟨a, z, h1, h2.pz hp⟩
theorem partR.len {m : Mem} (p : Part) (c : List Value) (h : partR m p c) : c.length = 1 := by
  cases p with
  | none => rw [partR] at h; rw [h]; rfl
  | some b => obtain ⟨a, z, h1, h2⟩ := h; rw [h1]; rfl
def holes (ps : List Part) : Nat := ps.countP (·.isNone)
/-- A table that holds one letter in parts, or none. -/
structure Tb where
  half : Option (Key × List Part)
  done : List (Key × Bool)
structure HalfIs (m : Mem) (k h : Nat) (lv : Value) (key : Key) (ps : List Part) (r q : Nat) (cs : List Value) : Prop where
  lv : lv = .slice (some ⟨r, 0, none⟩) 1 1
  gr : m.get r = some (.cells [.pointer (some ⟨h, 0, none⟩)] 61 true)
  gh : m.get h = some (.cells [.int .i64 key.1, .int .u32 key.2, .slice (some ⟨q, 0, none⟩) ps.length 1, .int .i64 (holes ps)] 64 true)
  gq : m.get q = some (.cells cs 22 true)
  parts : RowsOf (partR m) ps cs
  lr : k ≤ r ∧ r < m.next
  lh : k ≤ h ∧ h < m.next
  lq : k ≤ q ∧ q < m.next
theorem HalfIs.keep {m m' : Mem} {k h : Nat} {lv : Value} {key : Key} {ps : List Part} {r q : Nat} {cs : List Value} (H : HalfIs m k h lv key ps r q cs) (z : Pz m m') (hr : m'.get r = m.get r) (hh : m'.get h = m.get h) (hq : m'.get q = m.get q) : HalfIs m' k h lv key ps r q cs := by
  obtain ⟨h1, h2, h3, h4, h5, h6, h7, h8⟩ := H
  have := z.1
  exact ⟨h1, hr.trans h2, hh.trans h3, hq.trans h4, h5.mono (partR.pz z), by omega, by omega, by omega⟩
def HalfAt (m : Mem) (k h : Nat) (lv : Value) : Option (Key × List Part) → Prop
  | none => lv = .slice none 0 0
  | some x => ∃ r q cs, HalfIs m k h lv x.1 x.2 r q cs
def BoolR (x : Value) (b : Bool) : Prop := x = .bool b
def DoneAt (m : Mem) (k : Nat) (dv : Value) (done : List (Key × Bool)) : Prop := (dv = .map none ∧ done = []) ∨ ∃ d, dv = .map (some d) ∧ MapIs m d keyV BoolR done ∧ k ≤ d ∧ d < m.next
theorem HalfAt.ext {m m' : Mem} {k h : Nat} {lv : Value} {o : Option (Key × List Part)} (H : HalfAt m k h lv o) (x : Ext m m') : HalfAt m' k h lv o := by
  cases o with
  | none => exact H
  | some y =>
    obtain ⟨r, q, cs, H⟩ := H
    exact ⟨r, q, cs, H.keep x.pz (x.2 r H.lr.2) (x.2 h H.lh.2) (x.2 q H.lq.2)⟩
theorem DoneAt.keep {m m' : Mem} {k : Nat} {dv : Value} {done : List (Key × Bool)} (D : DoneAt m k dv done) (hn : m.next ≤ m'.next) (hd : ∀ d, dv = .map (some d) → m'.get d = m.get d) : DoneAt m' k dv done := by
  rcases D with D | ⟨d, h1, h2, h3, h4⟩
  · exact .inl D
  · exact .inr ⟨d, h1, h2.keep (hd d h1), h3, by omega⟩
theorem DoneAt.ext {m m' : Mem} {k : Nat} {dv : Value} {done : List (Key × Bool)} (D : DoneAt m k dv done) (x : Ext m m') : DoneAt m' k dv done := by
  rcases D with D | ⟨d, h1, h2, h3, h4⟩
  · exact .inl D
  · have := x.1
    exact .inr ⟨d, h1, h2.keep (x.2 d h4), h3, by omega⟩
theorem DoneAt.is {m : Mem} {k : Nat} {dv : Value} {done : List (Key × Bool)} (D : DoneAt m k dv done) : ∃ a, dv = .map a := by
  rcases D with ⟨D, _⟩ | ⟨d, h1, _⟩
  · exact ⟨_, D⟩
  · exact ⟨_, h1⟩
theorem DoneAt.lt {m : Mem} {k : Nat} {dv : Value} {done : List (Key × Bool)} (D : DoneAt m k dv done) {d : Nat} (h : dv = .map (some d)) : k ≤ d ∧ d < m.next ∧ ∃ es, m.get d = some (.map es) := by
  rcases D with ⟨rfl, _⟩ | ⟨d', rfl, ⟨l, h2, _⟩, h3, h4⟩
  · cases h
  · obtain rfl : d' = d := by simpa using h
    exact ⟨h3, h4, _, h2⟩
structure TabAt (m : Mem) (k i : Nat) (T : Tb) : Prop where
  ex : ∃ lv dv h, m.get i = some (.cells [lv, dv] 38 true) ∧ HalfAt m k h lv T.half ∧ DoneAt m k dv T.done
  li : k ≤ i ∧ i < m.next
theorem TabAt.ext {m m' : Mem} {k i : Nat} {T : Tb} (H : TabAt m k i T) (x : Ext m m') : TabAt m' k i T := by
  obtain ⟨⟨lv, dv, h, h1, h2, h3⟩, h4⟩ := H
  have := x.1
  exact ⟨⟨lv, dv, h, (x.2 i h4.2).trans h1, h2.ext x, h3.ext x⟩, by omega⟩
def hasD (done : List (Key × Bool)) (key : Key) : Bool := (mget done key).getD false
theorem look_done {m : Mem} {k : Nat} {dv : Value} {done : List (Key × Bool)} (D : DoneAt m k dv done) (i : Key) : opLookup Try.prog 36 dv (.agg #[.int .i64 i.1, .int .u32 i.2]) false m = some (.bool (hasD done i)) := by
  unfold hasD
  rcases D with ⟨rfl, rfl⟩ | ⟨d, rfl, h, _⟩
  · exact nil_lookup (P := Try.prog) key_ok Try.underlying36 tz4 rfl false
  · cases hg : mget done i with
    | none => exact h.absent (P := Try.prog) key_ok Try.underlying36 tz4 rfl hg false
    | some v =>
      obtain ⟨x, rfl, e⟩ := h.lookup (P := Try.prog) key_ok Try.underlying36 hg false
      exact e
def hlen (o : Option (Key × List Part)) : Nat := if o.isSome then 1 else 0
theorem tlen_ret {m : Mem} {k i : Nat} {T : Tb} (H : TabAt m k i T) {K : Value → Mem → Prop} (hK : K (.int .i64 (hlen T.half)) m) : Ret Try.prog 12 [.pointer (some ⟨i, 0, none⟩)] m K := by
  refine ret_wp [] Try.func12 rfl (by decide) (by kernel_rfl) ?_
  obtain ⟨⟨lv, dv, h, h1, h2, h3⟩, h4⟩ := H
  unfold hlen at hK
  cases hT : T.half with
  | none =>
    rw [hT] at h2 hK
    rw [HalfAt] at h2
    subst h2
    simp only [evOp, evParts, okVal, ev1, evs, evOpt, envOf, List.lookup_nil, List.size_toArray, List.length_cons, List.length_nil, List.range, List.range.loop, Nat.zero_add, Nat.reduceAdd, Bool.not_false, Bool.not_true, Bool.true_or, if_true, if_false, reduceIte, Nat.reduceEqDiff, reduceCtorEq, List.getElem?_toArray, List.getElem?_cons_zero, List.getElem?_cons_succ, guardOf, constOk, constCell, evBuiltin, opLen, List.head?_cons, foldV, min2V, max2V, Int.reduceLT, Int.reduceEq, Kend, resOf, Bool.false_eq_true, Bool.true_eq_false, IntKind.signed, IntKind.max, opConvert, opIndexAddr, opLoad, aggOf, Option.some.injEq, Value.bool.injEq, exists_eq_left', true_and, forall_const, decide_eq_true_eq, decide_eq_false_iff_not, Int.natCast_nonneg, and_self, Int.toNat_natCast, Nat.mul_one, List.append_nil, beq_self_eq_true, Nat.lt_irrefl, Nat.zero_lt_succ, Nat.reduceLT, Option.bind_some, bin_teq, bin_meq, bin_sne, veq_ints, veq_map, new_get_if, new_next, set_get_if, set_next, decide_true, decide_false, beq_tt, beq_tf, beq_ft, beq_ff, undef, Nat.left_eq_add, Nat.add_eq_left, List.drop_zero, List.drop_succ_cons, List.take_succ_cons, List.take_zero, List.drop_nil, opBox, Value.cells, opStore, setCells, List.length_append, Nat.reduceLeDiff, Nat.add_zero, Nat.add_assoc, Nat.add_right_cancel_iff, List.cons_append, List.nil_append, Array.toList, Option.isNone_none, Option.isNone_some, bin_weq, bin_wneq, bin_req, bin_rneq, ne_eq, not_true_eq_false, not_false_eq_true, wk0, fxC18x, h1]
    exact hK
  | some x =>
    rw [hT] at h2 hK
    obtain ⟨r, q, cs, h2⟩ := h2
    obtain rfl := h2.lv
    simp only [evOp, evParts, okVal, ev1, evs, evOpt, envOf, List.lookup_nil, List.size_toArray, List.length_cons, List.length_nil, List.range, List.range.loop, Nat.zero_add, Nat.reduceAdd, Bool.not_false, Bool.not_true, Bool.true_or, if_true, if_false, reduceIte, Nat.reduceEqDiff, reduceCtorEq, List.getElem?_toArray, List.getElem?_cons_zero, List.getElem?_cons_succ, guardOf, constOk, constCell, evBuiltin, opLen, List.head?_cons, foldV, min2V, max2V, Int.reduceLT, Int.reduceEq, Kend, resOf, Bool.false_eq_true, Bool.true_eq_false, IntKind.signed, IntKind.max, opConvert, opIndexAddr, opLoad, aggOf, Option.some.injEq, Value.bool.injEq, exists_eq_left', true_and, forall_const, decide_eq_true_eq, decide_eq_false_iff_not, Int.natCast_nonneg, and_self, Int.toNat_natCast, Nat.mul_one, List.append_nil, beq_self_eq_true, Nat.lt_irrefl, Nat.zero_lt_succ, Nat.reduceLT, Option.bind_some, bin_teq, bin_meq, bin_sne, veq_ints, veq_map, new_get_if, new_next, set_get_if, set_next, decide_true, decide_false, beq_tt, beq_tf, beq_ft, beq_ff, undef, Nat.left_eq_add, Nat.add_eq_left, List.drop_zero, List.drop_succ_cons, List.take_succ_cons, List.take_zero, List.drop_nil, opBox, Value.cells, opStore, setCells, List.length_append, Nat.reduceLeDiff, Nat.add_zero, Nat.add_assoc, Nat.add_right_cancel_iff, List.cons_append, List.nil_append, Array.toList, Option.isNone_none, Option.isNone_some, bin_weq, bin_wneq, bin_req, bin_rneq, ne_eq, not_true_eq_false, not_false_eq_true, wk0, fxC18x, h1]
    exact hK
theorem tlen_nil {m : Mem} {K : Value → Mem → Prop} (hK : K (.int .i64 0) m) : Ret Try.prog 12 [.pointer none] m K := by
  refine ret_wp [] Try.func12 rfl (by decide) (by kernel_rfl) ?_
  simp only [evOp, evParts, okVal, ev1, evs, evOpt, envOf, List.lookup_nil, List.size_toArray, List.length_cons, List.length_nil, List.range, List.range.loop, Nat.zero_add, Nat.reduceAdd, Bool.not_false, Bool.not_true, Bool.true_or, if_true, if_false, reduceIte, Nat.reduceEqDiff, reduceCtorEq, List.getElem?_toArray, List.getElem?_cons_zero, List.getElem?_cons_succ, guardOf, constOk, constCell, evBuiltin, opLen, List.head?_cons, foldV, min2V, max2V, Int.reduceLT, Int.reduceEq, Kend, resOf, Bool.false_eq_true, Bool.true_eq_false, IntKind.signed, IntKind.max, opConvert, opIndexAddr, opLoad, aggOf, Option.some.injEq, Value.bool.injEq, exists_eq_left', true_and, forall_const, decide_eq_true_eq, decide_eq_false_iff_not, Int.natCast_nonneg, and_self, Int.toNat_natCast, Nat.mul_one, List.append_nil, beq_self_eq_true, Nat.lt_irrefl, Nat.zero_lt_succ, Nat.reduceLT, Option.bind_some, bin_teq, bin_meq, bin_sne, veq_ints, veq_map, new_get_if, new_next, set_get_if, set_next, decide_true, decide_false, beq_tt, beq_tf, beq_ft, beq_ff, undef, Nat.left_eq_add, Nat.add_eq_left, List.drop_zero, List.drop_succ_cons, List.take_succ_cons, List.take_zero, List.drop_nil, opBox, Value.cells, opStore, setCells, List.length_append, Nat.reduceLeDiff, Nat.add_zero, Nat.add_assoc, Nat.add_right_cancel_iff, List.cons_append, List.nil_append, Array.toList, Option.isNone_none, Option.isNone_some, bin_weq, bin_wneq, bin_req, bin_rneq, ne_eq, not_true_eq_false, not_false_eq_true, wk0, fxC18x]
  exact hK
theorem one_half (m : Mem) (a : Option Addr) : opBuildSlice Try.prog 35 1 [(0, .pointer a)] m = some (.slice (some ⟨m.next, 0, none⟩) 1 1, m.new (.cells [.pointer a] 61 true)) := by kernel_rfl
theorem app_half {M : Mem} {i : Nat} {p : Value} (hg : M.get i = some (.cells [p] 61 true)) : opAppend Try.prog [35, 35] [.slice none 0 0, .slice (some ⟨i, 0, none⟩) 1 1] M = some (.slice (some ⟨M.next, 0, none⟩) 1 1, M.new (.cells [p] 61 true)) := by
  have ha : addedBy Try.prog (some 35) 1 (.pointer none) (.slice (some ⟨i, 0, none⟩) 1 1) M = some (1, [p]) := by
    simp only [addedBy, Try.underlying35, shown, hg]
    simp
  simp only [opAppend, Try.underlying35, ts61, tz61, tb61, List.head?_cons, ha]
  rfl
theorem bld64 (f l : Int) (a : Option Addr) (n z : Nat) (k : Int) : opBuild Try.prog 64 [(0, .agg #[.int .i64 f, .int .u32 l]), (1, .slice a n z), (2, .int .i64 k)] = some (.agg #[.int .i64 f, .int .u32 l, .slice a n z, .int .i64 k]) := by kernel_rfl

theorem find_old {m : Mem} {k i h r q : Nat} {key : Key} {ps : List Part} {lv dv : Value} {cs : List Value} {n : Int} (gi : m.get i = some (.cells [lv, dv] 38 true)) (li : i < m.next) (H : HalfIs m k h lv key ps r q cs) {K : Value → Mem → Prop}
    (hK : ∀ m', Ext m m' → K (.pointer (some ⟨h, 0, none⟩)) m') : Ret Try.prog 19 [.pointer (some ⟨i, 0, none⟩), keyV key, .int .i64 n] m K := by
  refine ret_wp [] Try.func19 rfl (by decide) (by kernel_rfl) ?_
  obtain rfl := H.lv
  have n1 : ¬ i = m.next := by omega
  have n2 : ¬ r = m.next := by have := H.lr; omega
  have n3 : ¬ h = m.next := by have := H.lh; omega
  simp only [evOp, evParts, okVal, ev1, evs, evOpt, envOf, List.lookup_nil, List.size_toArray, List.length_cons, List.length_nil, List.range, List.range.loop, Nat.zero_add, Nat.reduceAdd, Bool.not_false, Bool.not_true, Bool.true_or, if_true, if_false, reduceIte, Nat.reduceEqDiff, reduceCtorEq, List.getElem?_toArray, List.getElem?_cons_zero, List.getElem?_cons_succ, guardOf, constOk, constCell, evBuiltin, opLen, List.head?_cons, foldV, min2V, max2V, Int.reduceLT, Int.reduceEq, Kend, resOf, Bool.false_eq_true, Bool.true_eq_false, IntKind.signed, IntKind.max, opConvert, opIndexAddr, opLoad, aggOf, Option.some.injEq, Value.bool.injEq, exists_eq_left', true_and, forall_const, decide_eq_true_eq, decide_eq_false_iff_not, Int.natCast_nonneg, and_self, Int.toNat_natCast, Nat.mul_one, List.append_nil, beq_self_eq_true, Nat.lt_irrefl, Nat.zero_lt_succ, Nat.reduceLT, Option.bind_some, bin_teq, bin_meq, bin_sne, veq_ints, veq_map, new_get_if, new_next, set_get_if, set_next, decide_true, decide_false, beq_tt, beq_tf, beq_ft, beq_ff, undef, Nat.left_eq_add, Nat.add_eq_left, List.drop_zero, List.drop_succ_cons, List.take_succ_cons, List.take_zero, List.drop_nil, opBox, Value.cells, opStore, setCells, List.length_append, Nat.reduceLeDiff, Nat.add_zero, Nat.add_assoc, Nat.add_right_cancel_iff, List.cons_append, List.nil_append, Array.toList, Option.isNone_none, Option.isNone_some, bin_weq, bin_wneq, bin_req, bin_rneq, ne_eq, not_true_eq_false, not_false_eq_true, wk0, fxC18x, gi, n1]
  refine loop_wp [] (by kernel_rfl) (fun _ env μ => μ = m.new (.cells [.int .i64 key.1, .int .u32 key.2] 60 true) ∧ env 4 = some (.pointer (some ⟨m.next, 0, none⟩)) ∧ env 13 = some (.slice (some ⟨r, 0, none⟩) 1 1) ∧ env 14 = some (.int .i64 1) ∧ env 15 = some (.int .i64 0)) ?_ 0 ⟨rfl, rfl, rfl, rfl, rfl⟩
  rintro _ env μ ⟨rfl, e4, e13, e14, e15⟩
  have ix : opIndexAddr Try.prog 35 (.slice (some ⟨r, 0, none⟩) 1 1) (.int .i64 0) = some (.pointer (some ⟨r, 0, none⟩)) := by kernel_rfl
  simp only [evOp, evParts, okVal, ev1, evs, evOpt, envOf, List.lookup_nil, List.size_toArray, List.length_cons, List.length_nil, List.range, List.range.loop, Nat.zero_add, Nat.reduceAdd, Bool.not_false, Bool.not_true, Bool.true_or, if_true, if_false, reduceIte, Nat.reduceEqDiff, reduceCtorEq, List.getElem?_toArray, List.getElem?_cons_zero, List.getElem?_cons_succ, guardOf, constOk, constCell, evBuiltin, opLen, List.head?_cons, foldV, min2V, max2V, Int.reduceLT, Int.reduceEq, Kend, resOf, Bool.false_eq_true, Bool.true_eq_false, IntKind.signed, IntKind.max, opConvert, opLoad, aggOf, Option.some.injEq, Value.bool.injEq, exists_eq_left', true_and, forall_const, decide_eq_true_eq, decide_eq_false_iff_not, Int.natCast_nonneg, and_self, Int.toNat_natCast, Nat.mul_one, List.append_nil, beq_self_eq_true, Nat.lt_irrefl, Nat.zero_lt_succ, Nat.reduceLT, Option.bind_some, bin_teq, bin_meq, bin_sne, veq_ints, veq_map, new_get_if, new_next, set_get_if, set_next, decide_true, decide_false, beq_tt, beq_tf, beq_ft, beq_ff, undef, Nat.left_eq_add, Nat.add_eq_left, List.drop_zero, List.drop_succ_cons, List.take_succ_cons, List.take_zero, List.drop_nil, opBox, Value.cells, opStore, setCells, List.length_append, Nat.reduceLeDiff, Nat.add_zero, Nat.add_assoc, Nat.add_right_cancel_iff, List.cons_append, List.nil_append, Array.toList, Option.isNone_none, Option.isNone_some, bin_weq, bin_wneq, bin_req, bin_rneq, ne_eq, not_true_eq_false, not_false_eq_true, wk0, fxC18x, e4, e13, e14, e15, ix, H.gr, H.gh, n2, n3, bin_keq, Int.reduceLT]
  exact hK _ (Ext.new _ _)

theorem rows_none (m : Mem) (n : Nat) : RowsOf (partR m) (List.replicate n none) (List.replicate n (.slice none 0 0)) := by
  induction n with
  | zero => rfl
  | succ n ih => exact ⟨[_], _, rfl, rfl, ih⟩
theorem find_new {m : Mem} {i : Nat} {key : Key} {dv : Value} {n : Nat} (gi : m.get i = some (.cells [.slice none 0 0, dv] 38 true)) (li : i < m.next) (hn : n ≤ 100) {K : Value → Mem → Prop}
    (hK : ∀ m' h r q lv, HalfIs m' m.next h lv key (List.replicate n none) r q (List.replicate n (.slice none 0 0)) → m'.get i = some (.cells [lv, dv] 38 true) → m.next ≤ m'.next → (∀ j, j < m.next → j ≠ i → m'.get j = m.get j) → K (.pointer (some ⟨h, 0, none⟩)) m') : Ret Try.prog 19 [.pointer (some ⟨i, 0, none⟩), keyV key, .int .i64 n] m K := by
  refine ret_wp [] Try.func19 rfl (by decide) (by kernel_rfl) ?_
  have n1 : ¬ i = m.next := by omega
  simp only [evOp, evParts, okVal, ev1, evs, evOpt, envOf, List.lookup_nil, List.size_toArray, List.length_cons, List.length_nil, List.range, List.range.loop, Nat.zero_add, Nat.reduceAdd, Bool.not_false, Bool.not_true, Bool.true_or, if_true, if_false, reduceIte, Nat.reduceEqDiff, reduceCtorEq, List.getElem?_toArray, List.getElem?_cons_zero, List.getElem?_cons_succ, guardOf, constOk, constCell, evBuiltin, opLen, List.head?_cons, foldV, min2V, max2V, Int.reduceLT, Int.reduceEq, Kend, resOf, Bool.false_eq_true, Bool.true_eq_false, IntKind.signed, IntKind.max, opConvert, opIndexAddr, opLoad, aggOf, Option.some.injEq, Value.bool.injEq, exists_eq_left', true_and, forall_const, decide_eq_true_eq, decide_eq_false_iff_not, Int.natCast_nonneg, and_self, Int.toNat_natCast, Nat.mul_one, List.append_nil, beq_self_eq_true, Nat.lt_irrefl, Nat.zero_lt_succ, Nat.reduceLT, Option.bind_some, bin_teq, bin_meq, bin_sne, veq_ints, veq_map, new_get_if, new_next, set_get_if, set_next, decide_true, decide_false, beq_tt, beq_tf, beq_ft, beq_ff, undef, Nat.left_eq_add, Nat.add_eq_left, List.drop_zero, List.drop_succ_cons, List.take_succ_cons, List.take_zero, List.drop_nil, opBox, Value.cells, opStore, setCells, List.length_append, Nat.reduceLeDiff, Nat.add_zero, Nat.add_assoc, Nat.add_right_cancel_iff, List.cons_append, List.nil_append, Array.toList, Option.isNone_none, Option.isNone_some, bin_weq, bin_wneq, bin_req, bin_rneq, ne_eq, not_true_eq_false, not_false_eq_true, wk0, fxC18x, gi, n1]
  refine loop_wp [] (by kernel_rfl) (fun _ env μ => μ = m.new (.cells [.int .i64 key.1, .int .u32 key.2] 60 true) ∧ env 0 = some (.pointer (some ⟨i, 0, none⟩)) ∧ env 2 = some (.int .i64 n) ∧ env 4 = some (.pointer (some ⟨m.next, 0, none⟩)) ∧ env 13 = some (.slice none 0 0) ∧ env 14 = some (.int .i64 0) ∧ env 15 = some (.int .i64 0)) ?_ 0 ⟨rfl, rfl, rfl, rfl, rfl, rfl, rfl⟩
  rintro _ env μ ⟨rfl, e0, e2, e4, e13, e14, e15⟩
  have mk : ∀ M : Mem, opMakeSlice Try.prog 57 (.int .i64 (n : Int)) (.int .i64 (n : Int)) M = some (.slice (some ⟨M.next, 0, none⟩) n 1, M.new (.cells (List.replicate n (.slice none 0 0)) 22 true)) := fun M => make_one (P := Try.prog) Try.underlying57 ts22 tz22 tb22 rfl rfl rfl (by omega) (by omega)
  have n2 : ¬ i = m.next + 1 := by omega
  have n3 : ¬ i = m.next + 2 := by omega
  have n4 : ¬ i = m.next + 3 := by omega
  have n5 : ¬ i = m.next + 4 := by omega
  have ap : ∀ (M : Mem) (p : Value), opAppend Try.prog [35, 35] [.slice none 0 0, .slice (some ⟨M.next, 0, none⟩) 1 1] (M.new (.cells [p] 61 true)) = some (.slice (some ⟨M.next + 1, 0, none⟩) 1 1, (M.new (.cells [p] 61 true)).new (.cells [p] 61 true)) := fun M p => app_half (new_get _ _)
  obtain ⟨M0, hM0⟩ : ∃ M0, M0 = ((m.new (Blk.cells [Value.int IntKind.i64 key.fst, Value.int IntKind.u32 key.snd] 60 true)).new (Blk.cells (List.replicate n (Value.slice none 0 0)) 22 true)).new (Blk.cells [Value.int IntKind.i64 key.fst, Value.int IntKind.u32 key.snd, Value.slice (some { block := m.next + 1, off := 0 }) n 1, Value.int IntKind.i64 ↑n] 64 true) := ⟨_, rfl⟩
  have N0 : M0.next = m.next + 3 := by rw [hM0]; rfl
  have x0 : Ext m M0 := by rw [hM0]; exact new3_ext _ _ _ _
  have g0 := (x0.2 i li).trans gi
  have gh : M0.get (m.next + 2) = some (Blk.cells [Value.int IntKind.i64 key.fst, Value.int IntKind.u32 key.snd, Value.slice (some { block := m.next + 1, off := 0 }) n 1, Value.int IntKind.i64 ↑n] 64 true) := by rw [hM0]; exact new3_2 _ _ _ _
  have gq : M0.get (m.next + 1) = some (Blk.cells (List.replicate n (Value.slice none 0 0)) 22 true) := by rw [hM0]; exact new3_1 _ _ _ _
  have n6 : ¬ i = M0.next := by omega
  have n7 : ¬ i = M0.next + 1 := by omega
  simp only [evOp, evParts, okVal, ev1, evs, evOpt, envOf, List.lookup_nil, List.size_toArray, List.length_cons, List.length_nil, List.range, List.range.loop, Nat.zero_add, Nat.reduceAdd, Bool.not_false, Bool.not_true, Bool.true_or, if_true, if_false, reduceIte, Nat.reduceEqDiff, reduceCtorEq, List.getElem?_toArray, List.getElem?_cons_zero, List.getElem?_cons_succ, guardOf, constOk, constCell, evBuiltin, opLen, List.head?_cons, foldV, min2V, max2V, Int.reduceLT, Int.reduceEq, Kend, resOf, Bool.false_eq_true, Bool.true_eq_false, IntKind.signed, IntKind.max, opConvert, opIndexAddr, opLoad, aggOf, Option.some.injEq, Value.bool.injEq, exists_eq_left', true_and, forall_const, decide_eq_true_eq, decide_eq_false_iff_not, Int.natCast_nonneg, and_self, Int.toNat_natCast, Nat.mul_one, List.append_nil, beq_self_eq_true, Nat.lt_irrefl, Nat.zero_lt_succ, Nat.reduceLT, Option.bind_some, bin_teq, bin_meq, bin_sne, veq_ints, veq_map, new_next, set_get_if, set_next, decide_true, decide_false, beq_tt, beq_tf, beq_ft, beq_ff, undef, Nat.left_eq_add, Nat.add_eq_left, List.drop_zero, List.drop_succ_cons, List.take_succ_cons, List.take_zero, List.drop_nil, opBox, Value.cells, opStore, setCells, List.length_append, Nat.reduceLeDiff, Nat.add_zero, Nat.add_assoc, Nat.add_right_cancel_iff, List.cons_append, List.nil_append, Array.toList, Option.isNone_none, Option.isNone_some, bin_weq, bin_wneq, bin_req, bin_rneq, ne_eq, not_true_eq_false, not_false_eq_true, wk0, fxC18x, e0, e2, e4, e13, e14, e15, mk, gi, n1, n2, new_get_if m, bld64]
  rw [← hM0]
  clear hM0
  have h16 : decide ((16 : Int) < ((1 : Nat) : Int)) = false := by decide
  simp only [evOp, evParts, okVal, ev1, evs, evOpt, envOf, List.lookup_nil, List.size_toArray, List.length_cons, List.length_nil, List.range, List.range.loop, Nat.zero_add, Nat.reduceAdd, Bool.not_false, Bool.not_true, Bool.true_or, if_true, if_false, reduceIte, Nat.reduceEqDiff, reduceCtorEq, List.getElem?_toArray, List.getElem?_cons_zero, List.getElem?_cons_succ, guardOf, constOk, constCell, evBuiltin, opLen, List.head?_cons, foldV, min2V, max2V, Int.reduceLT, Int.reduceEq, Kend, resOf, Bool.false_eq_true, Bool.true_eq_false, IntKind.signed, IntKind.max, opConvert, opIndexAddr, opLoad, aggOf, Option.some.injEq, Value.bool.injEq, exists_eq_left', true_and, forall_const, decide_eq_true_eq, decide_eq_false_iff_not, Int.natCast_nonneg, and_self, Int.toNat_natCast, Nat.mul_one, List.append_nil, beq_self_eq_true, Nat.lt_irrefl, Nat.zero_lt_succ, Nat.reduceLT, Option.bind_some, bin_teq, bin_meq, bin_sne, veq_ints, veq_map, new_get_if, new_next, set_get_if, set_next, decide_true, decide_false, beq_tt, beq_tf, beq_ft, beq_ff, undef, Nat.left_eq_add, Nat.add_eq_left, List.drop_zero, List.drop_succ_cons, List.take_succ_cons, List.take_zero, List.drop_nil, opBox, Value.cells, opStore, setCells, List.length_append, Nat.reduceLeDiff, Nat.add_zero, Nat.add_assoc, Nat.add_right_cancel_iff, List.cons_append, List.nil_append, Array.toList, Option.isNone_none, Option.isNone_some, bin_weq, bin_wneq, bin_req, bin_rneq, ne_eq, not_true_eq_false, not_false_eq_true, wk0, fxC18x, h16, e0, e2, e4, g0, one_half, ap, n6, n7, Int.reduceLT]
  have a1 : ∀ j, j < m.next + 3 → j ≠ i → (((M0.new (.cells [.pointer (some ⟨m.next + 2, 0, none⟩)] 61 true)).new (.cells [.pointer (some ⟨m.next + 2, 0, none⟩)] 61 true)).set i (.cells [.slice (some ⟨M0.next + 1, 0, none⟩) 1 1, dv] 38 true)).get j = M0.get j := fun j hj hn => by
    rw [set_get_ne _ hn, new_get_ne _ (by simp only [new_next]; omega), new_get_ne _ (by omega)]
  refine hK _ (m.next + 2) (M0.next + 1) (m.next + 1) _ ⟨rfl, ?_, ?_, ?_, ?_, ?_, ?_, ?_⟩ (set_get _ _ _) ?_ (fun j hj hn => (a1 j (by omega) hn).trans (x0.2 j hj))
  · rw [set_get_ne _ (by omega)]
    exact new_get _ _
  · rw [a1 _ (by omega) (by omega), gh, List.length_replicate]
    have : holes (List.replicate n none) = n := by simp [holes, List.countP_replicate]
    rw [this]
  · rw [a1 _ (by omega) (by omega), gq]
  · exact rows_none _ _
  all_goals (simp only [set_next, new_next]; omega)

theorem drop_ret {m : Mem} {k i h r q : Nat} {key : Key} {ps : List Part} {lv dv : Value} {cs : List Value} (gi : m.get i = some (.cells [lv, dv] 38 true)) (li : i < m.next) (H : HalfIs m k h lv key ps r q cs) {K : Value → Mem → Prop}
    (hK : ∀ m', m'.get i = some (.cells [.slice none 0 0, dv] 38 true) → m.next ≤ m'.next → (∀ j, j < m.next → j ≠ i → m'.get j = m.get j) → K (.tuple #[]) m') : Ret Try.prog 20 [.pointer (some ⟨i, 0, none⟩), keyV key] m K := by
  refine ret_wp [] Try.func20 rfl (by decide) (by kernel_rfl) ?_
  obtain rfl := H.lv
  have n1 : ¬ i = m.next := by omega
  have n2 : ¬ r = m.next := by have := H.lr; omega
  have n3 : ¬ h = m.next := by have := H.lh; omega
  simp only [evOp, evParts, okVal, ev1, evs, evOpt, envOf, List.lookup_nil, List.size_toArray, List.length_cons, List.length_nil, List.range, List.range.loop, Nat.zero_add, Nat.reduceAdd, Bool.not_false, Bool.not_true, Bool.true_or, if_true, if_false, reduceIte, Nat.reduceEqDiff, reduceCtorEq, List.getElem?_toArray, List.getElem?_cons_zero, List.getElem?_cons_succ, guardOf, constOk, constCell, evBuiltin, opLen, List.head?_cons, foldV, min2V, max2V, Int.reduceLT, Int.reduceEq, Kend, resOf, Bool.false_eq_true, Bool.true_eq_false, IntKind.signed, IntKind.max, opConvert, opIndexAddr, opLoad, aggOf, Option.some.injEq, Value.bool.injEq, exists_eq_left', true_and, forall_const, decide_eq_true_eq, decide_eq_false_iff_not, Int.natCast_nonneg, and_self, Int.toNat_natCast, Nat.mul_one, List.append_nil, beq_self_eq_true, Nat.lt_irrefl, Nat.zero_lt_succ, Nat.reduceLT, Option.bind_some, bin_teq, bin_meq, bin_sne, veq_ints, veq_map, new_get_if, new_next, set_get_if, set_next, decide_true, decide_false, beq_tt, beq_tf, beq_ft, beq_ff, undef, Nat.left_eq_add, Nat.add_eq_left, List.drop_zero, List.drop_succ_cons, List.take_succ_cons, List.take_zero, List.drop_nil, opBox, Value.cells, opStore, setCells, List.length_append, Nat.reduceLeDiff, Nat.add_zero, Nat.add_assoc, Nat.add_right_cancel_iff, List.cons_append, List.nil_append, Array.toList, Option.isNone_none, Option.isNone_some, bin_weq, bin_wneq, bin_req, bin_rneq, ne_eq, not_true_eq_false, not_false_eq_true, wk0, fxC18x, gi, n1]
  refine loop_wp [] (by kernel_rfl) (fun k env μ => ∃ j : Nat, k + j = 1 ∧ μ = m.new (.cells [.int .i64 key.1, .int .u32 key.2] 60 true) ∧ env 0 = some (.pointer (some ⟨i, 0, none⟩)) ∧ env 3 = some (.pointer (some ⟨m.next, 0, none⟩)) ∧ env 4 = some (.slice none 0 0) ∧ env 10 = some (.slice (some ⟨r, 0, none⟩) 1 1) ∧ env 11 = some (.int .i64 1) ∧ env 12 = some (.int .i64 j)) ?_ 1 ⟨0, rfl, rfl, rfl, rfl, rfl, rfl, rfl, rfl⟩
  rintro k env μ ⟨j, hk, rfl, e0, e3, e4, e10, e11, e12⟩
  have ix : opIndexAddr Try.prog 35 (.slice (some ⟨r, 0, none⟩) 1 1) (.int .i64 ((0 : Nat) : Int)) = some (.pointer (some ⟨r, 0, none⟩)) := by kernel_rfl
  simp only [evOp, evParts, okVal, ev1, evs, evOpt, envOf, List.lookup_nil, List.size_toArray, List.length_cons, List.length_nil, List.range, List.range.loop, Nat.zero_add, Nat.reduceAdd, Bool.not_false, Bool.not_true, Bool.true_or, if_true, if_false, reduceIte, Nat.reduceEqDiff, reduceCtorEq, List.getElem?_toArray, List.getElem?_cons_zero, List.getElem?_cons_succ, guardOf, constOk, constCell, evBuiltin, opLen, List.head?_cons, foldV, min2V, max2V, Int.reduceLT, Int.reduceEq, Kend, resOf, Bool.false_eq_true, Bool.true_eq_false, IntKind.signed, IntKind.max, opConvert, opIndexAddr, opLoad, aggOf, Option.some.injEq, Value.bool.injEq, exists_eq_left', true_and, forall_const, decide_eq_true_eq, decide_eq_false_iff_not, Int.natCast_nonneg, and_self, Int.toNat_natCast, Nat.mul_one, List.append_nil, beq_self_eq_true, Nat.lt_irrefl, Nat.zero_lt_succ, Nat.reduceLT, Option.bind_some, bin_teq, bin_meq, bin_sne, veq_ints, veq_map, new_get_if, new_next, set_get_if, set_next, decide_true, decide_false, beq_tt, beq_tf, beq_ft, beq_ff, undef, Nat.left_eq_add, Nat.add_eq_left, List.drop_zero, List.drop_succ_cons, List.take_succ_cons, List.take_zero, List.drop_nil, opBox, Value.cells, opStore, setCells, List.length_append, Nat.reduceLeDiff, Nat.add_zero, Nat.add_assoc, Nat.add_right_cancel_iff, List.cons_append, List.nil_append, Array.toList, Option.isNone_none, Option.isNone_some, bin_weq, bin_wneq, bin_req, bin_rneq, ne_eq, not_true_eq_false, not_false_eq_true, wk0, fxC18x, e11, e12]
  refine cond_by (fun hlt => ?_) (fun hge => ?_)
  · obtain rfl : j = 0 := by omega
    simp only [evOp, evParts, okVal, ev1, evs, evOpt, envOf, List.lookup_nil, List.size_toArray, List.length_cons, List.length_nil, List.range, List.range.loop, Nat.zero_add, Nat.reduceAdd, Bool.not_false, Bool.not_true, Bool.true_or, if_true, if_false, reduceIte, Nat.reduceEqDiff, reduceCtorEq, List.getElem?_toArray, List.getElem?_cons_zero, List.getElem?_cons_succ, guardOf, constOk, constCell, evBuiltin, opLen, List.head?_cons, foldV, min2V, max2V, Int.reduceLT, Int.reduceEq, Kend, resOf, Bool.false_eq_true, Bool.true_eq_false, IntKind.signed, IntKind.max, opConvert, opLoad, aggOf, Option.some.injEq, Value.bool.injEq, exists_eq_left', true_and, forall_const, decide_eq_true_eq, decide_eq_false_iff_not, Int.natCast_nonneg, and_self, Int.toNat_natCast, Nat.mul_one, List.append_nil, beq_self_eq_true, Nat.lt_irrefl, Nat.zero_lt_succ, Nat.reduceLT, Option.bind_some, bin_teq, bin_meq, bin_sne, veq_ints, veq_map, new_get_if, new_next, set_get_if, set_next, decide_true, decide_false, beq_tt, beq_tf, beq_ft, beq_ff, undef, Nat.left_eq_add, Nat.add_eq_left, List.drop_zero, List.drop_succ_cons, List.take_succ_cons, List.take_zero, List.drop_nil, opBox, Value.cells, opStore, setCells, List.length_append, Nat.reduceLeDiff, Nat.add_zero, Nat.add_assoc, Nat.add_right_cancel_iff, List.cons_append, List.nil_append, Array.toList, Option.isNone_none, Option.isNone_some, bin_weq, bin_wneq, bin_req, bin_rneq, ne_eq, not_true_eq_false, not_false_eq_true, wk0, fxC18x, e0, e3, e4, e10, e11, e12, ix, H.gr, H.gh, n2, n3, bin_kne, Int.reduceLT]
    exact ⟨0, by omega, 1, rfl, rfl⟩
  · simp only [evOp, evParts, okVal, ev1, evs, evOpt, envOf, List.lookup_nil, List.size_toArray, List.length_cons, List.length_nil, List.range, List.range.loop, Nat.zero_add, Nat.reduceAdd, Bool.not_false, Bool.not_true, Bool.true_or, if_true, if_false, reduceIte, Nat.reduceEqDiff, reduceCtorEq, List.getElem?_toArray, List.getElem?_cons_zero, List.getElem?_cons_succ, guardOf, constOk, constCell, evBuiltin, opLen, List.head?_cons, foldV, min2V, max2V, Int.reduceLT, Int.reduceEq, Kend, resOf, Bool.false_eq_true, Bool.true_eq_false, IntKind.signed, IntKind.max, opConvert, opIndexAddr, opLoad, aggOf, Option.some.injEq, Value.bool.injEq, exists_eq_left', true_and, forall_const, decide_eq_true_eq, decide_eq_false_iff_not, Int.natCast_nonneg, and_self, Int.toNat_natCast, Nat.mul_one, List.append_nil, beq_self_eq_true, Nat.lt_irrefl, Nat.zero_lt_succ, Nat.reduceLT, Option.bind_some, bin_teq, bin_meq, bin_sne, veq_ints, veq_map, new_get_if, new_next, set_get_if, set_next, decide_true, decide_false, beq_tt, beq_tf, beq_ft, beq_ff, undef, Nat.left_eq_add, Nat.add_eq_left, List.drop_zero, List.drop_succ_cons, List.take_succ_cons, List.take_zero, List.drop_nil, opBox, Value.cells, opStore, setCells, List.length_append, Nat.reduceLeDiff, Nat.add_zero, Nat.add_assoc, Nat.add_right_cancel_iff, List.cons_append, List.nil_append, Array.toList, Option.isNone_none, Option.isNone_some, bin_weq, bin_wneq, bin_req, bin_rneq, ne_eq, not_true_eq_false, not_false_eq_true, wk0, fxC18x, e0, e3, e4, e10, e11, e12, gi, n1]
    refine hK _ (set_get _ _ _) (by simp only [set_next, new_next]; omega) fun j hj hn => ?_
    rw [set_get_ne _ hn, new_get_ne _ (by omega)]
end Go.Proofs.Ytiacdjobmfhgoaa
