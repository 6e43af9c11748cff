/- A text of the abstract machine. -/



/- A chair: what its functions come to. -/
import Derived.Test.YtgecmpgpinihhaaAmC16e
import Derived.Test.YtgecmpgpinihhaaAmBun
set_option linter.unusedSimpArgs false
set_option linter.unusedVariables false
set_option maxRecDepth 100000
set_option maxHeartbeats 4000000
namespace Go.Proofs.Ytgecmpgpinihhaa
open Go Go.AM Go.AM.Crc Go.AM.Wire
theorem fxC16c : type_of% (And.intro (And.intro (And.intro (And.intro (And.intro (And.intro (And.intro @Try.underlying3 @Try.underlying4) (And.intro @Try.underlying5 @Try.underlying9)) (And.intro (And.intro @Try.underlying30 @Try.underlying33) (And.intro @Try.underlying103 (And.intro @Try.underlying78 @Try.underlying22)))) (And.intro (And.intro (And.intro @Try.underlying26 @Try.underlying28) (And.intro @Try.underlying41 @Try.underlying43)) (And.intro (And.intro @Try.underlying45 @Try.underlying24) (And.intro @Try.underlying39 (And.intro @Try.underlying23 @Try.underlying34))))) (And.intro (And.intro (And.intro (And.intro @Try.underlying37 @Try.underlying49) (And.intro @Try.underlying51 @Try.underlying57)) (And.intro (And.intro @Try.underlying73 @Try.underlying76) (And.intro @ts3 (And.intro @ts4 @ts5)))) (And.intro (And.intro (And.intro @ts9 @ts30) (And.intro @ts33 @ts103)) (And.intro (And.intro @ts78 @ts22) (And.intro @ts26 (And.intro @ts28 @ts41)))))) (And.intro (And.intro (And.intro (And.intro (And.intro @ts43 @ts45) (And.intro @ts24 @ts39)) (And.intro (And.intro @ts23 @ts34) (And.intro @ts37 (And.intro @ts49 @ts51)))) (And.intro (And.intro (And.intro @ts57 @ts73) (And.intro @ts76 @tz3)) (And.intro (And.intro @tz4 @tz5) (And.intro @tz9 (And.intro @tz30 @tz33))))) (And.intro (And.intro (And.intro (And.intro @tz103 @tz78) (And.intro @tz22 @tz26)) (And.intro (And.intro @tz28 @tz41) (And.intro @tz43 (And.intro @tz45 @tz24)))) (And.intro (And.intro (And.intro @tz39 @tz23) (And.intro @tz34 @tz37)) (And.intro (And.intro @tz49 @tz51) (And.intro @tz57 (And.intro @tz73 @tz76))))))) (And.intro (And.intro (And.intro (And.intro (And.intro (And.intro @tb3 @tb4) (And.intro @tb5 @tb9)) (And.intro (And.intro @tb30 @tb33) (And.intro @tb103 (And.intro @tb78 @tb22)))) (And.intro (And.intro (And.intro @tb26 @tb28) (And.intro @tb41 @tb43)) (And.intro (And.intro @tb45 @tb24) (And.intro @tb39 (And.intro @tb23 @tb34))))) (And.intro (And.intro (And.intro (And.intro @tb37 @tb49) (And.intro @tb51 @tb57)) (And.intro (And.intro @tb73 @tb76) (And.intro @fr7 (And.intro @fr8 @fr9)))) (And.intro (And.intro (And.intro @fr10 @fr11) (And.intro @fr12 @fr15)) (And.intro (And.intro @fr16 @fr19) (And.intro @fr21 (And.intro @fr22 @fr23)))))) (And.intro (And.intro (And.intro (And.intro (And.intro @bz33 @al33) (And.intro @fa33_0 @fa33_1)) (And.intro (And.intro @bz28 @bz26) (And.intro @bz43 (And.intro @bz45 @al43)))) (And.intro (And.intro (And.intro @al45 @fa45_0) (And.intro @fa45_1 @fa45_2)) (And.intro (And.intro @fa43_0 @fa43_1) (And.intro @fa43_2 (And.intro @fa28_0 @fa28_1))))) (And.intro (And.intro (And.intro (And.intro @fa28_2 @fa26_0) (And.intro @fa26_1 @fa26_2)) (And.intro (And.intro @fa26_3 @bz37) (And.intro @bz76 (And.intro @al37 @fa37_0)))) (And.intro (And.intro (And.intro @fa37_1 @fa76_0) (And.intro @fa76_1 (And.intro @fa76_2 @fa76_3))) (And.intro (And.intro @fa76_4 @fa76_5) (And.intro @fa76_6 (And.intro @fa76_7 @fa76_8)))))))) := (And.intro (And.intro (And.intro (And.intro (And.intro (And.intro (And.intro @Try.underlying3 @Try.underlying4) (And.intro @Try.underlying5 @Try.underlying9)) (And.intro (And.intro @Try.underlying30 @Try.underlying33) (And.intro @Try.underlying103 (And.intro @Try.underlying78 @Try.underlying22)))) (And.intro (And.intro (And.intro @Try.underlying26 @Try.underlying28) (And.intro @Try.underlying41 @Try.underlying43)) (And.intro (And.intro @Try.underlying45 @Try.underlying24) (And.intro @Try.underlying39 (And.intro @Try.underlying23 @Try.underlying34))))) (And.intro (And.intro (And.intro (And.intro @Try.underlying37 @Try.underlying49) (And.intro @Try.underlying51 @Try.underlying57)) (And.intro (And.intro @Try.underlying73 @Try.underlying76) (And.intro @ts3 (And.intro @ts4 @ts5)))) (And.intro (And.intro (And.intro @ts9 @ts30) (And.intro @ts33 @ts103)) (And.intro (And.intro @ts78 @ts22) (And.intro @ts26 (And.intro @ts28 @ts41)))))) (And.intro (And.intro (And.intro (And.intro (And.intro @ts43 @ts45) (And.intro @ts24 @ts39)) (And.intro (And.intro @ts23 @ts34) (And.intro @ts37 (And.intro @ts49 @ts51)))) (And.intro (And.intro (And.intro @ts57 @ts73) (And.intro @ts76 @tz3)) (And.intro (And.intro @tz4 @tz5) (And.intro @tz9 (And.intro @tz30 @tz33))))) (And.intro (And.intro (And.intro (And.intro @tz103 @tz78) (And.intro @tz22 @tz26)) (And.intro (And.intro @tz28 @tz41) (And.intro @tz43 (And.intro @tz45 @tz24)))) (And.intro (And.intro (And.intro @tz39 @tz23) (And.intro @tz34 @tz37)) (And.intro (And.intro @tz49 @tz51) (And.intro @tz57 (And.intro @tz73 @tz76))))))) (And.intro (And.intro (And.intro (And.intro (And.intro (And.intro @tb3 @tb4) (And.intro @tb5 @tb9)) (And.intro (And.intro @tb30 @tb33) (And.intro @tb103 (And.intro @tb78 @tb22)))) (And.intro (And.intro (And.intro @tb26 @tb28) (And.intro @tb41 @tb43)) (And.intro (And.intro @tb45 @tb24) (And.intro @tb39 (And.intro @tb23 @tb34))))) (And.intro (And.intro (And.intro (And.intro @tb37 @tb49) (And.intro @tb51 @tb57)) (And.intro (And.intro @tb73 @tb76) (And.intro @fr7 (And.intro @fr8 @fr9)))) (And.intro (And.intro (And.intro @fr10 @fr11) (And.intro @fr12 @fr15)) (And.intro (And.intro @fr16 @fr19) (And.intro @fr21 (And.intro @fr22 @fr23)))))) (And.intro (And.intro (And.intro (And.intro (And.intro @bz33 @al33) (And.intro @fa33_0 @fa33_1)) (And.intro (And.intro @bz28 @bz26) (And.intro @bz43 (And.intro @bz45 @al43)))) (And.intro (And.intro (And.intro @al45 @fa45_0) (And.intro @fa45_1 @fa45_2)) (And.intro (And.intro @fa43_0 @fa43_1) (And.intro @fa43_2 (And.intro @fa28_0 @fa28_1))))) (And.intro (And.intro (And.intro (And.intro @fa28_2 @fa26_0) (And.intro @fa26_1 @fa26_2)) (And.intro (And.intro @fa26_3 @bz37) (And.intro @bz76 (And.intro @al37 @fa37_0)))) (And.intro (And.intro (And.intro @fa37_1 @fa76_0) (And.intro @fa76_1 (And.intro @fa76_2 @fa76_3))) (And.intro (And.intro @fa76_4 @fa76_5) (And.intro @fa76_6 (And.intro @fa76_7 @fa76_8))))))))
theorem bin_cneq {a : Option Addr} : binV Try.prog .eql 34 (.pointer a) (.pointer none) = some (.bool a.isNone) := bin_ptr_eq Try.underlying34
theorem bin_cne {a : Option Addr} : binV Try.prog .neq 34 (.pointer a) (.pointer none) = some (.bool (!a.isNone)) := bin_ptr_ne Try.underlying34
theorem oneOf_two (a b : Value) : oneOf [a, b] = .tuple #[a, b] := rfl
abbrev bal (r n : Int) : Value := .agg #[.int .i64 r, .int .i64 n]
theorem eqbal {a b c d : Int} : eqIn Try.prog 40 37 (bal a b) (bal c d) = some (decide (a = c ∧ b = d)) := by
  have hs : Try.prog.stoodInHeld 37 = false := by kernel_rfl
  rw [show (40 : Nat) = 38 + 1 + 1 from rfl]
  simp only [eqIn, Try.underlying37, hs, eqFields, partOf, aggOf, Try.underlying3, eqCell]
  have q : ∀ x y : Int, (x == y) = decide (x = y) := fun x y => rfl
  simp only [q]
  by_cases h1 : a = c <;> by_cases h2 : b = d <;> simp [h1, h2]
theorem bin_beq {a b c d : Int} : binV Try.prog .eql 37 (bal a b) (bal c d) = some (.bool (decide (a = c ∧ b = d))) := by
  have h : Try.prog.eqGuardType Try.prog.depth 37 = false := by kernel_rfl
  simp only [binV, h, eqbal]
  rfl
theorem bin_bne {a b c d : Int} : binV Try.prog .neq 37 (bal a b) (bal c d) = some (.bool (!decide (a = c ∧ b = d))) := by
  have h : Try.prog.eqGuardType Try.prog.depth 37 = false := by kernel_rfl
  simp only [binV, h, eqbal]
  rfl
theorem bld37z : opBuild Try.prog 37 [] = some (bal 0 0) := by kernel_rfl
/-- A chair, as it is meant. -/
structure Ch where
  mem : List Int
  ph : Int
  br : Int
  bn : Int
  own : Ent
  xr : Int
  xn : Int
  found : Ent
  s : Bool
  heard : List Int
  ent : Ent
def zE : Ent := ⟨0, 0, 0, 0, [], []⟩
abbrev chC (C : Ch) (vm oa om fa fm hv ea em : Value) : List Value := [.int .i64 0, vm, .int .u8 C.ph, .int .i64 C.br, .int .i64 C.bn, .int .u8 C.own.kind, .int .u16 C.own.tr, .int .u16 C.own.nu, .int .i64 C.own.pc, oa, om, .int .i64 C.xr, .int .i64 C.xn, .int .u8 C.found.kind, .int .u16 C.found.tr, .int .u16 C.found.nu, .int .i64 C.found.pc, fa, fm, .bool C.s, hv, .int .u8 C.ent.kind, .int .u16 C.ent.tr, .int .u16 C.ent.nu, .int .i64 C.ent.pc, ea, em]
structure ChIs (m : Mem) (i r : Nat) (C : Ch) (vm oa om fa fm hv ea em : Value) : Prop where
  gi : m.get i = some (.cells (chC C vm oa om fa fm hv ea em) 76 true)
  li : i < m.next
  fv : FRow m vm 1 C.mem.length (ints C.mem)
  fo : FRow m oa 1 C.own.args.length (byteCells C.own.args)
  go : FRow m om 1 C.own.mem.length (ints C.own.mem)
  ff : FRow m fa 1 C.found.args.length (byteCells C.found.args)
  gf : FRow m fm 1 C.found.mem.length (ints C.found.mem)
  fe : FRow m ea 1 C.ent.args.length (byteCells C.ent.args)
  ge : FRow m em 1 C.ent.mem.length (ints C.ent.mem)
  oh : OwnI r 3 1 m hv C.heard.length (ints C.heard)
  hm : C.mem.length < 2 ^ 20
  hh : C.heard.length < 2 ^ 20
  lr : r < m.next
def ChAt (m : Mem) (i r : Nat) (C : Ch) : Prop := ∃ vm oa om fa fm hv ea em, ChIs m i r C vm oa om fa fm hv ea em
theorem ChIs.keep {m m' : Mem} {i r : Nat} {C : Ch} {vm oa om fa fm hv ea em : Value} (H : ChIs m i r C vm oa om fa fm hv ea em) (z : Pz m m') (hi : m'.get i = m.get i) (hr : r < m.next → m'.get r = m.get r) : ChIs m' i r C vm oa om fa fm hv ea em :=
  ⟨hi.trans H.gi, Nat.lt_of_lt_of_le H.li z.1, H.fv.pz z, H.fo.pz z, H.go.pz z, H.ff.pz z, H.gf.pz z, H.fe.pz z, H.ge.pz z, H.oh.keep z.1 hr, H.hm, H.hh, Nat.lt_of_lt_of_le H.lr z.1⟩
theorem ChIs.ext {m m' : Mem} {i r : Nat} {C : Ch} {vm oa om fa fm hv ea em : Value} (H : ChIs m i r C vm oa om fa fm hv ea em) (x : Ext m m') : ChIs m' i r C vm oa om fa fm hv ea em := H.keep x.pz (x.2 i H.li) (x.2 r)
theorem ChAt.ext {m m' : Mem} {i r : Nat} {C : Ch} (H : ChAt m i r C) (x : Ext m m') : ChAt m' i r C := by
  obtain ⟨vm, oa, om, fa, fm, hv, ea, em, H⟩ := H
  exact ⟨vm, oa, om, fa, fm, hv, ea, em, H.ext x⟩
def Ch.new (M : List Int) : Ch := ⟨M, 0, 0, 0, zE, 0, 0, zE, false, [], zE⟩
theorem bld76n (a : Option Addr) (n z : Nat) : opBuild Try.prog 76 [(0, viewV 0 (.slice a n z))] = some (.agg (chC (Ch.new []) (.slice a n z) (.slice none 0 0) (.slice none 0 0) (.slice none 0 0) (.slice none 0 0) (.slice none 0 0) (.slice none 0 0) (.slice none 0 0)).toArray) := by kernel_rfl
theorem new_ret {m : Mem} {v : Value} {M : List Int} (fv : FRow m v 1 M.length (ints M)) (hm : M.length < 2 ^ 20) {K : Value → Mem → Prop} (hK : ∀ m' i, ChAt m' i i (Ch.new M) → m.next ≤ i → Ext m m' → K (.pointer (some ⟨i, 0, none⟩)) m') : Ret Try.prog 7 [viewV 0 v] m K := by
  refine ret_wp [] Try.func7 rfl (by decide) (by kernel_rfl) ?_
  obtain ⟨a, z, rfl⟩ := fv.is
  simp only [Nat.reduceAdd, reduceIte, Nat.reduceEqDiff, reduceCtorEq, opLen, Int.reduceLT, Int.reduceEq, opConvert, opIndexAddr, opLoad, Nat.reduceLT, undef, Nat.reduceLeDiff, Array.toList, bin_cneq, bin_cne, bin_bne, bin_beq, oneOf_two, bld76n, bld37z, wk4, wk5, wk0, fxC16c]
  have x := (Ext.new m (.cells [.int .i64 0, .slice a M.length z] 33 true)).trans (Ext.new _ (.cells (chC (Ch.new []) (.slice a M.length z) (.slice none 0 0) (.slice none 0 0) (.slice none 0 0) (.slice none 0 0) (.slice none 0 0) (.slice none 0 0) (.slice none 0 0)) 76 true))
  exact hK _ _ ⟨_, _, _, _, _, _, _, _, new_get _ _, Nat.lt_succ_self _, fv.pz x.pz, FRow.nil, FRow.nil, FRow.nil, FRow.nil, FRow.nil, FRow.nil, OwnI.nil, hm, show 0 < 2 ^ 20 by decide, Nat.lt_succ_self _⟩ (Nat.le_succ _) x
theorem phas_ret {m : Mem} {i r : Nat} {C : Ch} {x : Int} (H : ChAt m i r C) {K : Value → Mem → Prop} (hK : K (.bool (decide (x ∈ C.heard))) m) : Ret Try.prog 22 [.pointer (some ⟨i, 0, none⟩), .int .i64 x] m K := by
  obtain ⟨vm, oa, om, fa, fm, hv, ea, em, H⟩ := H
  refine ret_wp [] Try.func22 rfl (by decide) (by kernel_rfl) ?_
  have gi := H.gi
  have hl := H.hh
  have h : RdI m hv C.heard := H.oh.rd
  have ll := h.len
  obtain ⟨qa, qz, rfl⟩ := h.is
  simp only [Nat.reduceAdd, reduceIte, Nat.reduceEqDiff, reduceCtorEq, Int.reduceLT, Int.reduceEq, opConvert, opIndexAddr, opLoad, Nat.reduceLT, undef, Nat.reduceLeDiff, Array.toList, bin_cneq, bin_cne, bin_bne, bin_beq, oneOf_two, bld76n, bld37z, wk4, wk5, wk0, fxC16c, gi, ll]
  refine loop_wp [] (by kernel_rfl) (fun q env μ => ∃ j : Nat, q + j = C.heard.length ∧ x ∉ C.heard.take j ∧ env 1 = some (.int .i64 x) ∧ env 10 = some (.slice qa C.heard.length qz) ∧ env 11 = some (.int .i64 C.heard.length) ∧ env 12 = some (.int .i64 j) ∧ μ = m) ?_ C.heard.length ⟨0, rfl, by simp, rfl, rfl, rfl, rfl, rfl⟩
  rintro q env μ ⟨j, hk, hn, e1, e10, e11, e12, rfl⟩
  simp only [Nat.reduceAdd, reduceIte, Nat.reduceEqDiff, reduceCtorEq, opLen, Int.reduceLT, Int.reduceEq, opConvert, opIndexAddr, opLoad, Nat.reduceLT, undef, Nat.reduceLeDiff, Array.toList, bin_cneq, bin_cne, bin_bne, bin_beq, oneOf_two, bld76n, bld37z, wk4, wk5, wk0, fxC16c, e11, e12]
  refine cond_by (fun hlt => ?_) (fun hge => ?_)
  · have hj : j < C.heard.length := by omega
    obtain ⟨p, i1, r1⟩ := h.at hj
    have w1 : IntKind.i64.wrap ((j : Int) + 1) = ((j + 1 : Nat) : Int) := by rw [wrap_i64 (by omega) (by omega)]; rfl
    by_cases hx : C.heard[j] = x
    · simp only [Nat.reduceAdd, reduceIte, Nat.reduceEqDiff, reduceCtorEq, opLen, Int.reduceLT, Int.reduceEq, opConvert, Nat.reduceLT, undef, Nat.reduceLeDiff, Array.toList, bin_cneq, bin_cne, bin_bne, bin_beq, oneOf_two, bld76n, bld37z, wk4, wk5, wk0, fxC16c, e1, e10, e11, e12, i1, r1, hx]
      rw [decide_eq_true (by rw [← hx]; exact List.getElem_mem _)] at hK
      exact hK
    · simp only [Nat.reduceAdd, reduceIte, Nat.reduceEqDiff, reduceCtorEq, opLen, Int.reduceLT, Int.reduceEq, opConvert, Nat.reduceLT, undef, Nat.reduceLeDiff, Array.toList, bin_cneq, bin_cne, bin_bne, bin_beq, oneOf_two, bld76n, bld37z, wk4, wk5, wk0, fxC16c, e1, e10, e11, e12, i1, r1, hx]
      exact ⟨q - 1, by omega, j + 1, by omega, not_mem_take_succ hj hn (fun h => hx h.symm), by rw [w1], trivial⟩
  · simp only [Nat.reduceAdd, reduceIte, Nat.reduceEqDiff, reduceCtorEq, opLen, Int.reduceLT, Int.reduceEq, opConvert, opIndexAddr, opLoad, Nat.reduceLT, undef, Nat.reduceLeDiff, Array.toList, bin_cneq, bin_cne, bin_bne, bin_beq, oneOf_two, bld76n, bld37z, wk4, wk5, wk0, fxC16c]
    have : j = C.heard.length := by omega
    rw [this, List.take_length] at hn
    rw [decide_eq_false hn] at hK
    exact hK
def lessB (ar an br bn : Int) : Bool := decide (ar < br) || (decide (ar = br) && decide (an < bn))
theorem less_ret {m : Mem} {ar an br bn : Int} {K : Value → Mem → Prop} (hK : ∀ m', Ext m m' → K (.bool (lessB ar an br bn)) m') : Ret Try.prog 15 [bal ar an, bal br bn] m K := by
  refine ret_wp [] Try.func15 rfl (by decide) (by kernel_rfl) ?_
  have e : lessB ar an br bn = (decide (ar < br) || (decide (ar = br) && decide (an < bn))) := rfl
  rw [e] at hK
  have hx : ∀ a b : Blk, Ext m ((m.new a).new b) := fun a b => (Ext.new _ _).trans (Ext.new _ _)
  by_cases h1 : ar < br
  · have hK' := hK
    simp only [h1, decide_true, decide_false, Bool.true_or, Bool.false_or, Bool.true_and, Bool.false_and] at hK'
    simp only [Nat.reduceAdd, reduceIte, Nat.reduceEqDiff, reduceCtorEq, opLen, Int.reduceLT, Int.reduceEq, opConvert, opIndexAddr, opLoad, Nat.reduceLT, undef, Nat.reduceLeDiff, Array.toList, bin_cneq, bin_cne, bin_bne, bin_beq, oneOf_two, bld76n, bld37z, wk4, wk5, wk0, fxC16c, h1]
    exact hK' _ (hx _ _)
  · by_cases h2 : ar = br
    · subst h2
      have hK' := hK
      simp only [h1, decide_true, decide_false, Bool.false_or, Bool.true_and] at hK'
      simp only [Nat.reduceAdd, reduceIte, Nat.reduceEqDiff, reduceCtorEq, opLen, Int.reduceLT, Int.reduceEq, opConvert, opIndexAddr, opLoad, Nat.reduceLT, undef, Nat.reduceLeDiff, Array.toList, bin_cneq, bin_cne, bin_bne, bin_beq, oneOf_two, bld76n, bld37z, wk4, wk5, wk0, fxC16c, h1]
      exact hK' _ (hx _ _)
    · have hK' := hK
      simp only [h1, h2, decide_true, decide_false, Bool.true_or, Bool.false_or, Bool.true_and, Bool.false_and] at hK'
      simp only [Nat.reduceAdd, reduceIte, Nat.reduceEqDiff, reduceCtorEq, opLen, Int.reduceLT, Int.reduceEq, opConvert, opIndexAddr, opLoad, Nat.reduceLT, undef, Nat.reduceLeDiff, Array.toList, bin_cneq, bin_cne, bin_bne, bin_beq, oneOf_two, bld76n, bld37z, wk4, wk5, wk0, fxC16c, h1, h2]
      exact hK' _ (hx _ _)
def Ch.open (C : Ch) (br bn : Int) (O : Ent) : Ch := ⟨C.mem, 1, br, bn, O, 0, 0, zE, false, [], zE⟩
theorem bld76o (a b c : Option Addr) (n z r e1 e2 e3 e4 : Int) (l l' k1 k2 k3 k4 : Nat) : opBuild Try.prog 76 [(0, viewV r (.slice a l l')), (1, .int .u8 1), (2, bal n z), (3, entW e1 e2 e3 e4 (.slice b k1 k2) (.slice c k3 k4))] = some (.agg #[.int .i64 r, .slice a l l', .int .u8 1, .int .i64 n, .int .i64 z, .int .u8 e1, .int .u16 e2, .int .u16 e3, .int .i64 e4, .slice b k1 k2, .slice c k3 k4, .int .i64 0, .int .i64 0, .int .u8 0, .int .u16 0, .int .u16 0, .int .i64 0, .slice none 0 0, .slice none 0 0, .bool false, .slice none 0 0, .int .u8 0, .int .u16 0, .int .u16 0, .int .i64 0, .slice none 0 0, .slice none 0 0]) := by kernel_rfl
theorem open_ret {m : Mem} {i r : Nat} {C : Ch} {br bn : Int} {v : Value} {O : Ent} (H : ChAt m i r C) (hO : EnF m v O) {K : Value → Mem → Prop} (hK : ∀ m', ChAt m' i i (C.open br bn O) → Pz m m' → (∀ j, j < m.next → j ≠ i → m'.get j = m.get j) → K (.tuple #[]) m') : Ret Try.prog 8 [.pointer (some ⟨i, 0, none⟩), bal br bn, v] m K := by
  obtain ⟨vm, oa, om, fa, fm, hv, ea, em, H⟩ := H
  obtain ⟨va, vb, rfl, f1, f2⟩ := hO
  refine ret_wp [] Try.func8 rfl (by decide) (by kernel_rfl) ?_
  have li := H.li
  obtain ⟨a1, z1, rfl⟩ := f1.is
  obtain ⟨a2, z2, rfl⟩ := f2.is
  obtain ⟨a3, z3, rfl⟩ := H.fv.is
  have x : Ext m ((m.new (.cells [.int .i64 br, .int .i64 bn] 37 true)).new (.cells [.int .u8 O.kind, .int .u16 O.tr, .int .u16 O.nu, .int .i64 O.pc, .slice a1 O.args.length z1, .slice a2 O.mem.length z2] 45 true)) := (Ext.new _ _).trans (Ext.new _ _)
  have gi := (x.2 i li).trans H.gi
  have h1 : ¬ i = m.next := by omega
  have h2 : ¬ i = m.next + 1 := by omega
  have gi0 := H.gi
  simp only [Nat.reduceAdd, reduceIte, Nat.reduceEqDiff, reduceCtorEq, opLen, Int.reduceLT, Int.reduceEq, opConvert, opIndexAddr, opLoad, Nat.reduceLT, undef, Nat.reduceLeDiff, Array.toList, bin_cneq, bin_cne, bin_bne, bin_beq, oneOf_two, bld76n, bld37z, wk4, wk5, wk0, fxC16c, h1, h2, gi0, bld76o]
  have z := x.pz.trans (Pz.set gi (.cells (chC (C.open br bn O) (.slice a3 C.mem.length z3) (.slice a1 O.args.length z1) (.slice a2 O.mem.length z2) (.slice none 0 0) (.slice none 0 0) (.slice none 0 0) (.slice none 0 0) (.slice none 0 0)) 76 true))
  refine hK _ ⟨_, _, _, _, _, _, _, _, set_get _ _ _, Nat.lt_of_lt_of_le li z.1, H.fv.pz z, f1.pz z, f2.pz z, FRow.nil, FRow.nil, FRow.nil, FRow.nil, OwnI.nil, H.hm, show 0 < 2 ^ 20 by decide, Nat.lt_of_lt_of_le li z.1⟩ z fun j hj hn => ?_
  rw [set_get_ne _ hn, x.2 j hj]
theorem and3 {p q : Prop} [Decidable p] [Decidable q] (h : ¬ (p ∧ q)) : decide (p ∧ q) = false := decide_eq_false h
theorem prom_no {m : Mem} {i r : Nat} {C : Ch} {x br bn wr wn : Int} {v : Value} {X : Ent} {s : Bool} (H : ChAt m i r C) (hX : EnF m v X) (hno : C.ph = 1 → br = C.br → bn = C.bn → x ∈ C.mem → x ∈ C.heard) {K : Value → Mem → Prop} (hK : ∀ m', Ext m m' → K (.bool false) m') : Ret Try.prog 10 [.pointer (some ⟨i, 0, none⟩), .int .i64 x, bal br bn, bal wr wn, v, .bool s] m K := by
  obtain ⟨vm, oa, om, fa, fm, hv, ea, em, H⟩ := H
  obtain ⟨va, vb, rfl, f1, f2⟩ := hX
  obtain ⟨a1, z1, rfl⟩ := f1.is
  obtain ⟨a2, z2, rfl⟩ := f2.is
  refine ret_wp [(5, [4])] Try.func10 rfl (by decide) (by kernel_rfl) ?_
  have li := H.li
  simp only [wk6, Nat.reduceBEq, wk1, forall_eq, Nat.reduceAdd, reduceIte, Nat.reduceEqDiff, reduceCtorEq, opLen, Int.reduceLT, Int.reduceEq, opConvert, opIndexAddr, Nat.reduceLT, undef, Nat.reduceLeDiff, Array.toList, bin_cneq, bin_cne, bin_bne, bin_beq, oneOf_two, bld76n, bld37z, wk4, wk5, wk0, fxC16c]
  obtain ⟨m0, hm0⟩ : ∃ m0, m0 = ((m.new (.cells [.int .i64 br, .int .i64 bn] 37 true)).new (.cells [.int .i64 wr, .int .i64 wn] 37 true)).new (.cells [.int .u8 X.kind, .int .u16 X.tr, .int .u16 X.nu, .int .i64 X.pc, .slice a1 X.args.length z1, .slice a2 X.mem.length z2] 45 true) := ⟨_, rfl⟩
  have x0 : Ext m m0 := by rw [hm0]; exact ((Ext.new _ _).trans (Ext.new _ _)).trans (Ext.new _ _)
  have nx0 : m0.next = m.next + 3 := by rw [hm0]; rfl
  have g0 : m0.get m.next = some (.cells [.int .i64 br, .int .i64 bn] 37 true) := by rw [hm0, new_get_ne _ (by simp only [new_next]; omega), new_get_ne _ (by simp only [new_next]; omega), new_get]
  have g1 : m0.get (m.next + 1) = some (.cells [.int .i64 wr, .int .i64 wn] 37 true) := by rw [hm0, new_get_ne _ (by simp only [new_next]; omega)]; exact new_get (m.new _) _
  have g2 : m0.get (m.next + 1 + 1) = some (.cells [.int .u8 X.kind, .int .u16 X.tr, .int .u16 X.nu, .int .i64 X.pc, .slice a1 X.args.length z1, .slice a2 X.mem.length z2] 45 true) := by rw [hm0]; exact new_get ((m.new _).new _) _
  have H0 := H.ext x0
  have gi := H0.gi
  rw [← hm0]
  clear hm0
  have lph : opLoad Try.prog 73 (.pointer (some ⟨i, 2, none⟩)) m0 = some (.int .u8 C.ph) := load_cell gi (by simp only [aggOf, Try.underlying73, Try.underlying5]) rfl
  have lbal : opLoad Try.prog 37 (.pointer (some ⟨i, 3, none⟩)) m0 = some (bal C.br C.bn) := load_agg (P := Try.prog) (t := 37) (sz := 2) (off := 3) gi (by simp only [aggOf, Try.underlying37]) ts37 (by simp)
  have lvw : opLoad Try.prog 33 (.pointer (some ⟨i, 0, none⟩)) m0 = some (viewV 0 vm) := load_agg (P := Try.prog) (t := 33) (sz := 2) (off := 0) gi (by simp only [aggOf, Try.underlying33]) ts33 (by simp)
  have l0 : ∀ M, Ext m0 M → opLoad Try.prog 37 (.pointer (some ⟨m.next, 0, none⟩)) M = some (bal br bn) := fun M y => load_agg (P := Try.prog) (t := 37) (sz := 2) (off := 0) ((y.2 m.next (by omega)).trans g0) (by simp only [aggOf, Try.underlying37]) ts37 (by simp)
  have l00 := l0 m0 (Ext.refl _)
  by_cases c1 : C.ph = 1
  · by_cases c2 : br = C.br ∧ bn = C.bn
    · have d2 := decide_eq_true c2
      simp only [wk6, Nat.reduceBEq, wk1, forall_eq, Nat.reduceAdd, reduceIte, Nat.reduceEqDiff, reduceCtorEq, opLen, Int.reduceLT, Int.reduceEq, opConvert, opIndexAddr, Nat.reduceLT, undef, Nat.reduceLeDiff, Array.toList, bin_cneq, bin_cne, bin_bne, bin_beq, oneOf_two, bld76n, bld37z, wk4, wk5, wk0, fxC16c, lph, lbal, l00, lvw, c1, d2]
      refine has_ret H0.fv.rd (by have := H0.hm; omega) fun m1 x1 => ?_
      by_cases c3 : x ∈ C.mem
      · have d3 := decide_eq_true c3
        have d4 := decide_eq_true (hno c1 c2.1 c2.2 c3)
        simp only [wk6, Nat.reduceBEq, wk1, forall_eq, Nat.reduceAdd, reduceIte, Nat.reduceEqDiff, reduceCtorEq, opLen, Int.reduceLT, Int.reduceEq, opConvert, opIndexAddr, Nat.reduceLT, undef, Nat.reduceLeDiff, Array.toList, bin_cneq, bin_cne, bin_bne, bin_beq, oneOf_two, bld76n, bld37z, wk4, wk5, wk0, fxC16c, d3]
        refine phas_ret ⟨_, _, _, _, _, _, _, _, H0.ext x1⟩ ?_
        simp only [wk6, Nat.reduceBEq, wk1, forall_eq, Nat.reduceAdd, reduceIte, Nat.reduceEqDiff, reduceCtorEq, opLen, Int.reduceLT, Int.reduceEq, opConvert, opIndexAddr, opLoad, Nat.reduceLT, undef, Nat.reduceLeDiff, Array.toList, bin_cneq, bin_cne, bin_bne, bin_beq, oneOf_two, bld76n, bld37z, wk4, wk5, wk0, fxC16c, d4]
        exact hK _ (x0.trans x1)
      · have d3 := decide_eq_false c3
        simp only [wk6, Nat.reduceBEq, wk1, forall_eq, Nat.reduceAdd, reduceIte, Nat.reduceEqDiff, reduceCtorEq, opLen, Int.reduceLT, Int.reduceEq, opConvert, opIndexAddr, Nat.reduceLT, undef, Nat.reduceLeDiff, Array.toList, bin_cneq, bin_cne, bin_bne, bin_beq, oneOf_two, bld76n, bld37z, wk4, wk5, wk0, fxC16c, d3]
        exact hK _ (x0.trans x1)
    · have d2 := decide_eq_false c2
      simp only [wk6, Nat.reduceBEq, wk1, forall_eq, Nat.reduceAdd, reduceIte, Nat.reduceEqDiff, reduceCtorEq, opLen, Int.reduceLT, Int.reduceEq, opConvert, opIndexAddr, Nat.reduceLT, undef, Nat.reduceLeDiff, Array.toList, bin_cneq, bin_cne, bin_bne, bin_beq, oneOf_two, bld76n, bld37z, wk4, wk5, wk0, fxC16c, lph, lbal, l00, c1, d2]
      exact hK _ x0
  · simp only [wk6, Nat.reduceBEq, wk1, forall_eq, Nat.reduceAdd, reduceIte, Nat.reduceEqDiff, reduceCtorEq, opLen, Int.reduceLT, Int.reduceEq, opConvert, opIndexAddr, Nat.reduceLT, undef, Nat.reduceLeDiff, Array.toList, bin_cneq, bin_cne, bin_bne, bin_beq, oneOf_two, bld76n, bld37z, wk4, wk5, wk0, fxC16c, lph, c1]
    exact hK _ x0
theorem ld0 {m : Mem} {i : Nat} {C : Ch} {vm oa om fa fm hv ea em : Value} (g : m.get i = some (.cells (chC C vm oa om fa fm hv ea em) 76 true)) : opLoad Try.prog 33 (.pointer (some ⟨i, 0, none⟩)) m = some (viewV 0 vm) := load_agg (P := Try.prog) (t := 33) (sz := 2) (off := 0) g (by simp only [aggOf, Try.underlying33]) ts33 (by simp)
theorem ld2 {m : Mem} {i : Nat} {C : Ch} {vm oa om fa fm hv ea em : Value} (g : m.get i = some (.cells (chC C vm oa om fa fm hv ea em) 76 true)) : opLoad Try.prog 73 (.pointer (some ⟨i, 2, none⟩)) m = some (.int .u8 C.ph) := load_cell g (by simp only [aggOf, Try.underlying73, Try.underlying5]) rfl
theorem ld3 {m : Mem} {i : Nat} {C : Ch} {vm oa om fa fm hv ea em : Value} (g : m.get i = some (.cells (chC C vm oa om fa fm hv ea em) 76 true)) : opLoad Try.prog 37 (.pointer (some ⟨i, 3, none⟩)) m = some (bal C.br C.bn) := load_agg (P := Try.prog) (t := 37) (sz := 2) (off := 3) g (by simp only [aggOf, Try.underlying37]) ts37 (by simp)
theorem ld5 {m : Mem} {i : Nat} {C : Ch} {vm oa om fa fm hv ea em : Value} (g : m.get i = some (.cells (chC C vm oa om fa fm hv ea em) 76 true)) : opLoad Try.prog 45 (.pointer (some ⟨i, 5, none⟩)) m = some (entW C.own.kind C.own.tr C.own.nu C.own.pc oa om) := load_agg (P := Try.prog) (t := 45) (sz := 6) (off := 5) g (by simp only [aggOf, Try.underlying45]) ts45 (by simp)
theorem ld11 {m : Mem} {i : Nat} {C : Ch} {vm oa om fa fm hv ea em : Value} (g : m.get i = some (.cells (chC C vm oa om fa fm hv ea em) 76 true)) : opLoad Try.prog 37 (.pointer (some ⟨i, 11, none⟩)) m = some (bal C.xr C.xn) := load_agg (P := Try.prog) (t := 37) (sz := 2) (off := 11) g (by simp only [aggOf, Try.underlying37]) ts37 (by simp)
theorem ld13 {m : Mem} {i : Nat} {C : Ch} {vm oa om fa fm hv ea em : Value} (g : m.get i = some (.cells (chC C vm oa om fa fm hv ea em) 76 true)) : opLoad Try.prog 45 (.pointer (some ⟨i, 13, none⟩)) m = some (entW C.found.kind C.found.tr C.found.nu C.found.pc fa fm) := load_agg (P := Try.prog) (t := 45) (sz := 6) (off := 13) g (by simp only [aggOf, Try.underlying45]) ts45 (by simp)
theorem ld19 {m : Mem} {i : Nat} {C : Ch} {vm oa om fa fm hv ea em : Value} (g : m.get i = some (.cells (chC C vm oa om fa fm hv ea em) 76 true)) : opLoad Try.prog 4 (.pointer (some ⟨i, 19, none⟩)) m = some (.bool C.s) := load_cell g (by simp only [aggOf, Try.underlying4]) rfl
theorem ld20 {m : Mem} {i : Nat} {C : Ch} {vm oa om fa fm hv ea em : Value} (g : m.get i = some (.cells (chC C vm oa om fa fm hv ea em) 76 true)) : opLoad Try.prog 30 (.pointer (some ⟨i, 20, none⟩)) m = some (hv) := load_cell g (by simp only [aggOf, Try.underlying30]) rfl
theorem ld21 {m : Mem} {i : Nat} {C : Ch} {vm oa om fa fm hv ea em : Value} (g : m.get i = some (.cells (chC C vm oa om fa fm hv ea em) 76 true)) : opLoad Try.prog 45 (.pointer (some ⟨i, 21, none⟩)) m = some (entW C.ent.kind C.ent.tr C.ent.nu C.ent.pc ea em) := load_agg (P := Try.prog) (t := 45) (sz := 6) (off := 21) g (by simp only [aggOf, Try.underlying45]) ts45 (by simp)
theorem st2 {m : Mem} {i : Nat} {C : Ch} {vm oa om fa fm hv ea em : Value} {p : Int} (g : m.get i = some (.cells (chC C vm oa om fa fm hv ea em) 76 true)) : opStore Try.prog 73 (.pointer (some ⟨i, 2, none⟩)) (.int .u8 p) m = some (m.set i (.cells (chC { C with ph := p } vm oa om fa fm hv ea em) 76 true)) := store_one g ts73 rfl (by simp)
theorem st11 {m : Mem} {i : Nat} {C : Ch} {vm oa om fa fm hv ea em : Value} {p q : Int} (g : m.get i = some (.cells (chC C vm oa om fa fm hv ea em) 76 true)) : opStore Try.prog 37 (.pointer (some ⟨i, 11, none⟩)) (bal p q) m = some (m.set i (.cells (chC { C with xr := p, xn := q } vm oa om fa fm hv ea em) 76 true)) := store_agg (P := Try.prog) g ts37 (by simp)
theorem st13 {m : Mem} {i : Nat} {C : Ch} {vm oa om fa fm hv ea em : Value} {X : Ent} {va vb : Value} (g : m.get i = some (.cells (chC C vm oa om fa fm hv ea em) 76 true)) : opStore Try.prog 45 (.pointer (some ⟨i, 13, none⟩)) (entW X.kind X.tr X.nu X.pc va vb) m = some (m.set i (.cells (chC { C with found := X } vm oa om va vb hv ea em) 76 true)) := store_agg (P := Try.prog) g ts45 (by simp)
theorem st19 {m : Mem} {i : Nat} {C : Ch} {vm oa om fa fm hv ea em : Value} {b : Bool} (g : m.get i = some (.cells (chC C vm oa om fa fm hv ea em) 76 true)) : opStore Try.prog 4 (.pointer (some ⟨i, 19, none⟩)) (.bool b) m = some (m.set i (.cells (chC { C with s := b } vm oa om fa fm hv ea em) 76 true)) := store_one g ts4 rfl (by simp)
theorem st20 {m : Mem} {i : Nat} {C : Ch} {vm oa om fa fm hv ea em : Value} {w : Value} (hw : okCell w = true) (g : m.get i = some (.cells (chC C vm oa om fa fm hv ea em) 76 true)) : opStore Try.prog 30 (.pointer (some ⟨i, 20, none⟩)) (w) m = some (m.set i (.cells (chC C vm oa om fa fm w ea em) 76 true)) := store_one g ts30 hw (by simp)
theorem st21 {m : Mem} {i : Nat} {C : Ch} {vm oa om fa fm hv ea em : Value} {X : Ent} {va vb : Value} (g : m.get i = some (.cells (chC C vm oa om fa fm hv ea em) 76 true)) : opStore Try.prog 45 (.pointer (some ⟨i, 21, none⟩)) (entW X.kind X.tr X.nu X.pc va vb) m = some (m.set i (.cells (chC { C with ent := X } vm oa om fa fm hv va vb) 76 true)) := store_agg (P := Try.prog) g ts45 (by simp)
theorem celne {m : Mem} {a b : Nat} {x y : List Value} {e f : TypeId} {o o' : Bool} (h1 : m.get a = some (.cells x e o)) (h2 : m.get b = some (.cells y f o')) (hn : e ≠ f) : a ≠ b := by
  rintro rfl
  rw [h1] at h2
  simp only [Option.some.injEq, Blk.cells.injEq] at h2
  exact hn h2.2.1
/-- One more is heard. -/
theorem hear_push {m : Mem} {i r : Nat} {C : Ch} {vm oa om fa fm hv ea em : Value} {x : Int} (H : ChIs m i r C vm oa om fa fm hv ea em) (hl : C.heard.length < 1000000) : ∃ a q m2 r2, opAppend Try.prog [30, 30] [hv, .slice (some ⟨m.next, 0, none⟩) 1 1] (m.new (.cells [.int .i64 x] 3 true)) = some (.slice a (C.heard.length + 1) q, m2) ∧ OwnI r2 3 1 m2 (.slice a (C.heard.length + 1) q) (C.heard.length + 1) (ints (C.heard ++ [x])) ∧ m.next < r2 ∧ r2 < m2.next ∧ Pz m m2 ∧ (∀ j, j < m.next → j ≠ r → m2.get j = m.get j) ∧ m2.get i = some (.cells (chC C vm oa om fa fm hv ea em) 76 true) := by
  have li := H.li
  have sn : ShowsR 1 (m.new (.cells [.int .i64 x] 3 true)) (.slice (some ⟨m.next, 0, none⟩) 1 1) 1 [.int .i64 x] := ⟨_, _, rfl, by simp [shown, new_get], rfl⟩
  obtain ⟨a', q', m2, r', p1, p2, p3, p4, p5⟩ := (H.oh.ext (Ext.new m (.cells [.int .i64 x] 3 true))).push (P := Try.prog) (tx := 30) Try.underlying30 ⟨_, Try.underlying30⟩ ts3 (by decide) tz3 tb3 (by decide) rfl rfl sn (by omega)
  simp only [new_next] at p3 p4 p5
  have hpz : Pz m m2 := by
    refine ⟨by omega, fun j cs e hj g => ?_⟩
    rw [p5 j (by omega) fun h => ?_, new_get_ne _ (by omega), g]
    rcases H.oh.2 with ⟨_, h1⟩ | ⟨h1, h2, h3⟩
    · exact h1
    · rw [h, h3] at g
      simp at g
  have fr : ∀ j, j < m.next → j ≠ r → m2.get j = m.get j := fun j hj hn => by rw [p5 j (by omega) (fun h => (hn h).elim), new_get_ne _ (by omega)]
  refine ⟨a', q', m2, r', p1, ?_, by omega, by omega, hpz, fr, ?_⟩
  · have : ints (C.heard ++ [x]) = ints C.heard ++ [.int .i64 x] := by simp
    rw [this]
    exact p2
  · rw [p5 i (by omega) fun h => ?_, new_get_ne _ (by omega)]
    · exact H.gi
    · rcases H.oh.2 with ⟨_, h1⟩ | ⟨h1, h2, h3⟩
      · exact h1
      · exact (celne H.gi h3 (by decide) h).elim
end Go.Proofs.Ytgecmpgpinihhaa
