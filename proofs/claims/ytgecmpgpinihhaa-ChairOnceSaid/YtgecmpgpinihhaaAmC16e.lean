/- A text of the abstract machine. -/


/- Entries: small ones, and whether two are the same. -/
import Derived.Test.YtgecmpgpinihhaaAmC16m
import Derived.Test.YtgecmpgpinihhaaAmWire
import Derived.Test.YtgecmpgpinihhaaAmBun
set_option linter.unusedSimpArgs false
set_option linter.unusedVariables false
set_option maxRecDepth 100000
set_option maxHeartbeats 4000000
namespace Go.Proofs.Ytgecmpgpinihhaa
open Go Go.AM Go.AM.Crc Go.AM.Wire
theorem fxC16e : type_of% (And.intro (And.intro (And.intro (And.intro (And.intro (And.intro @Try.underlying3 @Try.underlying4) (And.intro @Try.underlying5 (And.intro @Try.underlying9 @Try.underlying30))) (And.intro (And.intro @Try.underlying33 (And.intro @Try.underlying103 @Try.underlying78)) (And.intro @Try.underlying22 (And.intro @Try.underlying26 @Try.underlying28)))) (And.intro (And.intro (And.intro @Try.underlying41 @Try.underlying43) (And.intro @Try.underlying45 (And.intro @Try.underlying24 @Try.underlying39))) (And.intro (And.intro @ts3 (And.intro @ts4 @ts5)) (And.intro @ts9 (And.intro @ts30 @ts33))))) (And.intro (And.intro (And.intro (And.intro @ts103 @ts78) (And.intro @ts22 (And.intro @ts26 @ts28))) (And.intro (And.intro @ts41 (And.intro @ts43 @ts45)) (And.intro @ts24 (And.intro @ts39 @tz3)))) (And.intro (And.intro (And.intro @tz4 (And.intro @tz5 @tz9)) (And.intro @tz30 (And.intro @tz33 @tz103))) (And.intro (And.intro @tz78 (And.intro @tz22 @tz26)) (And.intro @tz28 (And.intro @tz41 @tz43)))))) (And.intro (And.intro (And.intro (And.intro (And.intro @tz45 @tz24) (And.intro @tz39 (And.intro @tb3 @tb4))) (And.intro (And.intro @tb5 (And.intro @tb9 @tb30)) (And.intro @tb33 (And.intro @tb103 @tb78)))) (And.intro (And.intro (And.intro @tb22 (And.intro @tb26 @tb28)) (And.intro @tb41 (And.intro @tb43 @tb45))) (And.intro (And.intro @tb24 (And.intro @tb39 @fr9)) (And.intro @fr20 (And.intro @fr13 @fr24))))) (And.intro (And.intro (And.intro (And.intro @bz33 @al33) (And.intro @fa33_0 (And.intro @fa33_1 @bz28))) (And.intro (And.intro @bz26 (And.intro @bz43 @bz45)) (And.intro @al43 (And.intro @al45 @fa45_0)))) (And.intro (And.intro (And.intro @fa45_1 (And.intro @fa45_2 @fa43_0)) (And.intro @fa43_1 (And.intro @fa43_2 @fa28_0))) (And.intro (And.intro @fa28_1 (And.intro @fa28_2 @fa26_0)) (And.intro @fa26_1 (And.intro @fa26_2 @fa26_3))))))) := (And.intro (And.intro (And.intro (And.intro (And.intro (And.intro @Try.underlying3 @Try.underlying4) (And.intro @Try.underlying5 (And.intro @Try.underlying9 @Try.underlying30))) (And.intro (And.intro @Try.underlying33 (And.intro @Try.underlying103 @Try.underlying78)) (And.intro @Try.underlying22 (And.intro @Try.underlying26 @Try.underlying28)))) (And.intro (And.intro (And.intro @Try.underlying41 @Try.underlying43) (And.intro @Try.underlying45 (And.intro @Try.underlying24 @Try.underlying39))) (And.intro (And.intro @ts3 (And.intro @ts4 @ts5)) (And.intro @ts9 (And.intro @ts30 @ts33))))) (And.intro (And.intro (And.intro (And.intro @ts103 @ts78) (And.intro @ts22 (And.intro @ts26 @ts28))) (And.intro (And.intro @ts41 (And.intro @ts43 @ts45)) (And.intro @ts24 (And.intro @ts39 @tz3)))) (And.intro (And.intro (And.intro @tz4 (And.intro @tz5 @tz9)) (And.intro @tz30 (And.intro @tz33 @tz103))) (And.intro (And.intro @tz78 (And.intro @tz22 @tz26)) (And.intro @tz28 (And.intro @tz41 @tz43)))))) (And.intro (And.intro (And.intro (And.intro (And.intro @tz45 @tz24) (And.intro @tz39 (And.intro @tb3 @tb4))) (And.intro (And.intro @tb5 (And.intro @tb9 @tb30)) (And.intro @tb33 (And.intro @tb103 @tb78)))) (And.intro (And.intro (And.intro @tb22 (And.intro @tb26 @tb28)) (And.intro @tb41 (And.intro @tb43 @tb45))) (And.intro (And.intro @tb24 (And.intro @tb39 @fr9)) (And.intro @fr20 (And.intro @fr13 @fr24))))) (And.intro (And.intro (And.intro (And.intro @bz33 @al33) (And.intro @fa33_0 (And.intro @fa33_1 @bz28))) (And.intro (And.intro @bz26 (And.intro @bz43 @bz45)) (And.intro @al43 (And.intro @al45 @fa45_0)))) (And.intro (And.intro (And.intro @fa45_1 (And.intro @fa45_2 @fa43_0)) (And.intro @fa43_1 (And.intro @fa43_2 @fa28_0))) (And.intro (And.intro @fa28_1 (And.intro @fa28_2 @fa26_0)) (And.intro @fa26_1 (And.intro @fa26_2 @fa26_3)))))))
/-- An entry. -/
structure Ent where
  kind : Int
  tr : Int
  nu : Int
  pc : Int
  args : List Int
  mem : List Int
abbrev callW (t n p : Int) (v : Value) : Value := .agg #[.int .u16 t, .int .u16 n, .int .i64 p, v]
abbrev entW (k t n p : Int) (v w : Value) : Value := .agg #[.int .u8 k, .int .u16 t, .int .u16 n, .int .i64 p, v, w]
def EnF (m : Mem) (v : Value) (E : Ent) : Prop := ∃ va vm, v = entW E.kind E.tr E.nu E.pc va vm ∧ FRow m va 1 E.args.length (byteCells E.args) ∧ FRow m vm 1 E.mem.length (ints E.mem)
theorem EnF.pz {m m' : Mem} {v : Value} {E : Ent} (h : EnF m v E) (z : Pz m m') : EnF m' v E := by
  obtain ⟨va, vm, h1, h2, h3⟩ := h
  exact ⟨va, vm, h1, h2.pz z, h3.pz z⟩
theorem EnF.ext {m m' : Mem} {v : Value} {E : Ent} (h : EnF m v E) (x : Ext m m') : EnF m' v E := h.pz x.pz
/-- A small entry. -/
structure Sm where
  k : Int
  t : Int
  n : Int
  p : Int
  args : List Int
  mm : Int
def SmF (m : Mem) (v : Value) (S : Sm) : Prop := ∃ va, v = .agg #[.int .u8 S.k, .int .u16 S.t, .int .u16 S.n, .int .u16 S.p, va, .int .u16 S.mm] ∧ FRow m va 1 S.args.length (byteCells S.args)
theorem SmF.pz {m m' : Mem} {v : Value} {S : Sm} (h : SmF m v S) (z : Pz m m') : SmF m' v S := by
  obtain ⟨va, h1, h2⟩ := h
  exact ⟨va, h1, h2.pz z⟩
def Sm.ent (S : Sm) : Ent := if S.k.tmod 3 = 1 then ⟨1, S.t, S.n, IntKind.i64.wrap S.p, S.args, []⟩ else if S.k.tmod 3 = 2 then ⟨2, 0, 0, 0, [], memL S.mm⟩ else ⟨0, 0, 0, 0, [], []⟩
theorem bldI (a b : Int) : opBuild Try.prog 41 [(0, .int .u16 a), (1, .int .u16 b)] = some (.agg #[.int .u16 a, .int .u16 b]) := by kernel_rfl
theorem bldC (a b c : Int) (q : Option Addr) (n z : Nat) : opBuild Try.prog 43 [(0, .agg #[.int .u16 a, .int .u16 b]), (1, .int .i64 c), (2, .slice q n z)] = some (.agg #[.int .u16 a, .int .u16 b, .int .i64 c, .slice q n z]) := by kernel_rfl
theorem bldE1 (a b c : Int) (q : Option Addr) (n z : Nat) : opBuild Try.prog 45 [(0, .int .u8 1), (1, .agg #[.int .u16 a, .int .u16 b, .int .i64 c, .slice q n z])] = some (.agg #[.int .u8 1, .int .u16 a, .int .u16 b, .int .i64 c, .slice q n z, .slice none 0 0]) := by kernel_rfl
theorem bldE2 (q : Option Addr) (n z : Nat) : opBuild Try.prog 45 [(0, .int .u8 2), (2, .slice q n z)] = some (.agg #[.int .u8 2, .int .u16 0, .int .u16 0, .int .i64 0, .slice none 0 0, .slice q n z]) := by kernel_rfl
theorem bldE0 : opBuild Try.prog 45 [] = some (.agg #[.int .u8 0, .int .u16 0, .int .u16 0, .int .i64 0, .slice none 0 0, .slice none 0 0]) := by kernel_rfl
theorem scall_ret {m : Mem} {t n p : Int} {a : Option Addr} {l z : Nat} {K : Value → Mem → Prop} (hK : ∀ m', Ext m m' → K (.agg #[.int .u16 t, .int .u16 n, .int .i64 (IntKind.i64.wrap p), .slice a l z]) m') : Ret Try.prog 20 [.agg #[.int .u16 t, .int .u16 n, .int .u16 p, .slice a l z]] m K := by
  refine ret_wp [] Try.func20 rfl (by decide) (by kernel_rfl) ?_
  simp only [Nat.reduceAdd, reduceIte, Nat.reduceEqDiff, reduceCtorEq, opLen, Int.reduceLT, Int.reduceEq, opConvert, opIndexAddr, opLoad, Nat.reduceLT, undef, Nat.reduceLeDiff, Array.toList, wk4, wk5, wk0, fxC16e, bldI, bldC]
  exact hK _ (((Ext.new _ _).trans (Ext.new _ _)).set (by omega))
theorem sentry_ret {m : Mem} {v : Value} {S : Sm} (hv : SmF m v S) {K : Value → Mem → Prop} (hK : ∀ v m', EnF m' v S.ent → Ext m m' → K v m') : Ret Try.prog 9 [v] m K := by
  obtain ⟨va, rfl, hs⟩ := hv
  obtain ⟨a, z, rfl⟩ := hs.is
  refine ret_wp [] Try.func9 rfl (by decide) (by kernel_rfl) ?_
  simp only [Nat.reduceAdd, reduceIte, Nat.reduceEqDiff, reduceCtorEq, opLen, Int.reduceLT, Int.reduceEq, opConvert, opIndexAddr, opLoad, Nat.reduceLT, undef, Nat.reduceLeDiff, Array.toList, wk4, wk5, wk0, fxC16e]
  obtain ⟨m0, hm0⟩ : ∃ m0, m0 = (m.new (.cells [.int .u8 S.k, .int .u16 S.t, .int .u16 S.n, .int .u16 S.p, .slice a S.args.length z, .int .u16 S.mm] 28 true)).new (.cells [.int .u8 0, .int .u16 0, .int .u16 0, .int .i64 0, .slice none 0 0, .slice none 0 0] 45 true) := ⟨_, rfl⟩
  have x0 : Ext m m0 := by rw [hm0]; exact (Ext.new _ _).trans (Ext.new _ _)
  have g0 : m0.get m.next = some (.cells [.int .u8 S.k, .int .u16 S.t, .int .u16 S.n, .int .u16 S.p, .slice a S.args.length z, .int .u16 S.mm] 28 true) := by rw [hm0, new_get_ne _ (by rw [new_next]; omega), new_get]
  have g1 : m0.get (m.next + 1) = some (.cells [.int .u8 0, .int .u16 0, .int .u16 0, .int .i64 0, .slice none 0 0, .slice none 0 0] 45 true) := by rw [hm0]; exact new_get (m.new _) _
  have nx : m0.next = m.next + 2 := by rw [hm0]; rfl
  rw [← hm0]
  clear hm0
  refine cond_by (fun h1 => ?_) (fun h1 => ?_)
  · simp only [Nat.reduceAdd, reduceIte, Nat.reduceEqDiff, reduceCtorEq, opLen, Int.reduceLT, Int.reduceEq, opConvert, opIndexAddr, opLoad, Nat.reduceLT, undef, Nat.reduceLeDiff, Array.toList, wk4, wk5, wk0, fxC16e, g0]
    refine scall_ret fun m1 x1 => ?_
    have g2 := (x1.2 (m.next + 1) (by omega)).trans g1
    simp only [Nat.reduceAdd, reduceIte, Nat.reduceEqDiff, reduceCtorEq, opLen, Int.reduceLT, Int.reduceEq, opConvert, opIndexAddr, opLoad, Nat.reduceLT, undef, Nat.reduceLeDiff, Array.toList, wk4, wk5, wk0, fxC16e, bldE1, g2]
    have x := (x0.trans x1).set (i := m.next + 1) (b := .cells [.int .u8 1, .int .u16 S.t, .int .u16 S.n, .int .i64 (IntKind.i64.wrap S.p), .slice a S.args.length z, .slice none 0 0] 45 true) (by omega)
    refine hK _ _ ?_ x
    rw [Sm.ent, if_pos h1]
    exact ⟨_, _, rfl, hs.pz x.pz, FRow.nil⟩
  · simp only [Nat.reduceAdd, reduceIte, Nat.reduceEqDiff, reduceCtorEq, opLen, Int.reduceLT, Int.reduceEq, opConvert, opIndexAddr, opLoad, Nat.reduceLT, undef, Nat.reduceLeDiff, Array.toList, wk4, wk5, wk0, fxC16e, g0]
    refine cond_by (fun h2 => ?_) (fun h2 => ?_)
    · simp only [Nat.reduceAdd, reduceIte, Nat.reduceEqDiff, reduceCtorEq, opLen, Int.reduceLT, Int.reduceEq, opConvert, opIndexAddr, opLoad, Nat.reduceLT, undef, Nat.reduceLeDiff, Array.toList, wk4, wk5, wk0, fxC16e, g0]
      refine memf_ret fun m1 w x1 f1 => ?_
      have g2 := (x1.2 (m.next + 1) (by omega)).trans g1
      obtain ⟨qa, qz, rfl⟩ := f1.is
      simp only [Nat.reduceAdd, reduceIte, Nat.reduceEqDiff, reduceCtorEq, opLen, Int.reduceLT, Int.reduceEq, opConvert, opIndexAddr, opLoad, Nat.reduceLT, undef, Nat.reduceLeDiff, Array.toList, wk4, wk5, wk0, fxC16e, bldE2, g2]
      have x := (x0.trans x1).set (i := m.next + 1) (b := .cells [.int .u8 2, .int .u16 0, .int .u16 0, .int .i64 0, .slice none 0 0, .slice qa (memL S.mm).length qz] 45 true) (by omega)
      refine hK _ _ ?_ x
      rw [Sm.ent, if_neg h1, if_pos h2]
      exact ⟨_, _, rfl, FRow.nil, f1.pz (Pz.set g2 _)⟩
    · simp only [Nat.reduceAdd, reduceIte, Nat.reduceEqDiff, reduceCtorEq, opLen, Int.reduceLT, Int.reduceEq, opConvert, opIndexAddr, opLoad, Nat.reduceLT, undef, Nat.reduceLeDiff, Array.toList, wk4, wk5, wk0, fxC16e, bldE0, g1]
      have x := x0.set (i := m.next + 1) (b := .cells [.int .u8 0, .int .u16 0, .int .u16 0, .int .i64 0, .slice none 0 0, .slice none 0 0] 45 true) (by omega)
      refine hK _ _ ?_ x
      rw [Sm.ent, if_neg h1, if_neg h2]
      exact ⟨_, _, rfl, FRow.nil, FRow.nil⟩
theorem bin_ideq {a b c d : Int} : binV Try.prog .eql 41 (.agg #[.int .u16 a, .int .u16 b]) (.agg #[.int .u16 c, .int .u16 d]) = some (.bool (decide (a = c ∧ b = d))) := by
  have h : Try.prog.eqGuardType Try.prog.depth 41 = false := by kernel_rfl
  have hs : Try.prog.stoodInHeld 41 = false := by kernel_rfl
  have e : eqIn Try.prog 40 41 (.agg #[.int .u16 a, .int .u16 b]) (.agg #[.int .u16 c, .int .u16 d]) = some (decide (a = c ∧ b = d)) := by
    rw [show (40 : Nat) = 38 + 1 + 1 from rfl]
    simp only [eqIn, Try.underlying41, hs, eqFields, partOf, aggOf, Try.underlying22, eqCell]
    have q : ∀ x y : Int, (x == y) = decide (x = y) := fun x y => rfl
    simp only [q]
    by_cases h1 : a = c <;> by_cases h2 : b = d <;> simp [h1, h2]
  simp only [binV, h, e]
  rfl
theorem csame_ret {m : Mem} {t n p t' n' p' : Int} {v v' : Value} {s s' : List Int} (h1 : FRow m v 1 s.length (byteCells s)) (h2 : FRow m v' 1 s'.length (byteCells s')) {K : Value → Mem → Prop} (hK : ∀ m', Ext m m' → K (.bool (decide (t = t' ∧ n = n') && (decide (p = p') && decide (strOf s = strOf s')))) m') : Ret Try.prog 24 [callW t n p v, callW t' n' p' v'] m K := by
  refine ret_wp [] Try.func24 rfl (by decide) (by kernel_rfl) ?_
  have hx : ∀ a b : Blk, Ext m ((m.new a).new b) := fun a b => (Ext.new _ _).trans (Ext.new _ _)
  have c1 := fun a b => conv_string (P := Try.prog) Try.underlying24 Try.underlying5 Try.underlying9 (h1.pz (hx a b).pz).shows
  have c2 := fun a b => conv_string (P := Try.prog) Try.underlying24 Try.underlying5 Try.underlying9 (h2.pz (hx a b).pz).shows
  obtain ⟨a1, z1, rfl⟩ := h1.is
  obtain ⟨a2, z2, rfl⟩ := h2.is
  simp only [Nat.reduceAdd, reduceIte, Nat.reduceEqDiff, reduceCtorEq, opLen, Int.reduceLT, Int.reduceEq, opIndexAddr, opLoad, Nat.reduceLT, undef, Nat.reduceLeDiff, Array.toList, wk4, wk5, wk0, fxC16e, bin_ideq]
  cases d1 : decide (t = t' ∧ n = n') with
  | false =>
    rw [d1] at hK
    simp only [Nat.reduceAdd, reduceIte, Nat.reduceEqDiff, reduceCtorEq, opLen, Int.reduceLT, Int.reduceEq, opIndexAddr, opLoad, Nat.reduceLT, undef, Nat.reduceLeDiff, Array.toList, wk4, wk5, wk0, fxC16e, d1]
    exact hK _ (hx _ _)
  | true =>
    rw [d1] at hK
    simp only [Nat.reduceAdd, reduceIte, Nat.reduceEqDiff, reduceCtorEq, opLen, Int.reduceLT, Int.reduceEq, opIndexAddr, opLoad, Nat.reduceLT, undef, Nat.reduceLeDiff, Array.toList, wk4, wk5, wk0, fxC16e, d1]
    cases d2 : decide (p = p') with
    | false =>
      rw [d2] at hK
      simp only [Nat.reduceAdd, reduceIte, Nat.reduceEqDiff, reduceCtorEq, opLen, Int.reduceLT, Int.reduceEq, opIndexAddr, opLoad, Nat.reduceLT, undef, Nat.reduceLeDiff, Array.toList, wk4, wk5, wk0, fxC16e, d1, d2]
      exact hK _ (hx _ _)
    | true =>
      rw [d2] at hK
      simp only [Nat.reduceAdd, reduceIte, Nat.reduceEqDiff, reduceCtorEq, opLen, Int.reduceLT, Int.reduceEq, opIndexAddr, opLoad, Nat.reduceLT, undef, Nat.reduceLeDiff, Array.toList, wk4, wk5, wk0, fxC16e, d1, d2, c1, c2]
      exact hK _ (hx _ _)
/-- Are two entries the same? -/
def sameE (E F : Ent) : Bool := decide (E.kind = F.kind) && ((decide (E.tr = F.tr ∧ E.nu = F.nu) && (decide (E.pc = F.pc) && decide (strOf E.args = strOf F.args))) && decide (E.mem = F.mem))
theorem sameE_self (E : Ent) : sameE E E = true := by simp [sameE]
theorem esame_ret {m : Mem} {v1 v2 : Value} {E F : Ent} (h1 : EnF m v1 E) (h2 : EnF m v2 F) (hl : E.mem.length < 2 ^ 40) {K : Value → Mem → Prop} (hK : ∀ m', Ext m m' → K (.bool (sameE E F)) m') : Ret Try.prog 13 [v1, v2] m K := by
  obtain ⟨a1, b1, rfl, s1, t1⟩ := h1
  obtain ⟨a2, b2, rfl, s2, t2⟩ := h2
  obtain ⟨p1, c1, rfl⟩ := s1.is
  obtain ⟨p2, c2, rfl⟩ := t1.is
  obtain ⟨p3, c3, rfl⟩ := s2.is
  obtain ⟨p4, c4, rfl⟩ := t2.is
  refine ret_wp [] Try.func13 rfl (by decide) (by kernel_rfl) ?_
  obtain ⟨A, hA⟩ : ∃ A, A = Blk.cells [.int .u8 E.kind, .int .u16 E.tr, .int .u16 E.nu, .int .i64 E.pc, .slice p1 E.args.length c1, .slice p2 E.mem.length c2] 45 true := ⟨_, rfl⟩
  obtain ⟨B, hB⟩ : ∃ B, B = Blk.cells [.int .u8 F.kind, .int .u16 F.tr, .int .u16 F.nu, .int .i64 F.pc, .slice p3 F.args.length c3, .slice p4 F.mem.length c4] 45 true := ⟨_, rfl⟩
  have x0 : Ext m ((m.new A).new B) := (Ext.new _ _).trans (Ext.new _ _)
  have g0 : ((m.new A).new B).get m.next = some A := by rw [new_get_ne _ (by rw [new_next]; omega), new_get]
  have g1 : ((m.new A).new B).get (m.next + 1) = some B := new_get (m.new A) B
  have nx : ((m.new A).new B).next = m.next + 2 := rfl
  by_cases hk : E.kind = F.kind
  · simp only [Nat.reduceAdd, reduceIte, Nat.reduceEqDiff, reduceCtorEq, opLen, Int.reduceLT, Int.reduceEq, opConvert, opIndexAddr, opLoad, Nat.reduceLT, undef, Nat.reduceLeDiff, Array.toList, wk4, wk5, wk0, fxC16e, hk]
    rw [hk] at hA
    rw [← hA, ← hB]
    generalize (m.new A).new B = m0 at x0 g0 g1 nx ⊢
    refine csame_ret (s1.pz x0.pz) (s2.pz x0.pz) fun m1 x1 => ?_
    replace g0 := (x1.2 m.next (by omega)).trans g0
    replace g1 := (x1.2 (m.next + 1) (by omega)).trans g1
    rw [hA] at g0
    rw [hB] at g1
    have xx := x0.trans x1
    have e : sameE E F = ((decide (E.tr = F.tr ∧ E.nu = F.nu) && (decide (E.pc = F.pc) && decide (strOf E.args = strOf F.args))) && decide (E.mem = F.mem)) := by
      rw [sameE, decide_eq_true hk, Bool.true_and]
    rw [e] at hK
    generalize (decide (E.tr = F.tr ∧ E.nu = F.nu) && (decide (E.pc = F.pc) && decide (strOf E.args = strOf F.args))) = c at hK ⊢
    cases c with
    | true =>
      simp only [Nat.reduceAdd, reduceIte, Nat.reduceEqDiff, reduceCtorEq, opLen, Int.reduceLT, Int.reduceEq, opConvert, opIndexAddr, opLoad, Nat.reduceLT, undef, Nat.reduceLeDiff, Array.toList, wk4, wk5, wk0, fxC16e, g0, g1]
      refine equal_ret (t1.pz xx.pz).rd (t2.pz xx.pz).rd hl ?_
      simp only [Nat.reduceAdd, reduceIte, Nat.reduceEqDiff, reduceCtorEq, opLen, Int.reduceLT, Int.reduceEq, opConvert, opIndexAddr, opLoad, Nat.reduceLT, undef, Nat.reduceLeDiff, Array.toList, wk4, wk5, wk0, fxC16e]
      exact hK _ xx
    | false =>
      simp only [Nat.reduceAdd, reduceIte, Nat.reduceEqDiff, reduceCtorEq, opLen, Int.reduceLT, Int.reduceEq, opConvert, opIndexAddr, opLoad, Nat.reduceLT, undef, Nat.reduceLeDiff, Array.toList, wk4, wk5, wk0, fxC16e]
      exact hK _ xx
  · simp only [Nat.reduceAdd, reduceIte, Nat.reduceEqDiff, reduceCtorEq, opLen, Int.reduceLT, Int.reduceEq, opConvert, opIndexAddr, opLoad, Nat.reduceLT, undef, Nat.reduceLeDiff, Array.toList, wk4, wk5, wk0, fxC16e, hk]
    have e : sameE E F = false := by rw [sameE, decide_eq_false hk, Bool.false_and]
    rw [e] at hK
    rw [← hA, ← hB]
    exact hK _ x0
end Go.Proofs.Ytgecmpgpinihhaa
