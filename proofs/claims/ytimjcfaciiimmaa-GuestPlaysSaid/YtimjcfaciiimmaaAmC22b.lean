/- A text of the abstract machine. -/

/- A guest: made, called. -/
import Derived.Test.YtimjcfaciiimmaaAmC22a
import Derived.Test.YtimjcfaciiimmaaAmC22q
import Derived.Test.YtimjcfaciiimmaaAmBun
set_option linter.unusedSimpArgs false
set_option linter.unusedVariables false
set_option maxRecDepth 100000
set_option maxHeartbeats 4000000
namespace Go.Proofs.Ytimjcfaciiimmaa
open Go Go.AM Go.AM.Crc Go.AM.Wire
theorem fxC22b : type_of% (And.intro (And.intro (And.intro (And.intro (And.intro (And.intro (And.intro @Try.underlying3 @Try.underlying4) (And.intro @Try.underlying5 @Try.underlying9)) (And.intro (And.intro @Try.underlying22 @Try.underlying23) (And.intro @Try.underlying25 (And.intro @Try.underlying26 @Try.underlying30)))) (And.intro (And.intro (And.intro @Try.underlying32 @Try.underlying34) (And.intro @Try.underlying35 @Try.underlying39)) (And.intro (And.intro @Try.underlying40 @Try.underlying45) (And.intro @Try.underlying56 (And.intro @Try.underlying62 @Try.underlying66))))) (And.intro (And.intro (And.intro (And.intro @Try.underlying72 @Try.underlying75) (And.intro @Try.underlying77 @Try.underlying83)) (And.intro (And.intro @Try.underlying85 @Try.underlying92) (And.intro @Try.underlying93 (And.intro @Try.underlying94 @Try.underlying98)))) (And.intro (And.intro (And.intro @ts3 @ts4) (And.intro @ts5 (And.intro @ts9 @ts22))) (And.intro (And.intro @ts23 @ts25) (And.intro @ts26 (And.intro @ts30 @ts32)))))) (And.intro (And.intro (And.intro (And.intro (And.intro @ts34 @ts35) (And.intro @ts39 @ts40)) (And.intro (And.intro @ts45 @ts56) (And.intro @ts62 (And.intro @ts66 @ts72)))) (And.intro (And.intro (And.intro @ts75 @ts77) (And.intro @ts83 @ts85)) (And.intro (And.intro @ts92 @ts93) (And.intro @ts94 (And.intro @ts98 @tz3))))) (And.intro (And.intro (And.intro (And.intro @tz4 @tz5) (And.intro @tz9 @tz22)) (And.intro (And.intro @tz23 @tz25) (And.intro @tz26 (And.intro @tz30 @tz32)))) (And.intro (And.intro (And.intro @tz34 @tz35) (And.intro @tz39 (And.intro @tz40 @tz45))) (And.intro (And.intro @tz56 @tz62) (And.intro @tz66 (And.intro @tz72 @tz75))))))) (And.intro (And.intro (And.intro (And.intro (And.intro (And.intro @tz77 @tz83) (And.intro @tz85 @tz92)) (And.intro (And.intro @tz93 @tz94) (And.intro @tz98 (And.intro @tb3 @tb4)))) (And.intro (And.intro (And.intro @tb5 @tb9) (And.intro @tb22 @tb23)) (And.intro (And.intro @tb25 @tb26) (And.intro @tb30 (And.intro @tb32 @tb34))))) (And.intro (And.intro (And.intro (And.intro @tb35 @tb39) (And.intro @tb40 @tb45)) (And.intro (And.intro @tb56 @tb62) (And.intro @tb66 (And.intro @tb72 @tb75)))) (And.intro (And.intro (And.intro @tb77 @tb83) (And.intro @tb85 (And.intro @tb92 @tb93))) (And.intro (And.intro @tb94 @tb98) (And.intro @fr7 (And.intro @fr8 @fr9)))))) (And.intro (And.intro (And.intro (And.intro (And.intro @fr10 @fr11) (And.intro @fr12 @fr13)) (And.intro (And.intro @fr14 @fr23) (And.intro @fr24 (And.intro @fr25 @fr26)))) (And.intro (And.intro (And.intro @bz39 @bz32) (And.intro @bz92 @al39)) (And.intro (And.intro @al32 @al92) (And.intro @al62 (And.intro @bz85 @fa32_0))))) (And.intro (And.intro (And.intro (And.intro @fa32_5 @fa39_0) (And.intro @fa39_1 @fa39_2)) (And.intro (And.intro @fa62_0 @fa62_1) (And.intro @fa62_2 (And.intro @fa85_0 @fa85_1)))) (And.intro (And.intro (And.intro @fa85_2 @fa85_3) (And.intro @fa85_4 (And.intro @fa85_5 @fa85_6))) (And.intro (And.intro @fa92_1 @fa92_4) (And.intro @fa92_5 (And.intro @fa98_0 @fa98_2)))))))) := (And.intro (And.intro (And.intro (And.intro (And.intro (And.intro (And.intro @Try.underlying3 @Try.underlying4) (And.intro @Try.underlying5 @Try.underlying9)) (And.intro (And.intro @Try.underlying22 @Try.underlying23) (And.intro @Try.underlying25 (And.intro @Try.underlying26 @Try.underlying30)))) (And.intro (And.intro (And.intro @Try.underlying32 @Try.underlying34) (And.intro @Try.underlying35 @Try.underlying39)) (And.intro (And.intro @Try.underlying40 @Try.underlying45) (And.intro @Try.underlying56 (And.intro @Try.underlying62 @Try.underlying66))))) (And.intro (And.intro (And.intro (And.intro @Try.underlying72 @Try.underlying75) (And.intro @Try.underlying77 @Try.underlying83)) (And.intro (And.intro @Try.underlying85 @Try.underlying92) (And.intro @Try.underlying93 (And.intro @Try.underlying94 @Try.underlying98)))) (And.intro (And.intro (And.intro @ts3 @ts4) (And.intro @ts5 (And.intro @ts9 @ts22))) (And.intro (And.intro @ts23 @ts25) (And.intro @ts26 (And.intro @ts30 @ts32)))))) (And.intro (And.intro (And.intro (And.intro (And.intro @ts34 @ts35) (And.intro @ts39 @ts40)) (And.intro (And.intro @ts45 @ts56) (And.intro @ts62 (And.intro @ts66 @ts72)))) (And.intro (And.intro (And.intro @ts75 @ts77) (And.intro @ts83 @ts85)) (And.intro (And.intro @ts92 @ts93) (And.intro @ts94 (And.intro @ts98 @tz3))))) (And.intro (And.intro (And.intro (And.intro @tz4 @tz5) (And.intro @tz9 @tz22)) (And.intro (And.intro @tz23 @tz25) (And.intro @tz26 (And.intro @tz30 @tz32)))) (And.intro (And.intro (And.intro @tz34 @tz35) (And.intro @tz39 (And.intro @tz40 @tz45))) (And.intro (And.intro @tz56 @tz62) (And.intro @tz66 (And.intro @tz72 @tz75))))))) (And.intro (And.intro (And.intro (And.intro (And.intro (And.intro @tz77 @tz83) (And.intro @tz85 @tz92)) (And.intro (And.intro @tz93 @tz94) (And.intro @tz98 (And.intro @tb3 @tb4)))) (And.intro (And.intro (And.intro @tb5 @tb9) (And.intro @tb22 @tb23)) (And.intro (And.intro @tb25 @tb26) (And.intro @tb30 (And.intro @tb32 @tb34))))) (And.intro (And.intro (And.intro (And.intro @tb35 @tb39) (And.intro @tb40 @tb45)) (And.intro (And.intro @tb56 @tb62) (And.intro @tb66 (And.intro @tb72 @tb75)))) (And.intro (And.intro (And.intro @tb77 @tb83) (And.intro @tb85 (And.intro @tb92 @tb93))) (And.intro (And.intro @tb94 @tb98) (And.intro @fr7 (And.intro @fr8 @fr9)))))) (And.intro (And.intro (And.intro (And.intro (And.intro @fr10 @fr11) (And.intro @fr12 @fr13)) (And.intro (And.intro @fr14 @fr23) (And.intro @fr24 (And.intro @fr25 @fr26)))) (And.intro (And.intro (And.intro @bz39 @bz32) (And.intro @bz92 @al39)) (And.intro (And.intro @al32 @al92) (And.intro @al62 (And.intro @bz85 @fa32_0))))) (And.intro (And.intro (And.intro (And.intro @fa32_5 @fa39_0) (And.intro @fa39_1 @fa39_2)) (And.intro (And.intro @fa62_0 @fa62_1) (And.intro @fa62_2 (And.intro @fa85_0 @fa85_1)))) (And.intro (And.intro (And.intro @fa85_2 @fa85_3) (And.intro @fa85_4 (And.intro @fa85_5 @fa85_6))) (And.intro (And.intro @fa92_1 @fa92_4) (And.intro @fa92_5 (And.intro @fa98_0 @fa98_2))))))))
def AnsR (m : Mem) (x : Value) (a : Ans) : Prop := ∃ v, x = ansV a.e a.q v ∧ FRow m v 1 a.s.length (byteCells a.s)
theorem AnsR.pz {m m' : Mem} (hp : Pz m m') (x : Value) (a : Ans) (h : AnsR m x a) : AnsR m' x a := by
  obtain ⟨v, h1, h2⟩ := h
  exact ⟨v, h1, h2.pz hp⟩
def PtrR (x : Value) (p : Nat × Int) : Prop := x = .pointer (some ⟨p.1, 0, none⟩)
def PendIs (m : Mem) (b : Nat) (left : Int) : Prop := b < m.next ∧ ∃ u n pr a k z tp, m.get b = some (.cells [.int .u16 u, .int .u16 n, .int .i64 pr, .slice a k z, .pointer tp, .int .i64 left] 98 true)
structure Gs where
  id : Int
  troupe : Int
  time : Int
  servers : List Int
  opn : List (Int × (Nat × Int))
  res : List (Int × Ans)
  order : List Int
abbrev nums (l : List Int) : List Value := l.map (.int .u16)
abbrev gCells (G : Gs) (pv sv : Value) (ob rb : Nat) (ov : Value) : List Value := [.int .i64 G.id, .int .u16 G.troupe, .string ⟨#[102, 97, 99, 101]⟩, .int .i64 0, .int .i64 0, .slice none 0 0, .slice none 0 0, pv, sv, .map (some ob), .map (some rb), ov]
structure GIs (m : Mem) (g : Nat) (G : Gs) (ob rb r : Nat) (pv sv ov : Value) : Prop where
  gg : m.get g = some (.cells (gCells G pv sv ob rb ov) 85 true)
  fp : FRow m pv 12 3 (procsC G.time 3)
  fs : FRow m sv 1 G.servers.length (ints G.servers)
  mo : MapIs m ob keyU PtrR G.opn
  mr : MapIs m rb keyU (AnsR m) G.res
  oo : OwnI r 22 1 m ov G.order.length (nums G.order)
  pe : ∀ p ∈ G.opn, PendIs m p.2.1 p.2.2
  lg : g < m.next
  lo : ob < m.next
  lr : rb < m.next
  ne : ob ≠ rb
  rg : r ≠ g
  ro : r ≠ ob
  rr : r ≠ rb
theorem GIs.keep {m m' : Mem} {g : Nat} {G : Gs} {ob rb r : Nat} {pv sv ov : Value} (H : GIs m g G ob rb r pv sv ov) (z : Pz m m') (hg : m'.get g = m.get g) (ho : m'.get ob = m.get ob) (hr : m'.get rb = m.get rb) (hrr : r < m.next → m'.get r = m.get r) (hp : ∀ p ∈ G.opn, m'.get p.2.1 = m.get p.2.1) : GIs m' g G ob rb r pv sv ov := by
  obtain ⟨h1, h2, h3, h4, h5, h6, h7, h8, h9, h10, h11, h12, h13, h14⟩ := H
  have := z.1
  refine ⟨hg.trans h1, h2.pz z, h3.pz z, h4.keep ho, (h5.keep hr).mono (AnsR.pz z), h6.keep this hrr, fun p hpm => ?_, by omega, by omega, by omega, h11, h12, h13, h14⟩
  obtain ⟨q1, u, n, pr, a, k, zz, tp, q2⟩ := h7 p hpm
  exact ⟨by omega, u, n, pr, a, k, zz, tp, (hp p hpm).trans q2⟩
theorem GIs.ext {m m' : Mem} {g : Nat} {G : Gs} {ob rb r : Nat} {pv sv ov : Value} (H : GIs m g G ob rb r pv sv ov) (x : Ext m m') : GIs m' g G ob rb r pv sv ov :=
  H.keep x.pz (x.2 g H.lg) (x.2 ob H.lo) (x.2 rb H.lr) (x.2 r) fun p hp => x.2 _ (H.pe p hp).1
def GAt (m : Mem) (g : Nat) (G : Gs) : Prop := ∃ ob rb r pv sv ov, GIs m g G ob rb r pv sv ov
theorem GAt.ext {m m' : Mem} {g : Nat} {G : Gs} (H : GAt m g G) (x : Ext m m') : GAt m' g G := by
  obtain ⟨ob, rb, r, pv, sv, ov, H⟩ := H
  exact ⟨ob, rb, r, pv, sv, ov, H.ext x⟩
theorem bld85 (id tr : Int) (a : Option Addr) (k z : Nat) (b : Option Addr) (k' z' : Nat) (o r : Nat) : opBuild Try.prog 85 [(0, .int .i64 id), (1, .int .u16 tr), (2, faceV (.slice a k z)), (3, .slice b k' z'), (4, .map (some o)), (5, .map (some r))] = some (.agg #[.int .i64 id, .int .u16 tr, .string ⟨#[102, 97, 99, 101]⟩, .int .i64 0, .int .i64 0, .slice none 0 0, .slice none 0 0, .slice a k z, .slice b k' z', .map (some o), .map (some r), .slice none 0 0]) := by kernel_rfl
theorem bld66 (id to t n p : Int) (a : Option Addr) (k z : Nat) : opBuild Try.prog 66 [(0, .int .u8 6), (1, .int .i64 id), (2, .int .i64 to), (9, .agg #[.int .u16 t, .int .u16 n, .int .i64 p, .slice a k z])] = some (.agg #[.int .u8 6, .int .i64 id, .int .i64 to, .int .i64 0, .int .i64 0, .int .i64 0, .int .i64 0, .int .i64 0, .bool false, .int .u8 0, .int .u16 0, .int .u16 0, .int .i64 0, .slice none 0 0, .slice none 0 0, .int .i64 0, .slice none 0 0, .int .u16 t, .int .u16 n, .int .i64 p, .slice a k z, .int .u16 0, .int .u16 0, .int .i64 0, .int .i64 0, .slice none 0 0]) := by kernel_rfl
def letC (id to t n p : Int) (a : Option Addr) (k z : Nat) : List Value := [.int .u8 6, .int .i64 id, .int .i64 to, .int .i64 0, .int .i64 0, .int .i64 0, .int .i64 0, .int .i64 0, .bool false, .int .u8 0, .int .u16 0, .int .u16 0, .int .i64 0, .slice none 0 0, .slice none 0 0, .int .i64 0, .slice none 0 0, .int .u16 t, .int .u16 n, .int .i64 p, .slice a k z, .int .u16 0, .int .u16 0, .int .i64 0, .int .i64 0, .slice none 0 0]
theorem one_letter (m : Mem) (id to t n p : Int) (a : Option Addr) (k z : Nat) : opBuildSlice Try.prog 34 1 [(0, .agg #[.int .u8 6, .int .i64 id, .int .i64 to, .int .i64 0, .int .i64 0, .int .i64 0, .int .i64 0, .int .i64 0, .bool false, .int .u8 0, .int .u16 0, .int .u16 0, .int .i64 0, .slice none 0 0, .slice none 0 0, .int .i64 0, .slice none 0 0, .int .u16 t, .int .u16 n, .int .i64 p, .slice a k z, .int .u16 0, .int .u16 0, .int .i64 0, .int .i64 0, .slice none 0 0])] m = some (.slice (some ⟨m.next, 0, none⟩) 1 26, m.new (.cells (letC id to t n p a k z) 66 true)) := by kernel_rfl
theorem bld98 (t n p : Int) (a : Option Addr) (k z : Nat) (tp : Option Addr) (l : Int) : opBuild Try.prog 98 [(0, .agg #[.int .u16 t, .int .u16 n, .int .i64 p, .slice a k z]), (1, .pointer tp), (2, .int .i64 l)] = some (.agg #[.int .u16 t, .int .u16 n, .int .i64 p, .slice a k z, .pointer tp, .int .i64 l]) := by kernel_rfl
theorem bld56 (t n : Int) : opBuild Try.prog 56 [(0, .int .u16 t), (1, .int .u16 n)] = some (.agg #[.int .u16 t, .int .u16 n]) := by kernel_rfl
theorem bld62 (t n p : Int) (a : Option Addr) (k z : Nat) : opBuild Try.prog 62 [(0, .agg #[.int .u16 t, .int .u16 n]), (1, .int .i64 p), (2, .slice a k z)] = some (callV t n p (.slice a k z)) := by kernel_rfl
theorem one_u16 (m : Mem) (n : Int) : opBuildSlice Try.prog 45 1 [(0, .int .u16 n)] m = some (.slice (some ⟨m.next, 0, none⟩) 1 1, m.new (.cells [.int .u16 n] 22 true)) := by kernel_rfl
theorem vqF {s : ByteArray} {a b : Int} {p q r : Option Addr} {n1 n2 n3 z1 z2 z3 : Nat} : veq (.agg #[.string s, .int .i64 a, .int .i64 b, .slice p n1 z1, .slice q n2 z2, .slice r n3 z3]) (.agg #[.string s, .int .i64 a, .int .i64 b, .slice p n1 z1, .slice q n2 z2, .slice r n3 z3]) = true := by simp [veq, veqList, veqCell]
theorem gnew_ret {m : Mem} {id tr t : Int} {pv sv : Value} {l : List Int} (fp : FRow m pv 12 3 (procsC t 3)) (fs : FRow m sv 1 l.length (ints l)) (hl : l.length < 2 ^ 40) {K : Value → Mem → Prop} (hK : ∀ m' g, GAt m' g ⟨id, tr, t, l, [], [], []⟩ → Pz m m' → K (.pointer (some ⟨g, 0, none⟩)) m') : Ret Try.prog 8 [.int .i64 id, .int .u16 tr, faceV pv, sv] m K := by
  refine Ret.pz (Ret.join ?_)
  obtain ⟨pa, pq, rfl⟩ := fp.is
  obtain ⟨sa, sq, rfl⟩ := fs.is
  refine ret_wp [(1, [2])] Try.func8 rfl (by decide) (by kernel_rfl) ?_
  have x0 := Ext.new m (.cells [.string ⟨#[102, 97, 99, 101]⟩, .int .i64 0, .int .i64 0, .slice none 0 0, .slice none 0 0, .slice pa 3 pq] 32 true)
  have g0 := new_get m (.cells [.string ⟨#[102, 97, 99, 101]⟩, .int .i64 0, .int .i64 0, .slice none 0 0, .slice none 0 0, .slice pa 3 pq] 32 true)
  have n0 : (m.new (.cells [.string ⟨#[102, 97, 99, 101]⟩, .int .i64 0, .int .i64 0, .slice none 0 0, .slice none 0 0, .slice pa 3 pq] 32 true)).next = m.next + 1 := rfl
  simp only [wk6, Nat.reduceBEq, wk1, wk3, forall_eq, Nat.reduceAdd, reduceIte, Nat.reduceEqDiff, reduceCtorEq, opLen, Int.reduceLT, Int.reduceEq, opConvert, opIndexAddr, opLoad, Nat.reduceLT, new_next, set_get_if, set_next, decide_true, decide_false, beq_tt, beq_tf, beq_ft, beq_ff, undef, Nat.left_eq_add, Nat.add_eq_left, List.drop_zero, List.drop_succ_cons, List.take_succ_cons, List.take_zero, List.drop_nil, List.length_append, Nat.reduceLeDiff, Nat.add_zero, Nat.add_assoc, Nat.add_right_cancel_iff, List.cons_append, List.nil_append, Array.toList, Option.isNone_none, Option.isNone_some, ne_eq, not_true_eq_false, not_false_eq_true, bin_geq26, bin_mapn, bin_pnn, bin_pne, veq_map, bld66, bld98, bld56, bld62, one_u16, one_letter, no_ints, no_bytes, wk4, wk0, fxC22b]
  generalize m.new (.cells [.string ⟨#[102, 97, 99, 101]⟩, .int .i64 0, .int .i64 0, .slice none 0 0, .slice none 0 0, .slice pa 3 pq] 32 true) = m0 at x0 g0 n0 ⊢
  obtain ⟨qa, qq, m1, r1, p1, o1, n1, n1', x1⟩ := ints_copy (fs.pz x0.pz) hl
  have g1 := (x1.2 m.next (by omega)).trans g0
  have nm : ¬ m.next = m0.next := by omega
  refine Loose.by (fun y => y = m.next) ?_
  have nm1 : ¬ m.next = m1.next := by omega
  have nm2 : ¬ m.next = m1.next + 1 := by omega
  have nm3 : ¬ m.next = m1.next + 2 := by omega
  simp only [wk6, Nat.reduceBEq, wk1, wk3, forall_eq, Nat.reduceAdd, reduceIte, Nat.reduceEqDiff, reduceCtorEq, opLen, Int.reduceLT, Int.reduceEq, opConvert, opIndexAddr, opLoad, Nat.reduceLT, undef, Nat.reduceLeDiff, Array.toList, bin_geq26, bin_mapn, bin_pnn, bin_pne, veq_map, bld66, bld98, bld56, bld62, one_u16, one_letter, no_ints, no_bytes, wk4, wk5, wk0, fxC22b, g0, nm, p1, g1, bld85, vqF, nm1, nm2, nm3]
  obtain ⟨m2, hm2⟩ : ∃ m2, m2 = ((m1.new (.map [])).new (.map [])).new (.cells (gCells ⟨id, tr, t, l, [], [], []⟩ (.slice pa 3 pq) (.slice qa l.length qq) m1.next (m1.next + 1) (.slice none 0 0)) 85 true) := ⟨_, rfl⟩
  have x2 : Ext m1 m2 := by rw [hm2]; exact new3_ext _ _ _ _
  have e1 : m2.get m1.next = some (.map []) := by rw [hm2]; exact new3_0 _ _ _ _
  have e2 : m2.get (m1.next + 1) = some (.map []) := by rw [hm2]; exact new3_1 _ _ _ _
  have e3 : m2.get (m1.next + 2) = some (.cells (gCells ⟨id, tr, t, l, [], [], []⟩ (.slice pa 3 pq) (.slice qa l.length qq) m1.next (m1.next + 1) (.slice none 0 0)) 85 true) := by rw [hm2]; exact new3_2 _ _ _ _
  have n2 : m2.next = m1.next + 3 := by rw [hm2]; rfl
  have e4 : ((m1.new (.map [])).new (.map [])).new (.cells [.int .i64 id, .int .u16 tr, .string ⟨#[102, 97, 99, 101]⟩, .int .i64 0, .int .i64 0, .slice none 0 0, .slice none 0 0, .slice pa 3 pq, .slice qa l.length qq, .map (some m1.next), .map (some (m1.next + 1)), .slice none 0 0] 85 true) = m2 := hm2.symm
  rw [e4]
  clear e4 hm2
  obtain ⟨m3, z3, f3, n3, k3⟩ := (o1.ext x2).frz
  refine ⟨m3, z3, fun zz => hK m3 (m1.next + 2) ⟨m1.next, m1.next + 1, m1.next + 3, _, _, _, (k3 _ (by omega)).trans e3, fp.pz zz, f3, ⟨[], (k3 _ (by omega)).trans e1, trivial⟩, ⟨[], (k3 _ (by omega)).trans e2, trivial⟩, OwnI.nil, (fun p hp => by cases hp), by omega, by omega, by omega, by omega, by omega, by omega, by omega⟩ zz⟩
/-- Calls that are put to all nodes. -/
theorem ask_ret {m : Mem} {g : Nat} {G : Gs} {ob rb r b : Nat} {pv sv ov : Value} {left : Int} (H : GIs m g G ob rb r pv sv ov) (hb : PendIs m b left) (hl : G.servers.length < 2 ^ 30) {K : Value → Mem → Prop}
    (hK : ∀ m' w r cs, Ext m m' → OwnI r 66 26 m' w G.servers.length cs → m.next ≤ r → K w m') : Ret Try.prog 25 [.pointer (some ⟨g, 0, none⟩), .pointer (some ⟨b, 0, none⟩)] m K := by
  refine ret_wp [] Try.func25 rfl (by decide) (by kernel_rfl) ?_
  have gg := H.gg
  have ls := H.fs.len (P := Try.prog) Try.underlying25
  obtain ⟨hbl, u, n, pr, a, k, z, tp, gb⟩ := hb
  obtain ⟨sa, sq, hsv⟩ := H.fs.is
  simp only [Nat.reduceAdd, reduceIte, Nat.reduceEqDiff, reduceCtorEq, Int.reduceLT, Int.reduceEq, opConvert, opIndexAddr, opLoad, Nat.reduceLT, undef, Nat.reduceLeDiff, Array.toList, bin_geq26, bin_mapn, bin_pnn, bin_pne, veq_map, bld66, bld98, bld56, bld62, one_u16, one_letter, no_ints, no_bytes, wk4, wk5, wk0, fxC22b, gg, ls]
  refine loop_wp [] (by kernel_rfl) (fun q env μ => ∃ (j r' : Nat) (pv' : Value) (cs : List Value), q + j = G.servers.length ∧ GrowR 66 26 m μ pv' r' j cs ∧ env 0 = some (.pointer (some ⟨g, 0, none⟩)) ∧ env 1 = some (.pointer (some ⟨b, 0, none⟩)) ∧ env 5 = some pv' ∧ env 11 = some sv ∧ env 12 = some (.int .i64 G.servers.length) ∧ env 13 = some (.int .i64 j)) ?_ G.servers.length ⟨0, m.next, .slice none 0 0, [], rfl, GrowR.nil m, rfl, rfl, rfl, rfl, rfl, rfl⟩
  rintro q env μ ⟨j, r', pv', cs, hq, R, e0, e1, e5, e11, e12, e13⟩
  simp only [Nat.reduceAdd, reduceIte, Nat.reduceEqDiff, reduceCtorEq, opLen, Int.reduceLT, Int.reduceEq, opConvert, opIndexAddr, opLoad, Nat.reduceLT, undef, Nat.reduceLeDiff, Array.toList, bin_geq26, bin_mapn, bin_pnn, bin_pne, veq_map, bld66, bld98, bld56, bld62, one_u16, one_letter, no_ints, no_bytes, wk4, wk5, wk0, fxC22b, e12, e13]
  refine cond_by (fun hlt => ?_) (fun hge => ?_)
  · have hj : j < G.servers.length := by omega
    have xμ := R.1
    obtain ⟨p, h1, h2⟩ := RdI.at (l := G.servers) (H.fs.pz xμ.pz).rd hj
    have lid : opLoad Try.prog 3 (.pointer (some ⟨g, 0, none⟩)) μ = some (.int .i64 G.id) := load_cell ((xμ.2 g H.lg).trans gg) (by simp only [aggOf, Try.underlying3]) rfl
    have lc : opLoad Try.prog 62 (.pointer (some ⟨b, 0, none⟩)) μ = some (.agg #[.int .u16 u, .int .u16 n, .int .i64 pr, .slice a k z]) := by
      simp only [opLoad, (xμ.2 b hbl).trans gb, aggOf, Try.underlying62, ts62]
      rfl
    simp only [Nat.reduceAdd, reduceIte, Nat.reduceEqDiff, reduceCtorEq, opLen, Int.reduceLT, Int.reduceEq, opConvert, Nat.reduceLT, undef, Nat.reduceLeDiff, Array.toList, bin_geq26, bin_mapn, bin_pnn, bin_pne, veq_map, bld66, bld98, bld56, bld62, one_u16, one_letter, no_ints, no_bytes, wk4, wk5, wk0, fxC22b, e0, e1, e5, e11, e12, e13, h1, h2, lid, lc, bld66, one_letter]
    refine R.push (P := Try.prog) Try.underlying34 ts66 (by decide) tz66 tb66 (by decide) rfl rfl (by omega) rfl rfl fun a' q' m' r2 R2 => ?_
    simp only [Nat.reduceAdd, reduceIte, Nat.reduceEqDiff, reduceCtorEq, opLen, Int.reduceLT, Int.reduceEq, opConvert, opIndexAddr, opLoad, Nat.reduceLT, undef, Nat.reduceLeDiff, Array.toList, bin_geq26, bin_mapn, bin_pnn, bin_pne, veq_map, bld66, bld98, bld56, bld62, one_u16, one_letter, no_ints, no_bytes, wk4, wk5, wk0, fxC22b, e0, e1, e5, e11, e12, e13]
    refine ⟨q - 1, by omega, j + 1, r2, _, _, by omega, R2, rfl, ?_⟩
    rw [wrap_i64 (by omega) (by omega)]; rfl
  · obtain rfl : j = G.servers.length := by omega
    simp only [Nat.reduceAdd, reduceIte, Nat.reduceEqDiff, reduceCtorEq, opLen, Int.reduceLT, Int.reduceEq, opConvert, opIndexAddr, opLoad, Nat.reduceLT, undef, Nat.reduceLeDiff, Array.toList, bin_geq26, bin_mapn, bin_pnn, bin_pne, veq_map, bld66, bld98, bld56, bld62, one_u16, one_letter, no_ints, no_bytes, wk4, wk5, wk0, fxC22b, e5, e12, e13]
    exact hK μ pv' r' cs R.1 R.2.1 R.2.2
end Go.Proofs.Ytimjcfaciiimmaa
