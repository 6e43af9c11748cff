/- A text of the abstract machine. -/

/- GuestPlays comes to true: the simp only [Nat.reduceAdd, reduceIte, Nat.reduceEqDiff, reduceCtorEq, opLen, Int.reduceLT, Int.reduceEq, opConvert, opIndexAddr, opLoad, Nat.reduceLT, undef, Nat.reduceLeDiff, Array.toList, bin_geq26, bin_mapn, bin_pnn, bin_pne, veq_map, bldE, bldA, bldV, bld66, bld56, bld62, one_u16, no_ints, no_bytes, wk4, wk5, wk0, fxC22z]. -/
import Derived.Test.YtimjcfaciiimmaaAmC22u
import Derived.Test.YtimjcfaciiimmaaAmC22j
import Derived.Test.YtimjcfaciiimmaaAmC22k
import Derived.Test.YtimjcfaciiimmaaAmC22GuestFull
import Derived.Test.YtimjcfaciiimmaaAmBun
set_option linter.unusedSimpArgs false
set_option linter.unusedVariables false
set_option maxRecDepth 100000
set_option maxHeartbeats 4000000
namespace Go.Proofs.Ytimjcfaciiimmaa
open Go Go.AM Go.AM.Crc Go.AM.Wire
theorem fxC22z : type_of% (And.intro (And.intro (And.intro (And.intro (And.intro (And.intro (And.intro @Try.underlying3 (And.intro @Try.underlying4 @Try.underlying5)) (And.intro (And.intro @Try.underlying9 @Try.underlying22) (And.intro @Try.underlying23 @Try.underlying25))) (And.intro (And.intro @Try.underlying26 (And.intro @Try.underlying30 @Try.underlying32)) (And.intro (And.intro @Try.underlying34 @Try.underlying35) (And.intro @Try.underlying39 @Try.underlying40)))) (And.intro (And.intro (And.intro @Try.underlying45 (And.intro @Try.underlying56 @Try.underlying62)) (And.intro (And.intro @Try.underlying66 @Try.underlying72) (And.intro @Try.underlying75 @Try.underlying77))) (And.intro (And.intro @Try.underlying83 (And.intro @Try.underlying85 @Try.underlying92)) (And.intro (And.intro @Try.underlying93 @Try.underlying94) (And.intro @Try.underlying98 @Try.underlying49))))) (And.intro (And.intro (And.intro (And.intro @Try.underlying52 (And.intro @Try.underlying54 @Try.underlying59)) (And.intro (And.intro @Try.underlying60 @Try.underlying64) (And.intro @Try.underlying69 @Try.underlying70))) (And.intro (And.intro @Try.underlying71 (And.intro @Try.underlying74 @Try.underlying101)) (And.intro (And.intro @Try.underlying103 @ts3) (And.intro @ts4 @ts5)))) (And.intro (And.intro (And.intro @ts9 (And.intro @ts22 @ts23)) (And.intro (And.intro @ts25 @ts26) (And.intro @ts30 @ts32))) (And.intro (And.intro (And.intro @ts34 @ts35) (And.intro @ts39 @ts40)) (And.intro (And.intro @ts45 @ts56) (And.intro @ts62 @ts66)))))) (And.intro (And.intro (And.intro (And.intro (And.intro @ts72 (And.intro @ts75 @ts77)) (And.intro (And.intro @ts83 @ts85) (And.intro @ts92 @ts93))) (And.intro (And.intro @ts94 (And.intro @ts98 @ts49)) (And.intro (And.intro @ts52 @ts54) (And.intro @ts59 @ts60)))) (And.intro (And.intro (And.intro @ts64 (And.intro @ts69 @ts70)) (And.intro (And.intro @ts71 @ts74) (And.intro @ts101 @ts103))) (And.intro (And.intro @tz3 (And.intro @tz4 @tz5)) (And.intro (And.intro @tz9 @tz22) (And.intro @tz23 @tz25))))) (And.intro (And.intro (And.intro (And.intro @tz26 (And.intro @tz30 @tz32)) (And.intro (And.intro @tz34 @tz35) (And.intro @tz39 @tz40))) (And.intro (And.intro @tz45 (And.intro @tz56 @tz62)) (And.intro (And.intro @tz66 @tz72) (And.intro @tz75 @tz77)))) (And.intro (And.intro (And.intro @tz83 (And.intro @tz85 @tz92)) (And.intro (And.intro @tz93 @tz94) (And.intro @tz98 @tz49))) (And.intro (And.intro (And.intro @tz52 @tz54) (And.intro @tz59 @tz60)) (And.intro (And.intro @tz64 @tz69) (And.intro @tz70 @tz71))))))) (And.intro (And.intro (And.intro (And.intro (And.intro (And.intro @tz74 (And.intro @tz101 @tz103)) (And.intro (And.intro @tb3 @tb4) (And.intro @tb5 @tb9))) (And.intro (And.intro @tb22 (And.intro @tb23 @tb25)) (And.intro (And.intro @tb26 @tb30) (And.intro @tb32 @tb34)))) (And.intro (And.intro (And.intro @tb35 (And.intro @tb39 @tb40)) (And.intro (And.intro @tb45 @tb56) (And.intro @tb62 @tb66))) (And.intro (And.intro @tb72 (And.intro @tb75 @tb77)) (And.intro (And.intro @tb83 @tb85) (And.intro @tb92 @tb93))))) (And.intro (And.intro (And.intro (And.intro @tb94 (And.intro @tb98 @tb49)) (And.intro (And.intro @tb52 @tb54) (And.intro @tb59 @tb60))) (And.intro (And.intro @tb64 (And.intro @tb69 @tb70)) (And.intro (And.intro @tb71 @tb74) (And.intro @tb101 @tb103)))) (And.intro (And.intro (And.intro @fr7 (And.intro @fr8 @fr9)) (And.intro (And.intro @fr10 @fr11) (And.intro @fr12 @fr13))) (And.intro (And.intro (And.intro @fr14 @fr23) (And.intro @fr24 @fr25)) (And.intro (And.intro @fr26 @fr6) (And.intro @fr15 @fr16)))))) (And.intro (And.intro (And.intro (And.intro (And.intro @fr17 (And.intro @fr18 @fr19)) (And.intro (And.intro @fr20 @fr21) (And.intro @fr22 @bz39))) (And.intro (And.intro @bz32 (And.intro @bz92 @al39)) (And.intro (And.intro @al32 @al92) (And.intro @al62 @bz85)))) (And.intro (And.intro (And.intro @fa32_0 (And.intro @fa32_5 @fa39_0)) (And.intro (And.intro @fa39_1 @fa39_2) (And.intro @fa62_0 @fa62_1))) (And.intro (And.intro @fa62_2 (And.intro @fa85_0 @fa85_1)) (And.intro (And.intro @fa85_2 @fa85_3) (And.intro @fa85_4 @fa85_5))))) (And.intro (And.intro (And.intro (And.intro @fa85_6 (And.intro @fa92_1 @fa92_4)) (And.intro (And.intro @fa92_5 @fa98_0) (And.intro @fa98_2 @bz66))) (And.intro (And.intro @al66 (And.intro @bz62 @bz52)) (And.intro (And.intro @al52 @bz74) (And.intro @al74 @fa66_0)))) (And.intro (And.intro (And.intro @fa66_1 (And.intro @fa66_10 @fa66_11)) (And.intro (And.intro @fa56_0 @fa52_0) (And.intro @fa52_1 @fa74_0))) (And.intro (And.intro (And.intro @fa74_1 @fa74_2) (And.intro @fa74_3 @fa74_4)) (And.intro (And.intro @fa74_5 @fa49_2) (And.intro @fa49_0 @fa49_1)))))))) := (And.intro (And.intro (And.intro (And.intro (And.intro (And.intro (And.intro @Try.underlying3 (And.intro @Try.underlying4 @Try.underlying5)) (And.intro (And.intro @Try.underlying9 @Try.underlying22) (And.intro @Try.underlying23 @Try.underlying25))) (And.intro (And.intro @Try.underlying26 (And.intro @Try.underlying30 @Try.underlying32)) (And.intro (And.intro @Try.underlying34 @Try.underlying35) (And.intro @Try.underlying39 @Try.underlying40)))) (And.intro (And.intro (And.intro @Try.underlying45 (And.intro @Try.underlying56 @Try.underlying62)) (And.intro (And.intro @Try.underlying66 @Try.underlying72) (And.intro @Try.underlying75 @Try.underlying77))) (And.intro (And.intro @Try.underlying83 (And.intro @Try.underlying85 @Try.underlying92)) (And.intro (And.intro @Try.underlying93 @Try.underlying94) (And.intro @Try.underlying98 @Try.underlying49))))) (And.intro (And.intro (And.intro (And.intro @Try.underlying52 (And.intro @Try.underlying54 @Try.underlying59)) (And.intro (And.intro @Try.underlying60 @Try.underlying64) (And.intro @Try.underlying69 @Try.underlying70))) (And.intro (And.intro @Try.underlying71 (And.intro @Try.underlying74 @Try.underlying101)) (And.intro (And.intro @Try.underlying103 @ts3) (And.intro @ts4 @ts5)))) (And.intro (And.intro (And.intro @ts9 (And.intro @ts22 @ts23)) (And.intro (And.intro @ts25 @ts26) (And.intro @ts30 @ts32))) (And.intro (And.intro (And.intro @ts34 @ts35) (And.intro @ts39 @ts40)) (And.intro (And.intro @ts45 @ts56) (And.intro @ts62 @ts66)))))) (And.intro (And.intro (And.intro (And.intro (And.intro @ts72 (And.intro @ts75 @ts77)) (And.intro (And.intro @ts83 @ts85) (And.intro @ts92 @ts93))) (And.intro (And.intro @ts94 (And.intro @ts98 @ts49)) (And.intro (And.intro @ts52 @ts54) (And.intro @ts59 @ts60)))) (And.intro (And.intro (And.intro @ts64 (And.intro @ts69 @ts70)) (And.intro (And.intro @ts71 @ts74) (And.intro @ts101 @ts103))) (And.intro (And.intro @tz3 (And.intro @tz4 @tz5)) (And.intro (And.intro @tz9 @tz22) (And.intro @tz23 @tz25))))) (And.intro (And.intro (And.intro (And.intro @tz26 (And.intro @tz30 @tz32)) (And.intro (And.intro @tz34 @tz35) (And.intro @tz39 @tz40))) (And.intro (And.intro @tz45 (And.intro @tz56 @tz62)) (And.intro (And.intro @tz66 @tz72) (And.intro @tz75 @tz77)))) (And.intro (And.intro (And.intro @tz83 (And.intro @tz85 @tz92)) (And.intro (And.intro @tz93 @tz94) (And.intro @tz98 @tz49))) (And.intro (And.intro (And.intro @tz52 @tz54) (And.intro @tz59 @tz60)) (And.intro (And.intro @tz64 @tz69) (And.intro @tz70 @tz71))))))) (And.intro (And.intro (And.intro (And.intro (And.intro (And.intro @tz74 (And.intro @tz101 @tz103)) (And.intro (And.intro @tb3 @tb4) (And.intro @tb5 @tb9))) (And.intro (And.intro @tb22 (And.intro @tb23 @tb25)) (And.intro (And.intro @tb26 @tb30) (And.intro @tb32 @tb34)))) (And.intro (And.intro (And.intro @tb35 (And.intro @tb39 @tb40)) (And.intro (And.intro @tb45 @tb56) (And.intro @tb62 @tb66))) (And.intro (And.intro @tb72 (And.intro @tb75 @tb77)) (And.intro (And.intro @tb83 @tb85) (And.intro @tb92 @tb93))))) (And.intro (And.intro (And.intro (And.intro @tb94 (And.intro @tb98 @tb49)) (And.intro (And.intro @tb52 @tb54) (And.intro @tb59 @tb60))) (And.intro (And.intro @tb64 (And.intro @tb69 @tb70)) (And.intro (And.intro @tb71 @tb74) (And.intro @tb101 @tb103)))) (And.intro (And.intro (And.intro @fr7 (And.intro @fr8 @fr9)) (And.intro (And.intro @fr10 @fr11) (And.intro @fr12 @fr13))) (And.intro (And.intro (And.intro @fr14 @fr23) (And.intro @fr24 @fr25)) (And.intro (And.intro @fr26 @fr6) (And.intro @fr15 @fr16)))))) (And.intro (And.intro (And.intro (And.intro (And.intro @fr17 (And.intro @fr18 @fr19)) (And.intro (And.intro @fr20 @fr21) (And.intro @fr22 @bz39))) (And.intro (And.intro @bz32 (And.intro @bz92 @al39)) (And.intro (And.intro @al32 @al92) (And.intro @al62 @bz85)))) (And.intro (And.intro (And.intro @fa32_0 (And.intro @fa32_5 @fa39_0)) (And.intro (And.intro @fa39_1 @fa39_2) (And.intro @fa62_0 @fa62_1))) (And.intro (And.intro @fa62_2 (And.intro @fa85_0 @fa85_1)) (And.intro (And.intro @fa85_2 @fa85_3) (And.intro @fa85_4 @fa85_5))))) (And.intro (And.intro (And.intro (And.intro @fa85_6 (And.intro @fa92_1 @fa92_4)) (And.intro (And.intro @fa92_5 @fa98_0) (And.intro @fa98_2 @bz66))) (And.intro (And.intro @al66 (And.intro @bz62 @bz52)) (And.intro (And.intro @al52 @bz74) (And.intro @al74 @fa66_0)))) (And.intro (And.intro (And.intro @fa66_1 (And.intro @fa66_10 @fa66_11)) (And.intro (And.intro @fa56_0 @fa52_0) (And.intro @fa52_1 @fa74_0))) (And.intro (And.intro (And.intro @fa74_1 @fa74_2) (And.intro @fa74_3 @fa74_4)) (And.intro (And.intro @fa74_5 @fa49_2) (And.intro @fa49_0 @fa49_1))))))))
/-- An order, as it is meant. -/
structure Act where
  kd : Int
  num : Int
  pr : Int
  nd : Int
  mem : Int
  e : Int
  q : Int
  s : List Int
abbrev actC (a : Act) (v : Value) : List Value := [.int .u8 a.kd, .int .u8 a.num, .int .u8 a.pr, .int .u8 a.nd, .int .u16 a.mem, .int .u16 a.e, .int .u16 a.q, v]
def actR (m : Mem) (a : Act) (c : List Value) : Prop := ∃ v, c = actC a v ∧ FRow m v 1 a.s.length (byteCells a.s)
structure Act.ok (a : Act) : Prop where
  kd : 0 ≤ a.kd ∧ a.kd < 256
  num : 0 ≤ a.num ∧ a.num < 256
  pr : 0 ≤ a.pr ∧ a.pr < 256
  nd : 0 ≤ a.nd ∧ a.nd < 256
  e : 0 ≤ a.e ∧ a.e < 65536
  q : 0 ≤ a.q ∧ a.q < 65536
theorem actR_size {m : Mem} (a : Act) (c : List Value) (h : actR m a c) : c.length = 8 := by
  obtain ⟨v, rfl, _⟩ := h
  rfl
theorem actR_pz {m m' : Mem} (z : Pz m m') (a : Act) (c : List Value) (h : actR m a c) : actR m' a c := by
  obtain ⟨v, rfl, h⟩ := h
  exact ⟨v, rfl, h.pz z⟩
theorem result_is {m : Mem} {k i : Nat} {C : Tc} (H : TcAt m k i C) (hl : C.nodes.length < 2 ^ 40) (hm : C.mem.length < 2 ^ 40) (hs : ∀ a ∈ C.ans, a.s.length < 2 ^ 46) {K : Value → Mem → Prop}
    (hK : ∀ m' w, Ext m m' → FRow m' w 1 (resC C).1.s.length (byteCells (resC C).1.s) → K (.tuple #[ansV (resC C).1.e (resC C).1.q w, .bool (resC C).2]) m') : Ret Try.prog 22 [.pointer (some ⟨i, 0, none⟩)] m K :=
  Ret.join (result_ret H hl hm hs fun m' w r x o hr => by
    obtain ⟨m2, z, f, n, k⟩ := o.frz
    exact ⟨m2, z, hK _ _ (x.frz z fun j hj => k j (by omega)) f⟩)
theorem bldL (f n e q : Int) (wa : Option Addr) (wl wz : Nat) (sa : Option Addr) (sl sz : Nat) : opBuild Try.prog 66 [(0, .int .u8 7), (1, .int .i64 f), (2, .int .i64 9), (10, .agg #[.int .u16 2, .int .u16 n]), (8, viewV 1 (.slice wa wl wz)), (11, ansV e q (.slice sa sl sz))] = some (ansLV f 9 1 (.slice wa wl wz) 2 n e q (.slice sa sl sz)) := by kernel_rfl
theorem plays_ret {m : Mem} {t : Int} {v : Value} {l : List Act} {cs : List Value} (ht : 0 ≤ t ∧ t < 256) (hv : FRow m v 8 l.length cs) (hR : RowsOf (actR m) l cs) (hok : ∀ a ∈ l, a.ok) : Ret Try.prog 6 [.int .u8 t, v] m fun v _ => v = .bool true := by
  refine ret_wp [(55, [1, 6])] Try.func6 rfl (by decide) (by kernel_rfl) ?_
  simp only [wk6, Nat.reduceBEq, wk1, wk3, forall_eq, Nat.reduceAdd, reduceIte, Nat.reduceEqDiff, reduceCtorEq, opLen, Int.reduceLT, Int.reduceEq, opConvert, opIndexAddr, opLoad, Nat.reduceLT, undef, Nat.reduceLeDiff, Array.toList, bin_geq26, bin_mapn, bin_pnn, bin_pne, veq_map, bldE, bldA, bldV, bld66, bld56, bld62, one_u16, no_ints, no_bytes, wk4, wk5, wk0, fxC22z]
  refine awake_ret fun m1 z1 => ?_
  replace hv := hv.pz z1
  replace hR := hR.mono (actR_pz z1)
  have lv := hv.len (P := Try.prog) Try.underlying69
  by_cases h100 : (100 : Int) < l.length
  · simp only [wk6, Nat.reduceBEq, wk1, wk3, forall_eq, Nat.reduceAdd, reduceIte, Nat.reduceEqDiff, reduceCtorEq, Int.reduceLT, Int.reduceEq, opConvert, opIndexAddr, opLoad, Nat.reduceLT, undef, Nat.reduceLeDiff, Array.toList, bin_geq26, bin_mapn, bin_pnn, bin_pne, veq_map, bldE, bldA, bldV, bld66, bld56, bld62, one_u16, no_ints, no_bytes, wk4, wk5, wk0, fxC22z, lv, h100]
  obtain ⟨tm, htm⟩ : ∃ tm, tm = 1 + t.tmod 20 := ⟨_, rfl⟩
  have tb : 0 ≤ t.tmod 20 ∧ t.tmod 20 < 20 := ⟨Int.tmod_nonneg _ ht.1, Int.tmod_lt_of_pos _ (by decide)⟩
  have w1 : IntKind.i64.wrap (t.tmod 20) = t.tmod 20 := wrap_i64 (by omega) (by omega)
  have w2 : IntKind.i64.wrap (1 + t.tmod 20) = tm := by rw [htm]; exact wrap_i64 (by omega) (by omega)
  have tmb : 0 < tm ∧ tm ≤ 20 := by omega
  simp only [wk6, Nat.reduceBEq, wk1, wk3, forall_eq, Nat.reduceAdd, reduceIte, Nat.reduceEqDiff, reduceCtorEq, Int.reduceLT, Int.reduceEq, opConvert, opIndexAddr, opLoad, Nat.reduceLT, undef, Nat.reduceLeDiff, Array.toList, bin_geq26, bin_mapn, bin_pnn, bin_pne, veq_map, bldE, bldA, bldV, bld66, bld56, bld62, one_u16, no_ints, no_bytes, wk4, wk5, wk0, fxC22z, lv, h100, w1, w2]
  refine face_ret fun m2 pv z2 fp => ?_
  have three : opBuildSlice Try.prog 25 3 [(0, .int .i64 0), (1, .int .i64 1), (2, .int .i64 4)] m2 = some (.slice (some ⟨m2.next, 0, none⟩) 3 1, m2.new (.cells [.int .i64 0, .int .i64 1, .int .i64 4] 3 true)) := by kernel_rfl
  simp only [wk6, Nat.reduceBEq, wk1, wk3, forall_eq, Nat.reduceAdd, reduceIte, Nat.reduceEqDiff, reduceCtorEq, opLen, Int.reduceLT, Int.reduceEq, opConvert, opIndexAddr, opLoad, Nat.reduceLT, undef, Nat.reduceLeDiff, Array.toList, bin_geq26, bin_mapn, bin_pnn, bin_pne, veq_map, bldE, bldA, bldV, bld66, bld56, bld62, one_u16, no_ints, no_bytes, wk4, wk5, wk0, fxC22z, three]
  have o2 : OwnI m2.next 3 1 (m2.new (.cells [.int .i64 0, .int .i64 1, .int .i64 4] 3 true)) (.slice (some ⟨m2.next, 0, none⟩) 3 1) 3 (ints gsv) := OwnI.made rfl
  obtain ⟨m3, z3, f3, n3, k3⟩ := o2.frz
  refine Ret.thaw z3 ?_
  have z23 := (Pz.new m2 (.cells [.int .i64 0, .int .i64 1, .int .i64 4] 3 true)).trans z3.pz
  refine gnew_is rfl (fp.pz z23) f3 fun m4 ow0 g ob rb r pv4 sv ov G4 z4 => ?_
  simp only [wk6, Nat.reduceBEq, wk1, wk3, forall_eq, Nat.reduceAdd, reduceIte, Nat.reduceEqDiff, reduceCtorEq, Int.reduceLT, Int.reduceEq, opConvert, opIndexAddr, opLoad, Nat.reduceLT, undef, Nat.reduceLeDiff, Array.toList, bin_geq26, bin_mapn, bin_pnn, bin_pne, veq_map, bldE, bldA, bldV, bld66, bld56, bld62, one_u16, no_ints, no_bytes, wk4, wk5, wk0, fxC22z]
  obtain ⟨b7, hb7⟩ : ∃ b, b = m4.next := ⟨_, rfl⟩
  obtain ⟨b8, hb8⟩ : ∃ b, b = m4.next + 1 := ⟨_, rfl⟩
  obtain ⟨b9, hb9⟩ : ∃ b, b = m4.next + 2 := ⟨_, rfl⟩
  obtain ⟨m5, hm5⟩ : ∃ m5, m5 = ((m4.new (.map [])).new (.map [])).new (.map []) := ⟨_, rfl⟩
  have x5 : Ext m4 m5 := by rw [hm5]; exact ((Ext.new _ _).trans (Ext.new _ _)).trans (Ext.new _ _)
  have n5 : m5.next = m4.next + 3 := by rw [hm5]; rfl
  have g7 : m5.get b7 = some (.map []) := by rw [hm5, hb7, new_get_ne _ (by simp only [new_next]; omega), new_get_ne _ (by simp only [new_next]; omega), new_get]
  have g8 : m5.get b8 = some (.map []) := by rw [hm5, hb8, new_get_ne _ (by simp only [new_next]; omega)]; exact new_get (m4.new _) _
  have g9 : m5.get b9 = some (.map []) := by rw [hm5, hb9]; exact new_get ((m4.new _).new _) _
  rw [← hm5, ← hb9, ← hb8, ← hb7]
  clear hm5
  obtain ⟨ow1, how1⟩ : ∃ w : Nat → Nat, w = fun j => if j = b7 then 14 else if j = b8 then 15 else if j = b9 then 16 else ow0 j := ⟨_, rfl⟩
  have a1 : ∀ j, j < m4.next → ow1 j = ow0 j := fun j hj => by rw [how1]; simp only [if_neg (show ¬ j = b7 by omega), if_neg (show ¬ j = b8 by omega), if_neg (show ¬ j = b9 by omega)]
  have t7 : ow1 b7 = 14 := by rw [how1]; simp
  have t8 : ow1 b8 = 15 := by rw [how1]; simp only [if_neg (show ¬ b8 = b7 by omega), if_true]
  have t9 : ow1 b9 = 16 := by rw [how1]; simp only [if_neg (show ¬ b9 = b7 by omega), if_neg (show ¬ b9 = b8 by omega), if_true]
  have G5 := G4.keep (ow' := ow1) x5.pz a1 fun j hj _ _ => x5.2 j hj
  have L5 : La m5 ow1 b7 b8 b9 0 (.slice none 0 0) ⟨0, [], [], []⟩ [] := ⟨⟨[], g7, trivial⟩, ⟨[], g8, trivial⟩, ⟨[], g9, trivial⟩, OwnI.nil, by omega, by omega, by omega, t7, t8, t9, fun h => absurd rfl h, (fun p hp => by cases hp), List.nodup_nil⟩
  have Y5 : Sy ⟨tm, [], [], []⟩ ⟨0, [], [], []⟩ := ⟨trivial, rfl, rfl⟩
  have Z5 : Sz 0 ⟨tm, [], [], []⟩ := ⟨(fun p hp => by cases hp), (fun p hp => by cases hp), (fun p hp => by cases hp), Nat.le_refl _⟩
  have z15 := ((z2.trans z23).trans z4).trans x5.pz
  replace hv := hv.pz z15
  replace hR := hR.mono (actR_pz z15)
  clear how1 G4 fp f3 o2 three z23 z2 z3 n3 k3 z15
  have lv := hv.len (P := Try.prog) Try.underlying69
  simp only [wk6, Nat.reduceBEq, wk1, wk3, forall_eq, Nat.reduceAdd, reduceIte, Nat.reduceEqDiff, reduceCtorEq, Int.reduceLT, Int.reduceEq, opConvert, opIndexAddr, opLoad, Nat.reduceLT, undef, Nat.reduceLeDiff, Array.toList, bin_geq26, bin_mapn, bin_pnn, bin_pne, veq_map, bldE, bldA, bldV, bld66, bld56, bld62, one_u16, no_ints, no_bytes, wk4, wk5, wk0, fxC22z, lv]
  refine loop_wp [(55, [1, 6])] (by kernel_rfl) (fun q env m' => ∃ (k : Nat) (ow : Nat → Nat) (S T : Sg) (tabs : List (Int × Nat)) (r r2 : Nat) (ov ov2 : Value), q + k = l.length ∧ env 53 = some (.int .i64 (k : Int)) ∧ env 52 = some (.int .i64 (l.length : Int)) ∧ env 51 = some v ∧ env 5 = some (.int .i64 tm) ∧ env 6 = some (.pointer (some ⟨g, 0, none⟩)) ∧ env 7 = some (.map (some b7)) ∧ env 8 = some (.map (some b8)) ∧ env 9 = some (.map (some b9)) ∧ env 10 = some ov2 ∧ Gu m' ow g ob rb r pv4 sv ov S ∧ La m' ow b7 b8 b9 r2 ov2 T tabs ∧ Sy S T ∧ Sz k S ∧ S.time = tm ∧ Pz m5 m') ?_ l.length
    ⟨0, ow1, ⟨tm, [], [], []⟩, ⟨0, [], [], []⟩, [], r, 0, ov, _, rfl, rfl, rfl, rfl, rfl, rfl, rfl, rfl, rfl, rfl, G5, L5, Y5, Z5, rfl, Pz.refl _⟩
  clear G5 L5 Y5 Z5 t7 t8 t9 a1 g7 g8 g9
  rintro q env m6 ⟨k, owR, S, T, tabs, r, r2, ov, ov2, hq, e53, e52, e51, e5, e6, e7, e8, e9, e10, G, L, Y, Z, hSt, z6⟩
  obtain ⟨ow, how⟩ : ∃ w : Nat → Nat, w = fun j => if j < m6.next then owR j else 0 := ⟨_, rfl⟩
  have aR : ∀ j, j < m6.next → ow j = owR j := fun j hj => by rw [how]; exact if_pos hj
  have ow0 : ∀ j, m6.next ≤ j → ow j = 0 := fun j hj => by rw [how]; exact if_neg (by omega)
  clear how
  replace G := G.keep (ow' := ow) (Pz.refl _) aR fun _ _ _ _ => rfl
  replace L := L.keep (ow' := ow) (Pz.refl _) aR fun _ _ _ => rfl
  simp only [wk6, Nat.reduceBEq, wk1, wk3, forall_eq, Nat.reduceAdd, reduceIte, Nat.reduceEqDiff, reduceCtorEq, opLen, Int.reduceLT, Int.reduceEq, opConvert, opIndexAddr, opLoad, Nat.reduceLT, undef, Nat.reduceLeDiff, Array.toList, bin_geq26, bin_mapn, bin_pnn, bin_pne, veq_map, bldE, bldA, bldV, bld66, bld56, bld62, one_u16, no_ints, no_bytes, wk4, wk5, wk0, fxC22z, e53, e52]
  refine cond_by (fun hlt => ?_) (fun hge => ?_)
  · have hkl : k < l.length := by omega
    obtain ⟨p, hp1, _, hp3⟩ := hv.at (P := Try.prog) (e := 74) Try.underlying69 ts74 (by simp only [aggOf, Try.underlying74]) hkl
    replace hp3 := hp3 m6 z6
    obtain ⟨av, hav, fav⟩ := hR.at actR_size hkl
    obtain ⟨a, ha⟩ : ∃ a, a = l[k] := ⟨_, rfl⟩
    rw [← ha] at hav fav
    rw [hav] at hp3
    obtain ⟨avA, avz, rfl⟩ := fav.is
    have ok := hok a (ha ▸ List.getElem_mem hkl)
    simp only [wk6, Nat.reduceBEq, wk1, wk3, forall_eq, Nat.reduceAdd, reduceIte, Nat.reduceEqDiff, reduceCtorEq, opLen, Int.reduceLT, Int.reduceEq, opConvert, Nat.reduceLT, undef, Nat.reduceLeDiff, Array.toList, bin_geq26, bin_mapn, bin_pnn, bin_pne, veq_map, bldE, bldA, bldV, bld66, bld56, bld62, one_u16, no_ints, no_bytes, wk4, wk5, wk0, fxC22z, hp1, hp3, e53, e52, e51, e5, e6, e7, e8, e9, e10]
    obtain ⟨b12, hb12⟩ : ∃ b, b = m6.next := ⟨_, rfl⟩
    obtain ⟨m7, hm7⟩ : ∃ m7, m7 = (m6.new (.cells [.int .u8 0, .int .u8 0, .int .u8 0, .int .u8 0, .int .u16 0, .int .u16 0, .int .u16 0, .slice none 0 0] 74 true)).set m6.next (.cells (actC a (.slice avA a.s.length avz)) 74 true) := ⟨_, rfl⟩
    have x7 : Ext m6 m7 := by rw [hm7]; exact (Ext.new _ _).set (Nat.le_refl _)
    have g12 : m7.get b12 = some (.cells (actC a (.slice avA a.s.length avz)) 74 true) := by rw [hm7, hb12]; exact set_get _ _ _
    have l12 : b12 < m7.next := by rw [hm7, hb12]; exact Nat.lt_succ_self _
    dsimp only [actC] at hm7
    rw [← hm7, ← hb12]
    clear hm7
    have ldA : ∀ {ty : TypeId} {f : Nat} {w : Value} (M : Mem), Ext m7 M → aggOf Try.prog ty = some false → (actC a (.slice avA a.s.length avz))[f]? = some w → opLoad Try.prog ty (.pointer (some ⟨b12, f, none⟩)) M = some w := fun M x h1 h2 => load_cell ((x.2 _ l12).trans g12) h1 h2
    have dS := ldA (ty := 23) (f := 7) m7 (Ext.refl _) (by simp only [aggOf, Try.underlying23]) rfl
    by_cases h50 : (50 : Int) < a.s.length
    · simp only [wk6, Nat.reduceBEq, wk1, wk3, forall_eq, Nat.reduceAdd, reduceIte, Nat.reduceEqDiff, reduceCtorEq, opLen, Int.reduceLT, Int.reduceEq, opConvert, Nat.reduceLT, undef, Nat.reduceLeDiff, Array.toList, bin_geq26, bin_mapn, bin_pnn, bin_pne, veq_map, bldE, bldA, bldV, bld66, bld56, bld62, one_u16, no_ints, no_bytes, wk4, wk5, wk0, fxC22z, dS, h50]
    obtain ⟨n, hn⟩ : ∃ n, n = a.num.tmod 6 := ⟨_, rfl⟩
    have n6 : 0 ≤ n ∧ n < 6 := by rw [hn]; exact ⟨Int.tmod_nonneg _ ok.num.1, Int.tmod_lt_of_pos _ (by decide)⟩
    have dN := ldA (ty := 5) (f := 1) m7 (Ext.refl _) (by simp only [aggOf, Try.underlying5]) rfl
    have wn : IntKind.u16.wrap n = n := by rw [u16_lo]; omega
    have L7 := L.ext x7
    have G7 := G.ext x7
    obtain ⟨rw0, frw, lrw⟩ := L7.result n
    obtain ⟨R, hRr⟩ : ∃ R, R = mget T.res n := ⟨_, rfl⟩
    rw [← hRr] at frw lrw
    obtain ⟨A, hA⟩ : ∃ A : Ans, A = R.getD ⟨0, 0, []⟩ := ⟨_, rfl⟩
    rw [← hA] at frw lrw
    obtain ⟨rwa, rwz, rfl⟩ := frw.is
    simp only [wk6, Nat.reduceBEq, wk1, wk3, forall_eq, Nat.reduceAdd, reduceIte, Nat.reduceEqDiff, reduceCtorEq, opLen, Int.reduceLT, Int.reduceEq, opConvert, Nat.reduceLT, undef, Nat.reduceLeDiff, Array.toList, bin_geq26, bin_mapn, bin_pnn, bin_pne, veq_map, bldE, bldA, bldV, bld66, bld56, bld62, one_u16, no_ints, no_bytes, wk4, wk5, wk0, fxC22z, dS, h50, dN, ← hn, wn, lrw, e53, e52, e51, e5, e6, e7, e8, e9, e10]
    obtain ⟨m8, hm8⟩ : ∃ m8, m8 = (m7.new (.cells [.int .i64 0, .int .i64 0, .slice none 0 0] 39 true)).set m7.next (.cells [.int .i64 A.e, .int .i64 A.q, .slice rwa A.s.length rwz] 39 true) := ⟨_, rfl⟩
    have x8 : Ext m7 m8 := by rw [hm8]; exact (Ext.new _ _).set (Nat.le_refl _)
    rw [← hm8]
    clear hm8
    have L8 := L7.ext x8
    have G8 := G7.ext x8
    have z8 := z6.trans (x7.trans x8).pz
    have hk100 : k < 100 := by omega
    have dK := ldA (ty := 5) (f := 0) m8 x8 (by simp only [aggOf, Try.underlying5]) rfl
    simp only [wk6, Nat.reduceBEq, wk1, wk3, forall_eq, Nat.reduceAdd, reduceIte, Nat.reduceEqDiff, reduceCtorEq, opLen, Int.reduceLT, Int.reduceEq, opConvert, Nat.reduceLT, undef, Nat.reduceLeDiff, Array.toList, bin_geq26, bin_mapn, bin_pnn, bin_pne, veq_map, bldE, bldA, bldV, bld66, bld56, bld62, one_u16, no_ints, no_bytes, wk4, wk5, wk0, fxC22z, dK, e53, e52, e51, e5, e6, e7, e8, e9, e10]
    refine cond_cut (fun e M => ∃ (ow : Nat → Nat) (S T : Sg) (tabs : List (Int × Nat)) (r r2 : Nat) (ov ov2 : Value), e 53 = some (.int .i64 (k : Int)) ∧ e 52 = some (.int .i64 (l.length : Int)) ∧ e 51 = some v ∧ e 5 = some (.int .i64 tm) ∧ e 6 = some (.pointer (some ⟨g, 0, none⟩)) ∧ e 7 = some (.map (some b7)) ∧ e 8 = some (.map (some b8)) ∧ e 9 = some (.map (some b9)) ∧ e 10 = some ov2 ∧ Gu M ow g ob rb r pv4 sv ov S ∧ La M ow b7 b8 b9 r2 ov2 T tabs ∧ Sy S T ∧ Sz (k + 1) S ∧ S.time = tm ∧ Pz m5 M) ?_ ?_
    · have c1 : aggOf Try.prog 23 = some false := by simp only [aggOf, Try.underlying23]
      have dB := fun M x => ldA (ty := 23) (f := 7) M x c1 rfl
      have wfT : ∀ q, mget T.opn n = some q → 0 < q.left ∧ q.left ≤ 20 := fun q hq => by
        rcases Y.get n with ⟨_, h⟩ | ⟨p, q', h1, h2, h3, _⟩
        · rw [h] at hq; cases hq
        · rw [hq] at h2
          have := Z.wf _ (mget_mem h1)
          have h4 : 0 < p.left ∧ p.left ≤ 20 := this
          rw [Option.some.inj h2]; omega
      have lfl := L8.left n
      have n00 : decide ((0 : Int) < ((0 : Nat) : Int)) = false := by decide
      refine cond_by (fun k0 => ?_) (fun k0 => ?_)
      · obtain ⟨pc, hpc⟩ : ∃ pc, pc = a.pr.tmod 4 := ⟨_, rfl⟩
        have pcb : 0 ≤ pc ∧ pc < 4 := by rw [hpc]; exact ⟨Int.tmod_nonneg _ ok.pr.1, Int.tmod_lt_of_pos _ (by decide)⟩
        have wp : IntKind.i64.wrap pc = pc := wrap_i64 (by omega) (by omega)
        have dP := ldA (ty := 5) (f := 2) m8 x8 (by simp only [aggOf, Try.underlying5]) rfl
        have dB8 := dB m8 x8
        simp only [wk6, Nat.reduceBEq, wk1, wk3, forall_eq, Nat.reduceAdd, reduceIte, Nat.reduceEqDiff, reduceCtorEq, opLen, Int.reduceLT, Int.reduceEq, opConvert, Nat.reduceLT, undef, Nat.reduceLeDiff, Array.toList, bin_geq26, bin_mapn, bin_pnn, bin_pne, veq_map, bldE, bldA, bldV, bld66, bld56, bld62, one_u16, no_ints, no_bytes, wk4, wk5, wk0, fxC22z, dP, ← hpc, wp, dB8, e53, e52, e51, e5, e6, e7, e8, e9, e10]
        cases hR0 : R with
        | some aR =>
          refine gcall_res G8 (a := aR) (by rw [Y.r, ← hRr, hR0]) fun m9 x9 => ?_
          have L9 := L8.ext x9
          have lf9 := L9.left n
          have rs : (some aR).isSome = true := rfl
          cases hTo : mget T.opn n with
          | none =>
            rw [hTo] at lf9
            simp only [wk6, Nat.reduceBEq, wk1, wk3, forall_eq, Nat.reduceAdd, reduceIte, Nat.reduceEqDiff, reduceCtorEq, opLen, Int.reduceLT, Int.reduceEq, opConvert, opIndexAddr, opLoad, Nat.reduceLT, undef, Nat.reduceLeDiff, Array.toList, bin_geq26, bin_mapn, bin_pnn, bin_pne, veq_map, bldE, bldA, bldV, bld66, bld56, bld62, one_u16, no_ints, no_bytes, wk4, wk5, wk0, fxC22z, n00, lf9, rs, e53, e52, e51, e5, e6, e7, e8, e9, e10]
            exact ⟨ow, S, T, tabs, r, r2, ov, G8.ext x9, L9, Y, Z.up, hSt, z8.trans x9.pz⟩
          | some q' =>
            have hq' := wfT q' hTo
            have d0 : decide ((0 : Int) < q'.left) = true := decide_eq_true hq'.1
            rw [hTo] at lf9
            simp only [wk6, Nat.reduceBEq, wk1, wk3, forall_eq, Nat.reduceAdd, reduceIte, Nat.reduceEqDiff, reduceCtorEq, opLen, Int.reduceLT, Int.reduceEq, opConvert, opIndexAddr, opLoad, Nat.reduceLT, undef, Nat.reduceLeDiff, Array.toList, bin_geq26, bin_mapn, bin_pnn, bin_pne, veq_map, bldE, bldA, bldV, bld66, bld56, bld62, one_u16, no_ints, no_bytes, wk4, wk5, wk0, fxC22z, n00, lf9, d0, rs, e53, e52, e51, e5, e6, e7, e8, e9, e10]
            exact ⟨ow, S, T, tabs, r, r2, ov, G8.ext x9, L9, Y, Z.up, hSt, z8.trans x9.pz⟩
        | none =>
          have hTr : mget T.res n = none := by rw [← hRr, hR0]
          have hSr : mget S.res n = none := by rw [Y.r, hTr]
          rcases Y.get n with ⟨hSo, hTo⟩ | ⟨p, q', hSo, hTo, hpl, hpC⟩
          · by_cases hp0 : pc = 0
            · rw [hp0]
              refine gcall_none G8 hSr hSo fun m9 x9 => ?_
              have L9 := L8.ext x9
              have lf9 := L9.left n
              have rs : (none : Option Ans).isSome = false := rfl
              rw [hTo] at lf9
              simp only [wk6, Nat.reduceBEq, wk1, wk3, forall_eq, Nat.reduceAdd, reduceIte, Nat.reduceEqDiff, reduceCtorEq, opLen, Int.reduceLT, Int.reduceEq, opConvert, opIndexAddr, opLoad, Nat.reduceLT, undef, Nat.reduceLeDiff, Array.toList, bin_geq26, bin_mapn, bin_pnn, bin_pne, veq_map, bldE, bldA, bldV, bld66, bld56, bld62, one_u16, no_ints, no_bytes, wk4, wk5, wk0, fxC22z, n00, lf9, rs, e53, e52, e51, e5, e6, e7, e8, e9, e10]
              exact ⟨ow, S, T, tabs, r, r2, ov, G8.ext x9, L9, Y, Z.up, hSt, z8.trans x9.pz⟩
            · obtain ⟨pk, hpk⟩ : ∃ pk : Nat, pc = (pk : Int) + 1 := ⟨(pc - 1).toNat, by omega⟩
              have pk3 : pk < 3 := by omega
              have hod := Z.od
              refine gcall_is G8 hSr hSo n6 hpk pk3 (fav.pz (z6.trans (x7.trans x8).pz)) (by omega) (by omega) fun m9 ow9 r9 ov9 w rr pb tb aa az G9 z9 ag9 fr9 o9 hrr t9 f9 => ?_
              have L9 := L8.keep (ow' := ow9) z9 ag9 fun j hj h => fr9 j hj (by omega)
              have lf9 := L9.left n
              have rs : (none : Option Ans).isSome = false := rfl
              rw [hTo] at lf9
              have dp0 : decide (pc = 0) = false := decide_eq_false hp0
              have wpk : IntKind.i64.wrap (pc - 1) = (pk : Int) := by rw [wrap_i64 (by omega) (by omega)]; omega
              have wp8 : IntKind.u8.wrap (pk : Int) = (pk : Int) := by rw [u8_lo]; omega
              obtain ⟨wa, wz, rfl⟩ := o9.is
              simp only [wk6, Nat.reduceBEq, wk1, wk3, forall_eq, Nat.reduceAdd, reduceIte, Nat.reduceEqDiff, reduceCtorEq, opLen, Int.reduceLT, Int.reduceEq, opConvert, opIndexAddr, opLoad, Nat.reduceLT, undef, Nat.reduceLeDiff, Array.toList, bin_geq26, bin_mapn, bin_pnn, bin_pne, veq_map, bldE, bldA, bldV, bld66, bld56, bld62, one_u16, no_ints, no_bytes, wk4, wk5, wk0, fxC22z, n00, lf9, rs, dp0, wpk, wp8, e53, e52, e51, e5, e6, e7, e8, e9, e10]
              refine cnew_ret fun m10 T10 x10 => ?_
              obtain ⟨tb2, htb2⟩ : ∃ b, b = m9.next := ⟨_, rfl⟩
              obtain ⟨m11, m12, u1, u2, L12, z12, n12, f12⟩ := L9.open (left := tm) n6 x10 T10
              rw [← htb2] at u2 L12 ⊢
              obtain ⟨ow12, how12⟩ : ∃ w, w = tagr ow9 m9 m10 (20 + n.toNat) := ⟨_, rfl⟩
              have a12 : ∀ j, j < m9.next → ow12 j = ow9 j := fun j hj => by rw [how12]; exact tagr_old ow9 _ hj
              rw [← how12] at L12
              have G12 := G9.keep (ow' := ow12) z12 a12 fun j hj h1 h2 => f12 j hj (by omega) (by omega)
              have hTod : T.order.length < 1000 := by rw [← Y.d]; omega
              obtain ⟨oa2, oq2, m13, r13, p13, L13, z13, f13⟩ := L12.push n hTod
              obtain ⟨ow13, how13⟩ : ∃ w, w = tagr ow12 m12 m13 17 := ⟨_, rfl⟩
              have a13 : ∀ j, j < m12.next → ow13 j = ow12 j := fun j hj => by rw [how13]; exact tagr_old ow12 _ hj
              rw [← how13] at L13
              have G13 := G12.keep (ow' := ow13) z13 a13 fun j hj h1 h2 => f13 j hj (by omega)
              have three : opBuildSlice Try.prog 25 3 [(0, .int .i64 0), (1, .int .i64 1), (2, .int .i64 4)] m13 = some (.slice (some ⟨m13.next, 0, none⟩) 3 1, m13.new (.cells [.int .i64 0, .int .i64 1, .int .i64 4] 3 true)) := by kernel_rfl
              simp only [wk6, Nat.reduceBEq, wk1, wk3, forall_eq, Nat.reduceAdd, reduceIte, Nat.reduceEqDiff, reduceCtorEq, opLen, Int.reduceLT, Int.reduceEq, opConvert, opIndexAddr, opLoad, Nat.reduceLT, undef, Nat.reduceLeDiff, Array.toList, bin_geq26, bin_mapn, bin_pnn, bin_pne, veq_map, bldE, bldA, bldV, bld66, bld56, bld62, one_u16, no_ints, no_bytes, wk4, wk5, wk0, fxC22z, u1, u2, one_u16, p13, three, e53, e52, e51, e5, e6, e7, e8, e9, e10]
              have x14 := Ext.new m13 (.cells [.int .i64 0, .int .i64 1, .int .i64 4] 3 true)
              have w14 : OwnI m13.next 3 1 (m13.new (.cells [.int .i64 0, .int .i64 1, .int .i64 4] 3 true)) (.slice (some ⟨m13.next, 0, none⟩) 3 1) 3 (ints gsv) := OwnI.made rfl
              obtain ⟨b166, hb166⟩ : ∃ b, b = m13.next := ⟨_, rfl⟩
              generalize m13.new (.cells [.int .i64 0, .int .i64 1, .int .i64 4] 3 true) = m14 at x14 w14 ⊢
              rw [← hb166] at w14 ⊢
              have xn7 := x7.1
              have xn8 := x8.1
              have zn9 := z9.1
              have zn12 := z12.1
              have zn13 := z13.1
              have trr : ow9 rr = 0 := t9.trans (ow0 rr (by omega))
              have t12b : ow b12 = 0 := ow0 b12 (by omega)
              have fr14 : ∀ j, j < m9.next → ow9 j = 0 → m14.get j = m9.get j := fun j hj h => by rw [x14.2 j (by omega), f13 j (by omega) (by rw [a12 j hj, h]; decide), f12 j hj (by rw [h]; decide) (by rw [h]; decide)]
              have g12x : m14.get b12 = some (.cells (actC a (.slice avA a.s.length avz)) 74 true) := by rw [fr14 b12 (by omega) ((ag9 b12 (by omega)).trans t12b), fr9 b12 (by omega) (by rw [t12b]; decide), x8.2 b12 l12, g12]
              have l12x : b12 < m14.next := by have := x14.1; omega
              have wr : OwnI rr 66 26 m14 (.slice wa 3 wz) 3 (lets n pc aa a.s.length az) := o9.keep (by have := x14.1; omega) fun h => fr14 rr h trr
              have G14 := G13.ext x14
              have L14 := L13.ext x14
              have z914 : Pz m9 m14 := (z12.trans z13).trans x14.pz
              have z14 := (z8.trans z9).trans z914
              have f1 := f9.pz z914
              have f2 := fav.pz ((z6.trans (x7.trans x8).pz).trans (z9.trans z914))
              refine loop_wp [] (by kernel_rfl) (fun q2 env M => ∃ j : Nat, q2 + j = 3 ∧ env 168 = some (.int .i64 (j : Int)) ∧ env 167 = some (.int .i64 3) ∧ env 166 = some (.slice (some ⟨b166, 0, none⟩) 3 1) ∧ env 17 = some (.slice wa 3 wz) ∧ env 13 = some (.int .u16 n) ∧ env 16 = some (.int .i64 pc) ∧ env 12 = some (.pointer (some ⟨b12, 0, none⟩)) ∧ env 53 = some (.int .i64 (k : Int)) ∧ env 52 = some (.int .i64 (l.length : Int)) ∧ env 51 = some v ∧ env 5 = some (.int .i64 tm) ∧ env 6 = some (.pointer (some ⟨g, 0, none⟩)) ∧ env 7 = some (.map (some b7)) ∧ env 8 = some (.map (some b8)) ∧ env 9 = some (.map (some b9)) ∧ env 10 = some (.slice oa2 (T.order.length + 1) oq2) ∧ Ext m14 M) ?_ 3
                ⟨0, rfl, rfl, rfl, rfl, rfl, rfl, rfl, rfl, by simp only [e53, put_get]; rfl, by simp only [e52, put_get]; rfl, by simp only [e51, put_get]; rfl, by simp only [e5, put_get]; rfl, by simp only [e6, put_get]; rfl, by simp only [e7, put_get]; rfl, by simp only [e8, put_get]; rfl, by simp only [e9, put_get]; rfl, rfl, Ext.refl _⟩
              clear e53 e52 e51 e5 e6 e7 e8 e9 e10
              rintro q2 env M ⟨j, hq2, e168, e167, e166, e17, e13, e16, e12, e53, e52, e51, e5, e6, e7, e8, e9, e10, xM⟩
              simp only [wk6, Nat.reduceBEq, wk1, wk3, forall_eq, Nat.reduceAdd, reduceIte, Nat.reduceEqDiff, reduceCtorEq, opLen, Int.reduceLT, Int.reduceEq, opConvert, opIndexAddr, opLoad, Nat.reduceLT, undef, Nat.reduceLeDiff, Array.toList, bin_geq26, bin_mapn, bin_pnn, bin_pne, veq_map, bldE, bldA, bldV, bld66, bld56, bld62, one_u16, no_ints, no_bytes, wk4, wk5, wk0, fxC22z, e168, e167]
              refine cond_by (fun hj => ?_) (fun hj => ?_)
              · have hj3 : j < 3 := by omega
                have ix := w14.index (P := Try.prog) (t := 25) Try.underlying25 ts3 (j := (j : Int)) rfl hj3
                rw [Nat.mul_one] at ix
                obtain ⟨to, hto⟩ : ∃ to, to = gsv[j] := ⟨_, rfl⟩
                have hcs : (ints gsv)[j]? = some (.int .i64 to) := by
                  rw [hto]
                  obtain rfl | rfl | rfl : j = 0 ∨ j = 1 ∨ j = 2 := by omega
                  all_goals rfl
                have ld : opLoad Try.prog 3 (.pointer (some ⟨b166, j, none⟩)) M = some (.int .i64 to) := load_cell ((xM.2 _ (w14.row (by decide)).1).trans (w14.row (by decide)).2.2) (by simp only [aggOf, Try.underlying3]) hcs
                have ixw := wr.index (P := Try.prog) (t := 34) Try.underlying34 ts66 (j := (j : Int)) rfl hj3
                have ldw := (wr.ext xM).load (P := Try.prog) ts66 (by simp only [aggOf, Try.underlying66]) hj3
                have eL : ((lets n pc aa a.s.length az).drop (j * 26)).take 26 = letC 9 to 2 n pc aa a.s.length az := by
                  rw [hto]
                  obtain rfl | rfl | rfl : j = 0 ∨ j = 1 ∨ j = 2 := by omega
                  all_goals rfl
                rw [eL] at ldw
                have dBx : opLoad Try.prog 23 (.pointer (some ⟨b12, 7, none⟩)) M = some (.slice avA a.s.length avz) := load_cell ((xM.2 _ l12x).trans g12x) c1 rfl
                have lw3 : opLen Try.prog (some 34) (.slice wa 3 wz) = some (.int .i64 3) := by simp only [opLen, Try.underlying34]; rfl
                simp only [wk6, Nat.reduceBEq, wk1, wk3, forall_eq, Nat.reduceAdd, reduceIte, Nat.reduceEqDiff, reduceCtorEq, Int.reduceLT, Int.reduceEq, opConvert, Nat.reduceLT, undef, Nat.reduceLeDiff, Array.toList, bin_geq26, bin_mapn, bin_pnn, bin_pne, veq_map, bldE, bldA, bldV, bld66, bld56, bld62, one_u16, no_ints, no_bytes, wk4, wk5, wk0, fxC22z, ix, ld, ixw, ldw, dBx, lw3, bld56, bld62, bld66, e168, e167, e166, e17, e13, e16, e12, e53, e52, e51, e5, e6, e7, e8, e9, e10]
                refine lsame_ret (f1.pz xM.pz) (f2.pz xM.pz) fun M2 x2 => ?_
                simp only [wk6, Nat.reduceBEq, wk1, wk3, forall_eq, Nat.reduceAdd, reduceIte, Nat.reduceEqDiff, reduceCtorEq, opLen, Int.reduceLT, Int.reduceEq, opConvert, opIndexAddr, opLoad, Nat.reduceLT, undef, Nat.reduceLeDiff, Array.toList, bin_geq26, bin_mapn, bin_pnn, bin_pne, veq_map, bldE, bldA, bldV, bld66, bld56, bld62, one_u16, no_ints, no_bytes, wk4, wk5, wk0, fxC22z, e168, e167, e166, e17, e13, e16, e12, e53, e52, e51, e5, e6, e7, e8, e9, e10]
                exact ⟨q2 - 1, by omega, j + 1, by omega, by rw [wrap_i64 (by omega) (by omega)]; rfl, xM.trans x2⟩
              · simp only [wk6, Nat.reduceBEq, wk1, wk3, forall_eq, Nat.reduceAdd, reduceIte, Nat.reduceEqDiff, reduceCtorEq, opLen, Int.reduceLT, Int.reduceEq, opConvert, opIndexAddr, opLoad, Nat.reduceLT, undef, Nat.reduceLeDiff, Array.toList, bin_geq26, bin_mapn, bin_pnn, bin_pne, veq_map, bldE, bldA, bldV, bld66, bld56, bld62, one_u16, no_ints, no_bytes, wk4, wk5, wk0, fxC22z, e168, e167, e53, e52, e51, e5, e6, e7, e8, e9, e10]
                exact ⟨ow13, { S with opn := mput S.opn n ⟨pb, tb, S.time, ⟨pk, 0, [], [], []⟩, pc, a.s⟩, order := S.order ++ [n] }, { T with opn := mput T.opn n ⟨0, tb2, tm, ⟨pk, 0, [], [], []⟩, 0, []⟩, order := T.order ++ [n] }, _, _, _, _, G14.ext xM, L14.ext xM, ⟨Y.o.put ⟨hSt, rfl⟩, Y.r, by show S.order ++ [n] = T.order ++ [n]; rw [Y.d]⟩, Z.new (by rw [hSt]; exact tmb) ⟨Nat.zero_le _, Nat.zero_le _, fun a ha => by cases ha⟩, hSt, z14.trans xM.pz⟩
          · refine gcall_twice G8.gat hSr (p := (p.b, p.left)) (by show mget S.old.opn n = _; rw [Sg.old, mget_old, hSo]; rfl) fun m9 x9 => ?_
            have L9 := L8.ext x9
            have lf9 := L9.left n
            have hq' := wfT q' hTo
            have d0 : decide ((0 : Int) < q'.left) = true := decide_eq_true hq'.1
            have rs : (none : Option Ans).isSome = false := rfl
            rw [hTo] at lf9
            simp only [wk6, Nat.reduceBEq, wk1, wk3, forall_eq, Nat.reduceAdd, reduceIte, Nat.reduceEqDiff, reduceCtorEq, opLen, Int.reduceLT, Int.reduceEq, opConvert, opIndexAddr, opLoad, Nat.reduceLT, undef, Nat.reduceLeDiff, Array.toList, bin_geq26, bin_mapn, bin_pnn, bin_pne, veq_map, bldE, bldA, bldV, bld66, bld56, bld62, one_u16, no_ints, no_bytes, wk4, wk5, wk0, fxC22z, n00, lf9, d0, rs, e53, e52, e51, e5, e6, e7, e8, e9, e10]
            exact ⟨ow, S, T, tabs, r, r2, ov, G8.ext x9, L9, Y, Z.up, hSt, z8.trans x9.pz⟩
      · simp only [wk6, Nat.reduceBEq, wk1, wk3, forall_eq, Nat.reduceAdd, reduceIte, Nat.reduceEqDiff, reduceCtorEq, opLen, Int.reduceLT, Int.reduceEq, opConvert, Nat.reduceLT, undef, Nat.reduceLeDiff, Array.toList, bin_geq26, bin_mapn, bin_pnn, bin_pne, veq_map, bldE, bldA, bldV, bld66, bld56, bld62, one_u16, no_ints, no_bytes, wk4, wk5, wk0, fxC22z, e53, e52, e51, e5, e6, e7, e8, e9, e10]
        refine cond_by (fun k1 => ?_) (fun k1 => ?_)
        · have c22 : aggOf Try.prog 22 = some false := by simp only [aggOf, Try.underlying22]
          have c5 : aggOf Try.prog 5 = some false := by simp only [aggOf, Try.underlying5]
          have dM := ldA (ty := 22) (f := 4) m8 x8 c22 rfl
          simp only [wk6, Nat.reduceBEq, wk1, wk3, forall_eq, Nat.reduceAdd, reduceIte, Nat.reduceEqDiff, reduceCtorEq, opLen, Int.reduceLT, Int.reduceEq, opConvert, Nat.reduceLT, undef, Nat.reduceLeDiff, Array.toList, bin_geq26, bin_mapn, bin_pnn, bin_pne, veq_map, bldE, bldA, bldV, bld66, bld56, bld62, one_u16, no_ints, no_bytes, wk4, wk5, wk0, fxC22z, dM, e53, e52, e51, e5, e6, e7, e8, e9, e10]
          refine memf_ret fun m9 w x9 fw => ?_
          obtain ⟨ml, hml⟩ : ∃ ml, ml = memL (bits .and .u16 a.mem 31) := ⟨_, rfl⟩
          rw [← hml] at fw
          have hvc : viewCk 1 ml = 0 := by rw [hml]; exact memL_ok _ _ (by decide)
          obtain ⟨wa, wz, rfl⟩ := fw.is
          simp only [wk6, Nat.reduceBEq, wk1, wk3, forall_eq, Nat.reduceAdd, reduceIte, Nat.reduceEqDiff, reduceCtorEq, opLen, Int.reduceLT, Int.reduceEq, opConvert, Nat.reduceLT, undef, Nat.reduceLeDiff, Array.toList, bin_geq26, bin_mapn, bin_pnn, bin_pne, veq_map, bldE, bldA, bldV, bld66, bld56, bld62, one_u16, no_ints, no_bytes, wk4, wk5, wk0, fxC22z, e53, e52, e51, e5, e6, e7, e8, e9, e10]
          obtain ⟨b22, hb22⟩ : ∃ b, b = m9.next := ⟨_, rfl⟩
          obtain ⟨m10, hm10⟩ : ∃ m10, m10 = (m9.new (.cells [.int .i64 0, .slice none 0 0] 52 true)).set m9.next (.cells [.int .i64 1, .slice wa ml.length wz] 52 true) := ⟨_, rfl⟩
          have x10 : Ext m9 m10 := by rw [hm10]; exact (Ext.new _ _).set (Nat.le_refl _)
          have g22 : m10.get b22 = some (.cells [.int .i64 1, .slice wa ml.length wz] 52 true) := by rw [hm10, hb22]; exact set_get _ _ _
          have l22 : b22 < m10.next := by rw [hm10, hb22]; exact Nat.lt_succ_self _
          rw [← hm10, ← hb22]
          clear hm10
          obtain ⟨fn, hfn⟩ : ∃ fn, fn = a.nd.tmod 6 := ⟨_, rfl⟩
          have fnb : 0 ≤ fn ∧ fn < 6 := by rw [hfn]; exact ⟨Int.tmod_nonneg _ ok.nd.1, Int.tmod_lt_of_pos _ (by decide)⟩
          have wfn : IntKind.i64.wrap fn = fn := wrap_i64 (by omega) (by omega)
          have x710 := x8.trans (x9.trans x10)
          have dD := ldA (ty := 5) (f := 3) m10 x710 c5 rfl
          have lv22 : ∀ M, Ext m10 M → opLoad Try.prog 52 (.pointer (some ⟨b22, 0, none⟩)) M = some (viewV 1 (.slice wa ml.length wz)) := fun M x => load_agg (P := Try.prog) (t := 52) (sz := 2) (off := 0) ((x.2 _ l22).trans g22) (by simp only [aggOf, Try.underlying52]) ts52 (by simp)
          have lv10 := lv22 m10 (Ext.refl _)
          have dR : opLoad Try.prog 49 (.pointer (some ⟨b12, 5, none⟩)) m10 = some (repV a.e a.q (.slice avA a.s.length avz)) := load_agg (P := Try.prog) (t := 49) (sz := 3) (off := 5) ((x710.2 _ l12).trans g12) (by simp only [aggOf, Try.underlying49]) ts49 (by simp)
          refine Loose.by (fun y => y = b12 ∨ y = b22) ?_
          simp only [wk6, Nat.reduceBEq, wk1, wk3, forall_eq, Nat.reduceAdd, reduceIte, Nat.reduceEqDiff, reduceCtorEq, opLen, Int.reduceLT, Int.reduceEq, opConvert, Nat.reduceLT, undef, Nat.reduceLeDiff, Array.toList, bin_geq26, bin_mapn, bin_pnn, bin_pne, veq_map, bldE, bldA, bldV, bld66, bld56, bld62, one_u16, no_ints, no_bytes, wk4, wk5, wk0, fxC22z, dD, ← hfn, wfn, lv10, dR, bld56, vqVi, true_or, or_true, e53, e52, e51, e5, e6, e7, e8, e9, e10]
          refine answer_ret ok.e ok.q ⟨_, _, rfl⟩ fun m11 x11 => ?_
          have q12 : m11.get b12 = m10.get b12 := x11.2 _ (Nat.lt_of_lt_of_le l12 x710.1)
          have q22 : m11.get b22 = m10.get b22 := x11.2 _ l22
          have l12b := Nat.lt_of_lt_of_le l12 x710.1
          have ne12 : ¬ b12 = m11.next := by have := x11.1; omega
          have ne22 : ¬ b22 = m11.next := by have := x11.1; omega
          simp only [wk6, Nat.reduceBEq, wk1, wk3, forall_eq, Nat.reduceAdd, reduceIte, Nat.reduceEqDiff, reduceCtorEq, opLen, Int.reduceLT, Int.reduceEq, opConvert, Nat.reduceLT, undef, Nat.reduceLeDiff, Array.toList, bin_geq26, bin_mapn, bin_pnn, bin_pne, veq_map, bldE, bldA, bldV, bld66, bld56, bld62, one_u16, no_ints, no_bytes, wk4, wk5, wk0, fxC22z, bldL, q12, q22, ne12, ne22, e53, e52, e51, e5, e6, e7, e8, e9, e10]
          obtain ⟨b23, hb23⟩ : ∃ b, b = m11.next := ⟨_, rfl⟩
          obtain ⟨m12, hm12⟩ : ∃ m12, m12 = (m11.new (.cells zL 66 true)).set m11.next (.cells (ansL fn 9 1 (.slice wa ml.length wz) 2 n a.e a.q (.slice avA a.s.length avz)) 66 true) := ⟨_, rfl⟩
          have x12 : Ext m11 m12 := by rw [hm12]; exact (Ext.new _ _).set (Nat.le_refl _)
          have g23 : m12.get b23 = some (.cells (ansL fn 9 1 (.slice wa ml.length wz) 2 n a.e a.q (.slice avA a.s.length avz)) 66 true) := by rw [hm12, hb23]; exact set_get _ _ _
          have l23 : b23 < m12.next := by rw [hm12, hb23]; exact Nat.lt_succ_self _
          have hb23' : m11.next ≤ b23 := by omega
          dsimp only [zL, ansL] at hm12
          rw [← hm12, ← hb23]
          clear hm12
          have x712 := x710.trans (x11.trans x12)
          have dD2 := ldA (ty := 5) (f := 3) m12 x712 c5 rfl
          simp only [wk6, Nat.reduceBEq, wk1, wk3, forall_eq, Nat.reduceAdd, reduceIte, Nat.reduceEqDiff, reduceCtorEq, opLen, Int.reduceLT, Int.reduceEq, opConvert, Nat.reduceLT, undef, Nat.reduceLeDiff, Array.toList, bin_geq26, bin_mapn, bin_pnn, bin_pne, veq_map, bldE, bldA, bldV, bld66, bld56, bld62, one_u16, no_ints, no_bytes, wk4, wk5, wk0, fxC22z, dD2, e53, e52, e51, e5, e6, e7, e8, e9, e10]
          refine cond_cut (fun e M => ∃ tr : Int, (tr = 2 ∨ tr = 3) ∧ e 53 = some (.int .i64 (k : Int)) ∧ e 52 = some (.int .i64 (l.length : Int)) ∧ e 51 = some v ∧ e 5 = some (.int .i64 tm) ∧ e 6 = some (.pointer (some ⟨g, 0, none⟩)) ∧ e 7 = some (.map (some b7)) ∧ e 8 = some (.map (some b8)) ∧ e 9 = some (.map (some b9)) ∧ e 10 = some ov2 ∧ e 13 = some (.int .u16 n) ∧ e 22 = some (.pointer (some ⟨b22, 0, none⟩)) ∧ e 23 = some (.pointer (some ⟨b23, 0, none⟩)) ∧ Ext m11 M ∧ b23 < M.next ∧ M.get b23 = some (.cells (ansL fn 9 1 (.slice wa ml.length wz) tr n a.e a.q (.slice avA a.s.length avz)) 66 true)) ?_ ?_
          · refine cond_by (fun h200 => ?_) (fun h200 => ?_)
            · have st3 : opStore Try.prog 22 (.pointer (some ⟨b23, 21, none⟩)) (.int .u16 3) m12 = some (m12.set b23 (.cells (ansL fn 9 1 (.slice wa ml.length wz) 3 n a.e a.q (.slice avA a.s.length avz)) 66 true)) := store_one (P := Try.prog) g23 ts22 rfl (by simp [ansL])
              simp only [wk6, Nat.reduceBEq, wk1, wk3, forall_eq, evOp, evParts, okVal, ev1, evs, evOpt, envOf, List.lookup_nil, List.size_toArray, List.length_cons, List.length_nil, List.range, List.range.loop, Nat.zero_add, Nat.reduceAdd, Bool.not_false, Bool.not_true, Bool.true_or, if_true, if_false, reduceIte, Nat.reduceEqDiff, reduceCtorEq, List.getElem?_toArray, List.getElem?_cons_zero, List.getElem?_cons_succ, guardOf, constOk, constCell, evBuiltin, opLen, List.head?_cons, foldV, min2V, max2V, Int.reduceLT, Int.reduceEq, Kend, resOf, Bool.false_eq_true, Bool.true_eq_false, IntKind.signed, IntKind.max, opConvert, opIndexAddr, opLoad, aggOf, Option.some.injEq, Value.bool.injEq, exists_eq_left', true_and, forall_const, decide_eq_true_eq, decide_eq_false_iff_not, Int.natCast_nonneg, and_self, Int.toNat_natCast, Nat.mul_one, List.append_nil, beq_self_eq_true, Nat.lt_irrefl, Nat.zero_lt_succ, Nat.reduceLT, Option.bind_some, undef, opBox, Value.cells, setCells, Nat.reduceLeDiff, Array.toList, bin_geq26, bin_mapn, bin_pnn, bin_pne, veq_map, bldE, bldA, bldV, bld66, bld56, bld62, one_u16, no_ints, no_bytes, wk5, wk0, fxC22z, st3, e53, e52, e51, e5, e6, e7, e8, e9, e10]
              exact ⟨3, .inr rfl, x12.set hb23', l23, rfl⟩
            · simp only [wk6, Nat.reduceBEq, wk1, wk3, forall_eq, Nat.reduceAdd, reduceIte, Nat.reduceEqDiff, reduceCtorEq, opLen, Int.reduceLT, Int.reduceEq, opConvert, opIndexAddr, opLoad, Nat.reduceLT, undef, Nat.reduceLeDiff, Array.toList, bin_geq26, bin_mapn, bin_pnn, bin_pne, veq_map, bldE, bldA, bldV, bld66, bld56, bld62, one_u16, no_ints, no_bytes, wk4, wk5, wk0, fxC22z, e53, e52, e51, e5, e6, e7, e8, e9, e10]
              exact ⟨2, .inl rfl, x12, l23, g23⟩
          · clear e53 e52 e51 e5 e6 e7 e8 e9 e10
            rintro env m13 ⟨tr, htr, e53, e52, e51, e5, e6, e7, e8, e9, e10, e13, e22, e23, x13, l23x, g23x⟩
            have x713 := x710.trans (x11.trans x13)
            have G13 := G8.ext (x9.trans (x10.trans (x11.trans x13)))
            have L13 := L8.ext (x9.trans (x10.trans (x11.trans x13)))
            have lV := lv22 m13 (x11.trans x13)
            have lL := ld66 g23x
            simp only [wk6, Nat.reduceBEq, wk1, wk3, forall_eq, Nat.reduceAdd, reduceIte, Nat.reduceEqDiff, reduceCtorEq, opLen, Int.reduceLT, Int.reduceEq, opConvert, Nat.reduceLT, undef, Nat.reduceLeDiff, Array.toList, bin_geq26, bin_mapn, bin_pnn, bin_pne, veq_map, bldE, bldA, bldV, bld66, bld56, bld62, one_u16, no_ints, no_bytes, wk4, wk5, wk0, fxC22z, lL, e13, e22, e23, e53, e52, e51, e5, e6, e7, e8, e9, e10]
            have zz13 : Pz m5 m13 := z8.trans (x9.trans (x10.trans (x11.trans x13))).pz
            have lt23 : ∀ M, M.get b23 = m13.get b23 → opLoad Try.prog 22 (.pointer (some ⟨b23, 21, none⟩)) M = some (.int .u16 tr) := fun M h => lfld (h.trans g23x) (by simp only [aggOf, Try.underlying22]) rfl
            have xn := (x7.trans (x8.trans (x9.trans (x10.trans (x11.trans x13))))).1
            have xn9 := (x7.trans (x8.trans x9)).1
            have xn11 := (x7.trans (x8.trans (x9.trans (x10.trans x11)))).1
            have lF23 : ∀ M, M.get b23 = m13.get b23 → opLoad Try.prog 3 (.pointer (some ⟨b23, 1, none⟩)) M = some (.int .i64 fn) := fun M h => lfld (h.trans g23x) (by simp only [aggOf, Try.underlying3]) rfl
            have lA23 : ∀ M, M.get b23 = m13.get b23 → opLoad Try.prog 39 (.pointer (some ⟨b23, 23, none⟩)) M = some (ansV a.e a.q (.slice avA a.s.length avz)) := fun M h => ld39 (h.trans g23x)
            have lvv : ∀ M, M.get b22 = m10.get b22 → opLoad Try.prog 52 (.pointer (some ⟨b22, 0, none⟩)) M = some (viewV 1 (.slice wa ml.length wz)) := fun M h => load_agg (P := Try.prog) (t := 52) (sz := 2) (off := 0) (h.trans g22) (by simp only [aggOf, Try.underlying52]) ts52 (by simp)
            have fw13 := fw.pz (x10.trans (x11.trans x13)).pz
            have fa13 := fav.pz (z6.trans (x7.trans (x8.trans (x9.trans (x10.trans (x11.trans x13))))).pz)
            have quiet : ∀ M, Ext m13 M → (tr = 3 ∨ mget T.opn n = none) → La M ow b7 b8 b9 r2 ov2 T tabs ∧ Gu M ow g ob rb r pv4 sv ov S ∧ Pz m5 M := fun M x _ => ⟨L13.ext x, G13.ext x, zz13.trans x.pz⟩
            rcases htr with rfl | rfl
            · rcases Y.get n with ⟨hSo, hTo⟩ | ⟨p, q', hSo, hTo, hpl, hpC⟩
              · refine take_none G13 ⟨fnb.1, by omega⟩ fw13 hvc fa13 ok.e ok.q (by omega) hSo fun m14 x14 => ?_
                obtain ⟨L14, G14, z14⟩ := quiet m14 x14 (.inr hTo)
                have lf := L14.left n
                rw [hTo] at lf
                simp only [wk6, Nat.reduceBEq, wk1, wk3, forall_eq, Nat.reduceAdd, reduceIte, Nat.reduceEqDiff, reduceCtorEq, opLen, Int.reduceLT, Int.reduceEq, opConvert, Nat.reduceLT, undef, Nat.reduceLeDiff, Array.toList, bin_geq26, bin_mapn, bin_pnn, bin_pne, veq_map, bldE, bldA, bldV, bld66, bld56, bld62, one_u16, no_ints, no_bytes, wk4, wk5, wk0, fxC22z, n00, lf, e13, e22, e23, e53, e52, e51, e5, e6, e7, e8, e9, e10]
                exact ⟨ow, S, T, tabs, r, r2, ov, G14, L14, Y, Z.up, hSt, z14⟩
              · have hq' := wfT q' hTo
                have d0 : decide ((0 : Int) < q'.left) = true := decide_eq_true hq'.1
                have hck := Z.cok _ (mget_mem hSo)
                have hck : Cok k p.C := hck
                obtain ⟨C, hC⟩ : ∃ C, C = p.C := ⟨_, rfl⟩
                have hC2 : q'.C = C := hpC.symm.trans hC.symm
                rw [← hC] at hck
                have hck1 := hck.1
                have hck2 := hck.2.1
                refine take_is (k := k) G13 ⟨fnb.1, by omega⟩ fw13 hvc fa13 ok.e ok.q (by omega) hSo (by rw [← hC]; exact hck) (by omega) (fun m14 x14 hput => ?_) (fun m14 ow14 G14 z14 ag14 fr14 hput hres => ?_) (fun m14 ow14 G14 z14 ag14 fr14 hput hres => ?_)
                · have L14 := L13.ext x14
                  have q23 := x14.2 _ l23x
                  have q22 : m14.get b22 = m10.get b22 := (x11.trans (x13.trans x14)).2 _ l22
                  have lf := L14.left n
                  rw [hTo] at lf
                  have lt := lt23 m14 q23
                  have lF := lF23 m14 q23
                  have lA := lA23 m14 q23
                  have lVv := lvv m14 q22
                  have lT := L14.table hTo
                  have T14 : Tb m14 ow (20 + n.toNat) q'.tb q'.C := (L14.pe (n, q') (mget_mem hTo)).2.1
                  simp only [wk6, Nat.reduceBEq, wk1, wk3, forall_eq, Nat.reduceAdd, reduceIte, Nat.reduceEqDiff, reduceCtorEq, opLen, Int.reduceLT, Int.reduceEq, opConvert, Nat.reduceLT, undef, Nat.reduceLeDiff, Array.toList, bin_geq26, bin_mapn, bin_pnn, bin_pne, veq_map, bldE, bldA, bldV, bld66, bld56, bld62, one_u16, no_ints, no_bytes, wk4, wk5, wk0, fxC22z, d0, lf, lt, lF, lA, lVv, lT, e13, e22, e23, e53, e52, e51, e5, e6, e7, e8, e9, e10]
                  refine cput_tb (l := ml) (a := ⟨a.e, a.q, a.s⟩) T14 (fw13.pz x14.pz) (fa13.pz x14.pz) (by have := viewCk_len hvc; omega) (by rw [hC2]; omega) (by rw [hC2]; omega) (by show a.s.length < 2 ^ 46; omega) (fun m15 x15 hb => ?_) fun m15 T15 z15 fr15 ok2 => ?_
                  · simp only [wk6, Nat.reduceBEq, wk1, wk3, forall_eq, Nat.reduceAdd, reduceIte, Nat.reduceEqDiff, reduceCtorEq, opLen, Int.reduceLT, Int.reduceEq, opConvert, opIndexAddr, opLoad, Nat.reduceLT, undef, Nat.reduceLeDiff, Array.toList, bin_geq26, bin_mapn, bin_pnn, bin_pne, veq_map, bldE, bldA, bldV, bld66, bld56, bld62, one_u16, no_ints, no_bytes, wk4, wk5, wk0, fxC22z, e53, e52, e51, e5, e6, e7, e8, e9, e10]
                    exact ⟨ow, S, T, tabs, r, r2, ov, G13.ext (x14.trans x15), L14.ext x15, Y, Z.up, hSt, zz13.trans (x14.trans x15).pz⟩
                  · rw [hC2, hC, hput] at ok2; cases ok2
                · have L14 := L13.keep (ow' := ow14) z14 ag14 fun j hj h => fr14 j hj (by omega)
                  have q23 := fr14 _ l23x (by rw [ow0 _ (by omega)]; omega)
                  have q22 : m14.get b22 = m10.get b22 := (fr14 b22 (by have := x11.1; have := x13.1; omega) (by rw [ow0 _ (by omega)]; omega)).trans ((x11.trans x13).2 _ l22)
                  have lf := L14.left n
                  rw [hTo] at lf
                  have lt := lt23 m14 q23
                  have lF := lF23 m14 q23
                  have lA := lA23 m14 q23
                  have lVv := lvv m14 q22
                  have lT := L14.table hTo
                  have T14 : Tb m14 ow14 (20 + n.toNat) q'.tb q'.C := (L14.pe (n, q') (mget_mem hTo)).2.1
                  simp only [wk6, Nat.reduceBEq, wk1, wk3, forall_eq, Nat.reduceAdd, reduceIte, Nat.reduceEqDiff, reduceCtorEq, opLen, Int.reduceLT, Int.reduceEq, opConvert, Nat.reduceLT, undef, Nat.reduceLeDiff, Array.toList, bin_geq26, bin_mapn, bin_pnn, bin_pne, veq_map, bldE, bldA, bldV, bld66, bld56, bld62, one_u16, no_ints, no_bytes, wk4, wk5, wk0, fxC22z, d0, lf, lt, lF, lA, lVv, lT, e13, e22, e23, e53, e52, e51, e5, e6, e7, e8, e9, e10]
                  refine cput_tb (l := ml) (a := ⟨a.e, a.q, a.s⟩) T14 (fw13.pz z14) (fa13.pz z14) (by have := viewCk_len hvc; omega) (by rw [hC2]; omega) (by rw [hC2]; omega) (by show a.s.length < 2 ^ 46; omega) (fun m15 x15 hb => ?_) fun m15 T15 z15 fr15 ok2 => ?_
                  · rw [hC2, hC, hput] at hb; cases hb
                  · rw [hC2] at T15
                    rw [← hC] at hres G14
                    obtain ⟨D, hD⟩ : ∃ D, D = putC C fn 1 ml ⟨a.e, a.q, a.s⟩ := ⟨_, rfl⟩
                    have hDk : Cok (k + 1) D := hD ▸ put_short hck (viewCk_len hvc).1 (by show a.s.length ≤ 50; omega)
                    rw [← hD] at T15 hres G14
                    have d1 := hDk.1
                    have d2 := hDk.2.1
                    have hn6 : 0 ≤ n ∧ n < 6 := n6
                    obtain ⟨ow15, how15⟩ : ∃ w, w = tagr ow14 m14 m15 (20 + n.toNat) := ⟨_, rfl⟩
                    have a15 : ∀ j, j < m14.next → ow15 j = ow14 j := fun j hj => by rw [how15]; exact tagr_old ow14 _ hj
                    rw [← how15] at T15
                    have L15 := L14.upd (p' := { q' with C := D }) hTo rfl rfl z15 a15 (fun j hj _ h => fr15 j hj h) T15
                    have G15 := G14.keep z15 a15 fun j hj h1 h2 => fr15 j hj (by omega)
                    have lT2 := L15.table (show mget (mput T.opn n { q' with C := D }) n = some { q' with C := D } by rw [mget_put, if_pos rfl])
                    simp only [wk6, Nat.reduceBEq, wk1, wk3, forall_eq, Nat.reduceAdd, reduceIte, Nat.reduceEqDiff, reduceCtorEq, opLen, Int.reduceLT, Int.reduceEq, opConvert, Nat.reduceLT, undef, Nat.reduceLeDiff, Array.toList, bin_geq26, bin_mapn, bin_pnn, bin_pne, veq_map, bldE, bldA, bldV, bld66, bld56, bld62, one_u16, no_ints, no_bytes, wk4, wk5, wk0, fxC22z, lT2, e13, e22, e23, e53, e52, e51, e5, e6, e7, e8, e9, e10]
                    refine result_is T15.at (by omega) (by omega) (fun b hb => by have := hDk.2.2 b hb; omega) fun m16 w16 x16 f16 => ?_
                    rw [hres]
                    obtain ⟨wa16, wz16, rfl⟩ := f16.is
                    simp only [wk6, Nat.reduceBEq, wk1, wk3, forall_eq, Nat.reduceAdd, reduceIte, Nat.reduceEqDiff, reduceCtorEq, opLen, Int.reduceLT, Int.reduceEq, opConvert, opIndexAddr, opLoad, Nat.reduceLT, undef, Nat.reduceLeDiff, Array.toList, bin_geq26, bin_mapn, bin_pnn, bin_pne, veq_map, bldE, bldA, bldV, bld66, bld56, bld62, one_u16, no_ints, no_bytes, wk4, wk5, wk0, fxC22z, e53, e52, e51, e5, e6, e7, e8, e9, e10]
                    have x17 : Ext m16 ((m16.new (.cells [.int .i64 0, .int .i64 0, .slice none 0 0] 39 true)).set m16.next (.cells [.int .i64 (resC D).1.e, .int .i64 (resC D).1.q, .slice wa16 (resC D).1.s.length wz16] 39 true)) := (Ext.new _ _).set (Nat.le_refl _)
                    exact ⟨ow15, { S with opn := mput S.opn n { p with C := D } }, { T with opn := mput T.opn n { q' with C := D } }, tabs, r, r2, ov, G15.ext (x16.trans x17), L15.ext (x16.trans x17), ⟨Y.o.put ⟨hpl, rfl⟩, Y.r, Y.d⟩, Z.put hSo rfl hDk, hSt, ((zz13.trans z14).trans z15).trans (x16.trans x17).pz⟩
                · have L14 := L13.keep (ow' := ow14) z14 ag14 fun j hj h => fr14 j hj (by omega) (by omega)
                  have q23 := fr14 _ l23x (by rw [ow0 _ (by omega)]; decide) (by rw [ow0 _ (by omega)]; omega)
                  have q22 : m14.get b22 = m10.get b22 := (fr14 b22 (by have := x11.1; have := x13.1; omega) (by rw [ow0 _ (by omega)]; decide) (by rw [ow0 _ (by omega)]; omega)).trans ((x11.trans x13).2 _ l22)
                  have lf := L14.left n
                  rw [hTo] at lf
                  have lt := lt23 m14 q23
                  have lF := lF23 m14 q23
                  have lA := lA23 m14 q23
                  have lVv := lvv m14 q22
                  have lT := L14.table hTo
                  have T14 : Tb m14 ow14 (20 + n.toNat) q'.tb q'.C := (L14.pe (n, q') (mget_mem hTo)).2.1
                  simp only [wk6, Nat.reduceBEq, wk1, wk3, forall_eq, Nat.reduceAdd, reduceIte, Nat.reduceEqDiff, reduceCtorEq, opLen, Int.reduceLT, Int.reduceEq, opConvert, Nat.reduceLT, undef, Nat.reduceLeDiff, Array.toList, bin_geq26, bin_mapn, bin_pnn, bin_pne, veq_map, bldE, bldA, bldV, bld66, bld56, bld62, one_u16, no_ints, no_bytes, wk4, wk5, wk0, fxC22z, d0, lf, lt, lF, lA, lVv, lT, e13, e22, e23, e53, e52, e51, e5, e6, e7, e8, e9, e10]
                  refine cput_tb (l := ml) (a := ⟨a.e, a.q, a.s⟩) T14 (fw13.pz z14) (fa13.pz z14) (by have := viewCk_len hvc; omega) (by rw [hC2]; omega) (by rw [hC2]; omega) (by show a.s.length < 2 ^ 46; omega) (fun m15 x15 hb => ?_) fun m15 T15 z15 fr15 ok2 => ?_
                  · rw [hC2, hC, hput] at hb; cases hb
                  · rw [hC2] at T15
                    rw [← hC] at hres G14
                    obtain ⟨D, hD⟩ : ∃ D, D = putC C fn 1 ml ⟨a.e, a.q, a.s⟩ := ⟨_, rfl⟩
                    have hDk : Cok (k + 1) D := hD ▸ put_short hck (viewCk_len hvc).1 (by show a.s.length ≤ 50; omega)
                    rw [← hD] at T15 hres G14
                    have d1 := hDk.1
                    have d2 := hDk.2.1
                    have hn6 : 0 ≤ n ∧ n < 6 := n6
                    obtain ⟨ow15, how15⟩ : ∃ w, w = tagr ow14 m14 m15 (20 + n.toNat) := ⟨_, rfl⟩
                    have a15 : ∀ j, j < m14.next → ow15 j = ow14 j := fun j hj => by rw [how15]; exact tagr_old ow14 _ hj
                    rw [← how15] at T15
                    have L15 := L14.upd (p' := { q' with C := D }) hTo rfl rfl z15 a15 (fun j hj _ h => fr15 j hj h) T15
                    have G15 := G14.keep z15 a15 fun j hj h1 h2 => fr15 j hj (by omega)
                    have lT2 := L15.table (show mget (mput T.opn n { q' with C := D }) n = some { q' with C := D } by rw [mget_put, if_pos rfl])
                    simp only [wk6, Nat.reduceBEq, wk1, wk3, forall_eq, Nat.reduceAdd, reduceIte, Nat.reduceEqDiff, reduceCtorEq, opLen, Int.reduceLT, Int.reduceEq, opConvert, Nat.reduceLT, undef, Nat.reduceLeDiff, Array.toList, bin_geq26, bin_mapn, bin_pnn, bin_pne, veq_map, bldE, bldA, bldV, bld66, bld56, bld62, one_u16, no_ints, no_bytes, wk4, wk5, wk0, fxC22z, lT2, e13, e22, e23, e53, e52, e51, e5, e6, e7, e8, e9, e10]
                    refine result_is T15.at (by omega) (by omega) (fun b hb => by have := hDk.2.2 b hb; omega) fun m16 w16 x16 f16 => ?_
                    rw [hres]
                    have hRs := res_short hDk
                    obtain ⟨R2, hR2⟩ : ∃ R2, R2 = resC D := ⟨_, rfl⟩
                    rw [← hR2] at f16 hRs G15 ⊢
                    obtain ⟨wa16, wz16, rfl⟩ := f16.is
                    have st16 := st_ans m16 R2.1.e R2.1.q (.slice wa16 R2.1.s.length wz16) rfl
                    obtain ⟨m17, hm17⟩ : ∃ m17, m17 = (m16.new (.cells [.int .i64 0, .int .i64 0, .slice none 0 0] 39 true)).set m16.next (.cells [.int .i64 R2.1.e, .int .i64 R2.1.q, .slice wa16 R2.1.s.length wz16] 39 true) := ⟨_, rfl⟩
                    have x17 : Ext m16 m17 := by rw [hm17]; exact (Ext.new _ _).set (Nat.le_refl _)
                    have g24 : m17.get m16.next = some (.cells [.int .i64 R2.1.e, .int .i64 R2.1.q, .slice wa16 R2.1.s.length wz16] 39 true) := by rw [hm17]; exact set_get _ _ _
                    rw [← hm17] at st16
                    clear hm17
                    have ld24 := ld37 g24
                    have L17 := L15.ext (x16.trans x17)
                    have G17 := G15.ext (x16.trans x17)
                    obtain ⟨m18, m19, u3, u4, L19, z19, z18, fr19, fr18⟩ := L17.fin (n := n) (a := R2.1) (f16.pz x17.pz)
                    have e1 : mdel (mput T.opn n { q' with C := D }) n = mdel T.opn n := mdel_put
                    rw [e1] at L19
                    have G19 := G17.keep (ow' := ow15) z19 (fun _ _ => rfl) fun j _ h1 h2 => fr19 j (by omega) (by omega)
                    simp only [wk6, Nat.reduceBEq, wk1, wk3, forall_eq, evOp, evParts, okVal, ev1, evs, evOpt, envOf, List.lookup_nil, List.size_toArray, List.length_cons, List.length_nil, List.range, List.range.loop, Nat.zero_add, Nat.reduceAdd, Bool.not_false, Bool.not_true, Bool.true_or, if_true, if_false, reduceIte, Nat.reduceEqDiff, reduceCtorEq, List.getElem?_toArray, List.getElem?_cons_zero, List.getElem?_cons_succ, guardOf, constOk, constCell, evBuiltin, opLen, List.head?_cons, foldV, min2V, max2V, Int.reduceLT, Int.reduceEq, Kend, resOf, Bool.false_eq_true, Bool.true_eq_false, IntKind.signed, IntKind.max, opConvert, opIndexAddr, aggOf, Option.some.injEq, Value.bool.injEq, exists_eq_left', true_and, forall_const, decide_eq_true_eq, decide_eq_false_iff_not, Int.natCast_nonneg, and_self, Int.toNat_natCast, Nat.mul_one, List.append_nil, beq_self_eq_true, Nat.lt_irrefl, Nat.zero_lt_succ, Nat.reduceLT, Option.bind_some, undef, opBox, Value.cells, setCells, Nat.reduceLeDiff, Array.toList, bin_geq26, bin_mapn, bin_pnn, bin_pne, veq_map, bldE, bldA, bldV, bld66, bld56, bld62, one_u16, no_ints, no_bytes, wk5, wk0, fxC22z, st16, ld24, u3, u4, e13, e53, e52, e51, e5, e6, e7, e8, e9, e10]
                    exact ⟨ow15, { S with opn := mdel S.opn n, res := mput S.res n R2.1 }, { T with opn := mdel T.opn n, res := mput T.res n R2.1 }, tabs, r, r2, ov, G19, L19, ⟨Y.o.del, by show mput S.res n R2.1 = mput T.res n R2.1; rw [Y.r], Y.d⟩, Z.fin hRs, hSt, (((zz13.trans z14).trans z15).trans (x16.trans x17).pz).trans z19⟩
            · refine take_other G13 fun m14 x14 => ?_
              obtain ⟨L14, G14, z14⟩ := quiet m14 x14 (.inl rfl)
              have lf := L14.left n
              have lt := lt23 m14 (x14.2 _ l23x)
              cases hTo : mget T.opn n with
              | none =>
                rw [hTo] at lf
                simp only [wk6, Nat.reduceBEq, wk1, wk3, forall_eq, Nat.reduceAdd, reduceIte, Nat.reduceEqDiff, reduceCtorEq, opLen, Int.reduceLT, Int.reduceEq, opConvert, Nat.reduceLT, undef, Nat.reduceLeDiff, Array.toList, bin_geq26, bin_mapn, bin_pnn, bin_pne, veq_map, bldE, bldA, bldV, bld66, bld56, bld62, one_u16, no_ints, no_bytes, wk4, wk5, wk0, fxC22z, n00, lf, lt, e13, e22, e23, e53, e52, e51, e5, e6, e7, e8, e9, e10]
                exact ⟨ow, S, T, tabs, r, r2, ov, G14, L14, Y, Z.up, hSt, z14⟩
              | some q' =>
                have hq' := wfT q' hTo
                have d0 : decide ((0 : Int) < q'.left) = true := decide_eq_true hq'.1
                rw [hTo] at lf
                simp only [wk6, Nat.reduceBEq, wk1, wk3, forall_eq, Nat.reduceAdd, reduceIte, Nat.reduceEqDiff, reduceCtorEq, opLen, Int.reduceLT, Int.reduceEq, opConvert, Nat.reduceLT, undef, Nat.reduceLeDiff, Array.toList, bin_geq26, bin_mapn, bin_pnn, bin_pne, veq_map, bldE, bldA, bldV, bld66, bld56, bld62, one_u16, no_ints, no_bytes, wk4, wk5, wk0, fxC22z, d0, lf, lt, e13, e22, e23, e53, e52, e51, e5, e6, e7, e8, e9, e10]
                exact ⟨ow, S, T, tabs, r, r2, ov, G14, L14, Y, Z.up, hSt, z14⟩
        · simp only [wk6, Nat.reduceBEq, wk1, wk3, forall_eq, Nat.reduceAdd, reduceIte, Nat.reduceEqDiff, reduceCtorEq, opLen, Int.reduceLT, Int.reduceEq, opConvert, Nat.reduceLT, undef, Nat.reduceLeDiff, Array.toList, bin_geq26, bin_mapn, bin_pnn, bin_pne, veq_map, bldE, bldA, bldV, bld66, bld56, bld62, one_u16, no_ints, no_bytes, wk4, wk5, wk0, fxC22z, e53, e52, e51, e5, e6, e7, e8, e9, e10]
          have hod := Z.od
          refine tick_is G8 Z.wf (by omega) fun m9 ow9 ta tq G9 z9 ag9 fr9 => ?_
          have L9 := L8.keep (ow' := ow9) z9 ag9 fun j hj h => fr9 j hj (.inr h)
          have lo := L9.oo.len (P := Try.prog) Try.underlying45
          have hd : S.order = T.order := Y.d
          have hdl : S.order.length = T.order.length := by rw [hd]
          have hN : tkNs S S.order = tkNs T T.order := by rw [hd]; exact (Y.tks T.order).2
          rw [hN]
          simp only [wk6, Nat.reduceBEq, wk1, wk3, forall_eq, Nat.reduceAdd, reduceIte, Nat.reduceEqDiff, reduceCtorEq, Int.reduceLT, Int.reduceEq, opConvert, Nat.reduceLT, undef, Nat.reduceLeDiff, Array.toList, bin_geq26, bin_mapn, bin_pnn, bin_pne, veq_map, bldE, bldA, bldV, bld66, bld56, bld62, one_u16, no_ints, no_bytes, wk4, wk5, wk0, fxC22z, lo, e53, e52, e51, e5, e6, e7, e8, e9, e10]
          refine loop_wp [] (by kernel_rfl) (fun q2 env M => ∃ j : Nat, q2 + j = T.order.length ∧ env 79 = some (.int .i64 (j : Int)) ∧ env 78 = some (.int .i64 (T.order.length : Int)) ∧ env 77 = some ov2 ∧ env 26 = some (.slice ta (tkNs T T.order) tq) ∧ env 27 = some (.int .i64 (tkNs T (T.order.take j) : Nat)) ∧ env 53 = some (.int .i64 (k : Int)) ∧ env 52 = some (.int .i64 (l.length : Int)) ∧ env 51 = some v ∧ env 5 = some (.int .i64 tm) ∧ env 6 = some (.pointer (some ⟨g, 0, none⟩)) ∧ env 7 = some (.map (some b7)) ∧ env 8 = some (.map (some b8)) ∧ env 9 = some (.map (some b9)) ∧ env 10 = some ov2 ∧ Gu M ow9 g ob rb r pv4 sv ov (S.order.foldl tkS S) ∧ La M ow9 b7 b8 b9 r2 ov2 ((T.order.take j).foldl tkS T) tabs ∧ Pz m9 M) ?_ T.order.length
            ⟨0, rfl, rfl, rfl, by simp only [e10, put_get]; rfl, rfl, rfl, by simp only [e53, put_get]; rfl, by simp only [e52, put_get]; rfl, by simp only [e51, put_get]; rfl, by simp only [e5, put_get]; rfl, by simp only [e6, put_get]; rfl, by simp only [e7, put_get]; rfl, by simp only [e8, put_get]; rfl, by simp only [e9, put_get]; rfl, by simp only [e10, put_get]; rfl, G9, L9, Pz.refl _⟩
          clear e53 e52 e51 e5 e6 e7 e8 e9 e10 L9 G9
          rintro q2 env M ⟨j, hq2, e79, e78, e77, e26, e27, e53, e52, e51, e5, e6, e7, e8, e9, e10, GM, LM, zM⟩
          simp only [wk6, Nat.reduceBEq, wk1, wk3, forall_eq, Nat.reduceAdd, reduceIte, Nat.reduceEqDiff, reduceCtorEq, opLen, Int.reduceLT, Int.reduceEq, opConvert, opIndexAddr, opLoad, Nat.reduceLT, undef, Nat.reduceLeDiff, Array.toList, bin_geq26, bin_mapn, bin_pnn, bin_pne, veq_map, bldE, bldA, bldV, bld66, bld56, bld62, one_u16, no_ints, no_bytes, wk4, wk5, wk0, fxC22z, e79, e78]
          refine cond_by (fun hj => ?_) (fun hj => ?_)
          · have hj3 : j < T.order.length := by omega
            obtain ⟨U, hU⟩ : ∃ U, U = (T.order.take j).foldl tkS T := ⟨_, rfl⟩
            rw [← hU] at LM
            have hUo : U.order = T.order := by rw [hU]; exact (tkSs_keep _ T).1
            obtain ⟨x, hx⟩ : ∃ x, x = T.order[j] := ⟨_, rfl⟩
            have hT1 : (T.order.take (j + 1)).foldl tkS T = tkS U x := by rw [List.take_succ_eq_append_getElem hj3, List.foldl_append, ← hU, ← hx]; rfl
            have hN1 : tkNs T (T.order.take (j + 1)) = tkNs T (T.order.take j) + tkN U x := by rw [List.take_succ_eq_append_getElem hj3, tkNs_append, ← hU, ← hx]
            have hNl : tkNs T (T.order.take j) ≤ 3 * (T.order.take j).length := tkNs_le _ _
            rw [List.length_take] at hNl
            have oo : OwnI r2 22 1 M ov2 T.order.length (nums T.order) := hUo ▸ LM.oo
            have ix := oo.index (P := Try.prog) (t := 45) Try.underlying45 ts22 (j := (j : Int)) rfl hj3
            rw [Nat.mul_one] at ix
            have hc : (nums T.order)[j]? = some (.int .u16 x) := by rw [hx]; simp [hj3]
            have ld : opLoad Try.prog 22 (.pointer (some ⟨r2, j, none⟩)) M = some (.int .u16 x) := load_cell (oo.row (by omega)).2.2 (by simp only [aggOf, Try.underlying22]) hc
            have lf := LM.left x
            have wj : IntKind.i64.wrap ((j : Int) + 1) = ((j + 1 : Nat) : Int) := by rw [wrap_i64 (by omega) (by omega)]; rfl
            have YU := (Y.tks (T.order.take j)).1
            rw [← hU] at YU
            rcases YU.get x with ⟨_, hUx⟩ | ⟨p, p2, hSx, hUx, hpl, _⟩
            · rw [hUx] at lf
              have e1 : tkS U x = U := by unfold tkS; rw [hUx]
              have e2 : tkN U x = 0 := by unfold tkN; rw [hUx]
              simp only [wk6, Nat.reduceBEq, wk1, wk3, forall_eq, Nat.reduceAdd, reduceIte, Nat.reduceEqDiff, reduceCtorEq, opLen, Int.reduceLT, Int.reduceEq, opConvert, Nat.reduceLT, undef, Nat.reduceLeDiff, Array.toList, bin_geq26, bin_mapn, bin_pnn, bin_pne, veq_map, bldE, bldA, bldV, bld66, bld56, bld62, one_u16, no_ints, no_bytes, wk4, wk5, wk0, fxC22z, ix, ld, lf, e79, e78, e77, e26, e27, e53, e52, e51, e5, e6, e7, e8, e9, e10]
              exact ⟨q2 - 1, by omega, j + 1, by omega, by rw [wj], by rw [hN1, e2]; rfl, GM, by rw [hT1, e1]; exact LM, zM⟩
            · have hw := (Z.wf.tks (T.order.take j)) _ (mget_mem hSx)
              have hw : 0 < p.left ∧ p.left ≤ 20 := hw
              rw [hUx] at lf
              have dn0 : decide (p2.left = 0) = false := decide_eq_false (by omega)
              have wl : IntKind.i64.wrap (p2.left - 1) = p2.left - 1 := wrap_i64 (by omega) (by omega)
              obtain ⟨M1, u1, L1, z1, f1⟩ := LM.dec (x := p2.left - 1) hUx
              have lf1 := L1.left x
              rw [show mget (mput U.opn x { p2 with left := p2.left - 1 }) x = some { p2 with left := p2.left - 1 } by rw [mget_put, if_pos rfl]] at lf1
              have G1 := GM.keep (ow' := ow9) z1 (fun _ _ => rfl) fun i _ _ h2 => f1 i (by omega)
              by_cases h0 : p2.left - 1 = 0
              · have e1 : tkS U x = { U with opn := mdel U.opn x, res := mput U.res x ⟨18, 0, []⟩ } := by unfold tkS; rw [hUx]; exact if_pos (by omega)
                have e2 : tkN U x = 0 := by unfold tkN; rw [hUx]; exact if_pos (by omega)
                have d0 : decide (p2.left - 1 = 0) = true := decide_eq_true h0
                obtain ⟨M2, M3, u2, u3, L3, z3, z2, f3, f2⟩ := L1.fin (n := x) (a := ⟨18, 0, []⟩) FRow.nil
                have e3 : mdel (mput U.opn x { p2 with left := p2.left - 1 }) x = mdel U.opn x := mdel_put
                rw [e3] at L3
                have G3 := G1.keep (ow' := ow9) z3 (fun _ _ => rfl) fun i _ h1 h2 => f3 i (by omega) (by omega)
                simp only [wk6, Nat.reduceBEq, wk1, wk3, forall_eq, Nat.reduceAdd, reduceIte, Nat.reduceEqDiff, reduceCtorEq, opLen, Int.reduceLT, Int.reduceEq, opConvert, Nat.reduceLT, undef, Nat.reduceLeDiff, Array.toList, bin_geq26, bin_mapn, bin_pnn, bin_pne, veq_map, bldE, bldA, bldV, bld66, bld56, bld62, one_u16, no_ints, no_bytes, wk4, wk5, wk0, fxC22z, ix, ld, lf, dn0, wl, u1, lf1, d0, bldE, u2, u3, e79, e78, e77, e26, e27, e53, e52, e51, e5, e6, e7, e8, e9, e10]
                exact ⟨q2 - 1, by omega, j + 1, by omega, by rw [wj], by rw [hN1, e2]; rfl, G3, by rw [hT1, e1]; exact L3, zM.trans (z1.trans z3)⟩
              · have e1 : tkS U x = { U with opn := mput U.opn x { p2 with left := p2.left - 1 } } := by unfold tkS; rw [hUx]; exact if_neg (by omega)
                have d0 : decide (p2.left - 1 = 0) = false := decide_eq_false h0
                by_cases h8 : (p2.left - 1).tmod 8 = 0
                · have e2 : tkN U x = 3 := by unfold tkN; rw [hUx]; exact (if_neg (by omega)).trans (if_pos h8)
                  have d8 : decide ((p2.left - 1).tmod 8 = 0) = true := decide_eq_true h8
                  have w3 : IntKind.i64.wrap ((tkNs T (T.order.take j) : Nat) + 3) = ((tkNs T (T.order.take j) + 3 : Nat) : Int) := by rw [wrap_i64 (by omega) (by omega)]; rfl
                  simp only [wk6, Nat.reduceBEq, wk1, wk3, forall_eq, Nat.reduceAdd, reduceIte, Nat.reduceEqDiff, reduceCtorEq, opLen, Int.reduceLT, Int.reduceEq, opConvert, Nat.reduceLT, undef, Nat.reduceLeDiff, Array.toList, bin_geq26, bin_mapn, bin_pnn, bin_pne, veq_map, bldE, bldA, bldV, bld66, bld56, bld62, one_u16, no_ints, no_bytes, wk4, wk5, wk0, fxC22z, ix, ld, lf, dn0, wl, u1, lf1, d0, d8, w3, e79, e78, e77, e26, e27, e53, e52, e51, e5, e6, e7, e8, e9, e10]
                  exact ⟨q2 - 1, by omega, j + 1, by omega, by rw [wj], by rw [hN1, e2], G1, by rw [hT1, e1]; exact L1, zM.trans z1⟩
                · have e2 : tkN U x = 0 := by unfold tkN; rw [hUx]; exact (if_neg (by omega)).trans (if_neg h8)
                  have d8 : decide ((p2.left - 1).tmod 8 = 0) = false := decide_eq_false h8
                  simp only [wk6, Nat.reduceBEq, wk1, wk3, forall_eq, Nat.reduceAdd, reduceIte, Nat.reduceEqDiff, reduceCtorEq, opLen, Int.reduceLT, Int.reduceEq, opConvert, Nat.reduceLT, undef, Nat.reduceLeDiff, Array.toList, bin_geq26, bin_mapn, bin_pnn, bin_pne, veq_map, bldE, bldA, bldV, bld66, bld56, bld62, one_u16, no_ints, no_bytes, wk4, wk5, wk0, fxC22z, ix, ld, lf, dn0, wl, u1, lf1, d0, d8, e79, e78, e77, e26, e27, e53, e52, e51, e5, e6, e7, e8, e9, e10]
                  exact ⟨q2 - 1, by omega, j + 1, by omega, by rw [wj], by rw [hN1, e2]; rfl, G1, by rw [hT1, e1]; exact L1, zM.trans z1⟩
          · obtain rfl : j = T.order.length := by omega
            rw [List.take_length] at LM e27
            have lt : opLen Try.prog (some 34) (.slice ta (tkNs T T.order) tq) = some (.int .i64 (tkNs T T.order : Nat)) := by simp only [opLen, Try.underlying34]
            simp only [wk6, Nat.reduceBEq, wk1, wk3, forall_eq, Nat.reduceAdd, reduceIte, Nat.reduceEqDiff, reduceCtorEq, Int.reduceLT, Int.reduceEq, opConvert, opIndexAddr, opLoad, Nat.reduceLT, undef, Nat.reduceLeDiff, Array.toList, bin_geq26, bin_mapn, bin_pnn, bin_pne, veq_map, bldE, bldA, bldV, bld66, bld56, bld62, one_u16, no_ints, no_bytes, wk4, wk5, wk0, fxC22z, lt, e79, e78, e77, e26, e27, e53, e52, e51, e5, e6, e7, e8, e9, e10]
            refine ⟨ow9, S.order.foldl tkS S, T.order.foldl tkS T, tabs, r, r2, ov, GM, LM, ?_, (Z.tks _).up, (tkSs_keep _ S).2.trans hSt, (z8.trans z9).trans zM⟩
            rw [hd]; exact (Y.tks T.order).1
    · clear e53 e52 e51 e5 e6 e7 e8 e9 e10 G L Y Z hSt z6 G7 L7 G8 L8 z8 dK dS dN ldA lrw
      rintro env m9 ⟨ow, S, T, tabs, r, r2, ov, ov2, e53, e52, e51, e5, e6, e7, e8, e9, e10, G, L, Y, Z, hSt, z9⟩
      simp only [wk6, Nat.reduceBEq, wk1, wk3, forall_eq, Nat.reduceAdd, reduceIte, Nat.reduceEqDiff, reduceCtorEq, opLen, Int.reduceLT, Int.reduceEq, opConvert, opIndexAddr, opLoad, Nat.reduceLT, undef, Nat.reduceLeDiff, Array.toList, bin_geq26, bin_mapn, bin_pnn, bin_pne, veq_map, bldE, bldA, bldV, bld66, bld56, bld62, one_u16, no_ints, no_bytes, wk4, wk5, wk0, fxC22z, e53, e52, e51, e5, e6, e7, e8, e9, e10]
      refine gopen_ret G.gat ?_
      have ll := L.ml.len (P := Try.prog) Try.underlying70
      have eo : S.old.opn.length = T.opn.length := by
        show (S.opn.map _).length = _
        rw [List.length_map, Y.o.length]
      rw [eo]
      simp only [wk6, Nat.reduceBEq, wk1, wk3, forall_eq, Nat.reduceAdd, reduceIte, Nat.reduceEqDiff, reduceCtorEq, opLen, Int.reduceLT, Int.reduceEq, opConvert, opIndexAddr, opLoad, Nat.reduceLT, undef, Nat.reduceLeDiff, Array.toList, bin_geq26, bin_mapn, bin_pnn, bin_pne, veq_map, bldE, bldA, bldV, bld66, bld56, bld62, one_u16, no_ints, no_bytes, wk4, wk5, wk0, fxC22z, ll, e53, e52, e51, e5, e6, e7, e8, e9, e10]
      have hod := Z.od
      refine gnums_ret G.gat (show S.order.length < 2 ^ 30 by omega) fun m10 na nq x10 => ?_
      rw [show S.old.order.length = T.order.length from congrArg List.length Y.d]
      have lo2 := L.oo.len (P := Try.prog) Try.underlying45
      have ln : opLen Try.prog (some 45) (.slice na T.order.length nq) = some (.int .i64 T.order.length) := by simp only [opLen, Try.underlying45]
      obtain ⟨ow9, how9⟩ : ∃ w : Nat → Nat, w = fun j => if j < m10.next then ow j else 0 := ⟨_, rfl⟩
      have a9 : ∀ j, j < m10.next → ow9 j = ow j := fun j hj => by rw [how9]; exact if_pos hj
      have f9 : ∀ j, m10.next ≤ j → ow9 j = 0 := fun j hj => by rw [how9]; exact if_neg (by omega)
      clear how9
      have G10 := (G.ext x10).keep (ow' := ow9) (Pz.refl _) a9 fun _ _ _ _ => rfl
      have L10 := (L.ext x10).keep (ow' := ow9) (Pz.refl _) a9 fun _ _ _ => rfl
      have z10 := z9.trans x10.pz
      simp only [wk6, Nat.reduceBEq, wk1, wk3, forall_eq, Nat.reduceAdd, reduceIte, Nat.reduceEqDiff, reduceCtorEq, Int.reduceLT, Int.reduceEq, opConvert, opIndexAddr, opLoad, Nat.reduceLT, undef, Nat.reduceLeDiff, Array.toList, bin_geq26, bin_mapn, bin_pnn, bin_pne, veq_map, bldE, bldA, bldV, bld66, bld56, bld62, one_u16, no_ints, no_bytes, wk4, wk5, wk0, fxC22z, lo2, ln, e53, e52, e51, e5, e6, e7, e8, e9, e10]
      refine loop_wp [] (by kernel_rfl) (fun q2 env M => ∃ j : Nat, q2 + j = 6 ∧ env 265 = some (.int .u16 (j : Int)) ∧ env 53 = some (.int .i64 (k : Int)) ∧ env 52 = some (.int .i64 (l.length : Int)) ∧ env 51 = some v ∧ env 5 = some (.int .i64 tm) ∧ env 6 = some (.pointer (some ⟨g, 0, none⟩)) ∧ env 7 = some (.map (some b7)) ∧ env 8 = some (.map (some b8)) ∧ env 9 = some (.map (some b9)) ∧ env 10 = some ov2 ∧ Gu M ow9 g ob rb r pv4 sv ov S ∧ La M ow9 b7 b8 b9 r2 ov2 T tabs ∧ Pz m10 M) ?_ 6
        ⟨0, rfl, rfl, by simp only [e53, put_get]; rfl, by simp only [e52, put_get]; rfl, by simp only [e51, put_get]; rfl, by simp only [e5, put_get]; rfl, by simp only [e6, put_get]; rfl, by simp only [e7, put_get]; rfl, by simp only [e8, put_get]; rfl, by simp only [e9, put_get]; rfl, by simp only [e10, put_get]; rfl, G10, L10, Pz.refl _⟩
      clear e53 e52 e51 e5 e6 e7 e8 e9 e10 G10 L10
      rintro q2 env M ⟨j, hq2, e265, e53, e52, e51, e5, e6, e7, e8, e9, e10, GM, LM, zM⟩
      simp only [wk6, Nat.reduceBEq, wk1, wk3, forall_eq, Nat.reduceAdd, reduceIte, Nat.reduceEqDiff, reduceCtorEq, opLen, Int.reduceLT, Int.reduceEq, opConvert, opIndexAddr, opLoad, Nat.reduceLT, undef, Nat.reduceLeDiff, Array.toList, bin_geq26, bin_mapn, bin_pnn, bin_pne, veq_map, bldE, bldA, bldV, bld66, bld56, bld62, one_u16, no_ints, no_bytes, wk4, wk5, wk0, fxC22z, e265]
      refine cond_by (fun hj => ?_) (fun hj => ?_)
      · simp only [wk6, Nat.reduceBEq, wk1, wk3, forall_eq, Nat.reduceAdd, reduceIte, Nat.reduceEqDiff, reduceCtorEq, opLen, Int.reduceLT, Int.reduceEq, opConvert, opIndexAddr, opLoad, Nat.reduceLT, undef, Nat.reduceLeDiff, Array.toList, bin_geq26, bin_mapn, bin_pnn, bin_pne, veq_map, bldE, bldA, bldV, bld66, bld56, bld62, one_u16, no_ints, no_bytes, wk4, wk5, wk0, fxC22z, e265, e53, e52, e51, e5, e6, e7, e8, e9, e10]
        refine gresult_ret GM.gat (fun a ha => by have := Z.rs _ (mget_mem (show mget S.res _ = some a from ha)); have : a.s.length ≤ 50 := this; omega) fun m11 w r11 x11 o11 hr11 => ?_
        rw [show S.old.res = T.res from Y.r] at o11 ⊢
        obtain ⟨B, hB⟩ : ∃ B, B = (mget T.res (j : Int)).isSome := ⟨_, rfl⟩
        obtain ⟨A2, hA2⟩ : ∃ A2 : Ans, A2 = (mget T.res (j : Int)).getD ⟨0, 0, []⟩ := ⟨_, rfl⟩
        rw [← hA2] at o11 ⊢
        rw [← hB]
        obtain ⟨wa1, wz1, rfl⟩ := o11.is
        have st1 := st_ans m11 A2.e A2.q (.slice wa1 A2.s.length wz1) rfl
        obtain ⟨m12, hm12⟩ : ∃ m12, m12 = (m11.new (.cells [.int .i64 0, .int .i64 0, .slice none 0 0] 39 true)).set m11.next (.cells [.int .i64 A2.e, .int .i64 A2.q, .slice wa1 A2.s.length wz1] 39 true) := ⟨_, rfl⟩
        have x12 : Ext m11 m12 := by rw [hm12]; exact (Ext.new _ _).set (Nat.le_refl _)
        have g31 : m12.get m11.next = some (.cells [.int .i64 A2.e, .int .i64 A2.q, .slice wa1 A2.s.length wz1] 39 true) := by rw [hm12]; exact set_get _ _ _
        have n12 : m11.next < m12.next := by rw [hm12]; exact Nat.lt_succ_self _
        rw [← hm12] at st1
        clear hm12
        have LN := (LM.ext x11).ext x12
        obtain ⟨w2, fw2, lk2⟩ := LN.result (j : Int)
        rw [← hA2] at fw2 lk2
        rw [← hB] at lk2
        obtain ⟨wa2, wz2, rfl⟩ := fw2.is
        have st2 := st_ans m12 A2.e A2.q (.slice wa2 A2.s.length wz2) rfl
        obtain ⟨m13, hm13⟩ : ∃ m13, m13 = (m12.new (.cells [.int .i64 0, .int .i64 0, .slice none 0 0] 39 true)).set m12.next (.cells [.int .i64 A2.e, .int .i64 A2.q, .slice wa2 A2.s.length wz2] 39 true) := ⟨_, rfl⟩
        have x13 : Ext m12 m13 := by rw [hm13]; exact (Ext.new _ _).set (Nat.le_refl _)
        have g33 : m13.get m12.next = some (.cells [.int .i64 A2.e, .int .i64 A2.q, .slice wa2 A2.s.length wz2] 39 true) := by rw [hm13]; exact set_get _ _ _
        rw [← hm13] at st2
        clear hm13
        have ld31 := ld37 ((x13.2 _ n12).trans g31)
        have ld33 := ld37 g33
        obtain ⟨mF, zF, fF, nF, kF⟩ := own_frz o11 (x12.trans x13)
        have t11 : ow9 r11 = 0 := f9 r11 (by have := zM.1; omega)
        have kF' : ∀ i, 1 ≤ ow9 i → mF.get i = m13.get i := fun i h1 => kF i (fun _ e => by rw [e, t11] at h1; omega)
        have GF := ((GM.ext x11).ext (x12.trans x13)).keep (ow' := ow9) zF.pz (fun _ _ => rfl) fun i _ h1 _ => kF' i h1
        have LF := (LN.ext x13).keep (ow' := ow9) zF.pz (fun _ _ => rfl) fun i _ h1 => kF' i (by omega)
        have eB : binV Try.prog .neq 4 (.bool B) (.bool B) = some (.bool false) := by cases B <;> kernel_rfl
        have wj : IntKind.u16.wrap ((j : Int) + 1) = ((j + 1 : Nat) : Int) := by rw [u16_lo]; omega
        simp only [wk6, Nat.reduceBEq, wk1, wk3, forall_eq, evOp, evParts, okVal, ev1, evs, evOpt, envOf, List.lookup_nil, List.size_toArray, List.length_cons, List.length_nil, List.range, List.range.loop, Nat.zero_add, Nat.reduceAdd, Bool.not_false, Bool.not_true, Bool.true_or, if_true, if_false, reduceIte, Nat.reduceEqDiff, reduceCtorEq, List.getElem?_toArray, List.getElem?_cons_zero, List.getElem?_cons_succ, guardOf, constOk, constCell, evBuiltin, opLen, List.head?_cons, foldV, min2V, max2V, Int.reduceLT, Int.reduceEq, Kend, resOf, Bool.false_eq_true, Bool.true_eq_false, IntKind.signed, IntKind.max, opConvert, opIndexAddr, aggOf, Option.some.injEq, Value.bool.injEq, exists_eq_left', true_and, forall_const, decide_eq_true_eq, decide_eq_false_iff_not, Int.natCast_nonneg, and_self, Int.toNat_natCast, Nat.mul_one, List.append_nil, beq_self_eq_true, Nat.lt_irrefl, Nat.zero_lt_succ, Nat.reduceLT, Option.bind_some, undef, opBox, Value.cells, setCells, Nat.reduceLeDiff, Array.toList, bin_geq26, bin_mapn, bin_pnn, bin_pne, veq_map, bldE, bldA, bldV, bld66, bld56, bld62, one_u16, no_ints, no_bytes, wk5, wk0, fxC22z, st1, lk2, st2, ld31, ld33, eB, e265, e53, e52, e51, e5, e6, e7, e8, e9, e10]
        refine Ret.thaw zF ?_
        refine alike_ret (a := A2) (b := A2) fF (fw2.pz (x13.pz.trans zF.pz)) fun m14 x14 => ?_
        rw [alikeB_self]
        simp only [wk6, Nat.reduceBEq, wk1, wk3, forall_eq, Nat.reduceAdd, reduceIte, Nat.reduceEqDiff, reduceCtorEq, opLen, Int.reduceLT, Int.reduceEq, opConvert, opIndexAddr, opLoad, Nat.reduceLT, undef, Nat.reduceLeDiff, Array.toList, bin_geq26, bin_mapn, bin_pnn, bin_pne, veq_map, bldE, bldA, bldV, bld66, bld56, bld62, one_u16, no_ints, no_bytes, wk4, wk5, wk0, fxC22z, e265, e53, e52, e51, e5, e6, e7, e8, e9, e10]
        exact ⟨q2 - 1, by omega, j + 1, by omega, by rw [wj], GF.ext x14, LF.ext x14, (zM.trans ((x11.trans (x12.trans x13)).pz.trans zF.pz)).trans x14.pz⟩
      · obtain rfl : j = 6 := by omega
        simp only [wk6, Nat.reduceBEq, wk1, wk3, forall_eq, Nat.reduceAdd, reduceIte, Nat.reduceEqDiff, reduceCtorEq, opLen, Int.reduceLT, Int.reduceEq, opConvert, opIndexAddr, opLoad, Nat.reduceLT, undef, Nat.reduceLeDiff, Array.toList, bin_geq26, bin_mapn, bin_pnn, bin_pne, veq_map, bldE, bldA, bldV, bld66, bld56, bld62, one_u16, no_ints, no_bytes, wk4, wk5, wk0, fxC22z, e265, e53, e52, e51, e5, e6, e7, e8, e9, e10]
        exact ⟨q - 1, by omega, k + 1, _, _, _, _, _, _, _, _, by omega, by rw [wrap_i64 (by omega) (by omega)]; rfl, rfl, GM, LM, Y, Z, hSt, z10.trans zM⟩
  · simp only [wk6, Nat.reduceBEq, wk1, wk3, forall_eq, Nat.reduceAdd, reduceIte, Nat.reduceEqDiff, reduceCtorEq, opLen, Int.reduceLT, Int.reduceEq, opConvert, opIndexAddr, opLoad, Nat.reduceLT, undef, Nat.reduceLeDiff, Array.toList, bin_geq26, bin_mapn, bin_pnn, bin_pne, veq_map, bldE, bldA, bldV, bld66, bld56, bld62, one_u16, no_ints, no_bytes, wk4, wk5, wk0, fxC22z]
end Go.Proofs.Ytimjcfaciiimmaa
