/- A text of the abstract machine. -/

/- A guest with its tables: time goes by. -/
import Derived.Test.YtimjcfaciiimmaaAmC22i
import Derived.Test.YtimjcfaciiimmaaAmC22h
import Derived.Test.YtimjcfaciiimmaaAmBun
set_option linter.unusedSimpArgs false
set_option linter.unusedVariables false
set_option maxRecDepth 100000
set_option maxHeartbeats 4000000
namespace Go.Proofs.Ytimjcfaciiimmaa
open Go Go.AM Go.AM.Crc Go.AM.Wire
theorem fxC22n : type_of% (And.intro (And.intro (And.intro (And.intro (And.intro (And.intro (And.intro @Try.underlying3 @Try.underlying4) (And.intro @Try.underlying5 @Try.underlying9)) (And.intro (And.intro @Try.underlying22 @Try.underlying23) (And.intro @Try.underlying25 (And.intro @Try.underlying26 @Try.underlying30)))) (And.intro (And.intro (And.intro @Try.underlying32 @Try.underlying34) (And.intro @Try.underlying35 (And.intro @Try.underlying39 @Try.underlying40))) (And.intro (And.intro @Try.underlying45 @Try.underlying56) (And.intro @Try.underlying62 (And.intro @Try.underlying66 @Try.underlying72))))) (And.intro (And.intro (And.intro (And.intro @Try.underlying75 @Try.underlying77) (And.intro @Try.underlying83 @Try.underlying85)) (And.intro (And.intro @Try.underlying92 @Try.underlying93) (And.intro @Try.underlying94 (And.intro @Try.underlying98 @Try.underlying101)))) (And.intro (And.intro (And.intro @ts3 @ts4) (And.intro @ts5 (And.intro @ts9 @ts22))) (And.intro (And.intro @ts23 @ts25) (And.intro @ts26 (And.intro @ts30 @ts32)))))) (And.intro (And.intro (And.intro (And.intro (And.intro @ts34 @ts35) (And.intro @ts39 @ts40)) (And.intro (And.intro @ts45 @ts56) (And.intro @ts62 (And.intro @ts66 @ts72)))) (And.intro (And.intro (And.intro @ts75 @ts77) (And.intro @ts83 (And.intro @ts85 @ts92))) (And.intro (And.intro @ts93 @ts94) (And.intro @ts98 (And.intro @ts101 @tz3))))) (And.intro (And.intro (And.intro (And.intro @tz4 @tz5) (And.intro @tz9 @tz22)) (And.intro (And.intro @tz23 @tz25) (And.intro @tz26 (And.intro @tz30 @tz32)))) (And.intro (And.intro (And.intro @tz34 @tz35) (And.intro @tz39 (And.intro @tz40 @tz45))) (And.intro (And.intro @tz56 @tz62) (And.intro @tz66 (And.intro @tz72 @tz75))))))) (And.intro (And.intro (And.intro (And.intro (And.intro (And.intro @tz77 @tz83) (And.intro @tz85 @tz92)) (And.intro (And.intro @tz93 @tz94) (And.intro @tz98 (And.intro @tz101 @tb3)))) (And.intro (And.intro (And.intro @tb4 @tb5) (And.intro @tb9 (And.intro @tb22 @tb23))) (And.intro (And.intro @tb25 @tb26) (And.intro @tb30 (And.intro @tb32 @tb34))))) (And.intro (And.intro (And.intro (And.intro @tb35 @tb39) (And.intro @tb40 @tb45)) (And.intro (And.intro @tb56 @tb62) (And.intro @tb66 (And.intro @tb72 @tb75)))) (And.intro (And.intro (And.intro @tb77 @tb83) (And.intro @tb85 (And.intro @tb92 @tb93))) (And.intro (And.intro @tb94 @tb98) (And.intro @tb101 (And.intro @fr7 @fr8)))))) (And.intro (And.intro (And.intro (And.intro (And.intro @fr9 @fr10) (And.intro @fr11 @fr12)) (And.intro (And.intro @fr13 @fr14) (And.intro @fr23 (And.intro @fr24 @fr25)))) (And.intro (And.intro (And.intro @fr26 @bz39) (And.intro @bz32 (And.intro @bz92 @al39))) (And.intro (And.intro @al32 @al92) (And.intro @al62 (And.intro @bz85 @fa32_0))))) (And.intro (And.intro (And.intro (And.intro @fa32_5 @fa39_0) (And.intro @fa39_1 @fa39_2)) (And.intro (And.intro @fa62_0 @fa62_1) (And.intro @fa62_2 (And.intro @fa85_0 @fa85_1)))) (And.intro (And.intro (And.intro @fa85_2 @fa85_3) (And.intro @fa85_4 (And.intro @fa85_5 @fa85_6))) (And.intro (And.intro @fa92_1 @fa92_4) (And.intro @fa92_5 (And.intro @fa98_0 @fa98_2)))))))) := (And.intro (And.intro (And.intro (And.intro (And.intro (And.intro (And.intro @Try.underlying3 @Try.underlying4) (And.intro @Try.underlying5 @Try.underlying9)) (And.intro (And.intro @Try.underlying22 @Try.underlying23) (And.intro @Try.underlying25 (And.intro @Try.underlying26 @Try.underlying30)))) (And.intro (And.intro (And.intro @Try.underlying32 @Try.underlying34) (And.intro @Try.underlying35 (And.intro @Try.underlying39 @Try.underlying40))) (And.intro (And.intro @Try.underlying45 @Try.underlying56) (And.intro @Try.underlying62 (And.intro @Try.underlying66 @Try.underlying72))))) (And.intro (And.intro (And.intro (And.intro @Try.underlying75 @Try.underlying77) (And.intro @Try.underlying83 @Try.underlying85)) (And.intro (And.intro @Try.underlying92 @Try.underlying93) (And.intro @Try.underlying94 (And.intro @Try.underlying98 @Try.underlying101)))) (And.intro (And.intro (And.intro @ts3 @ts4) (And.intro @ts5 (And.intro @ts9 @ts22))) (And.intro (And.intro @ts23 @ts25) (And.intro @ts26 (And.intro @ts30 @ts32)))))) (And.intro (And.intro (And.intro (And.intro (And.intro @ts34 @ts35) (And.intro @ts39 @ts40)) (And.intro (And.intro @ts45 @ts56) (And.intro @ts62 (And.intro @ts66 @ts72)))) (And.intro (And.intro (And.intro @ts75 @ts77) (And.intro @ts83 (And.intro @ts85 @ts92))) (And.intro (And.intro @ts93 @ts94) (And.intro @ts98 (And.intro @ts101 @tz3))))) (And.intro (And.intro (And.intro (And.intro @tz4 @tz5) (And.intro @tz9 @tz22)) (And.intro (And.intro @tz23 @tz25) (And.intro @tz26 (And.intro @tz30 @tz32)))) (And.intro (And.intro (And.intro @tz34 @tz35) (And.intro @tz39 (And.intro @tz40 @tz45))) (And.intro (And.intro @tz56 @tz62) (And.intro @tz66 (And.intro @tz72 @tz75))))))) (And.intro (And.intro (And.intro (And.intro (And.intro (And.intro @tz77 @tz83) (And.intro @tz85 @tz92)) (And.intro (And.intro @tz93 @tz94) (And.intro @tz98 (And.intro @tz101 @tb3)))) (And.intro (And.intro (And.intro @tb4 @tb5) (And.intro @tb9 (And.intro @tb22 @tb23))) (And.intro (And.intro @tb25 @tb26) (And.intro @tb30 (And.intro @tb32 @tb34))))) (And.intro (And.intro (And.intro (And.intro @tb35 @tb39) (And.intro @tb40 @tb45)) (And.intro (And.intro @tb56 @tb62) (And.intro @tb66 (And.intro @tb72 @tb75)))) (And.intro (And.intro (And.intro @tb77 @tb83) (And.intro @tb85 (And.intro @tb92 @tb93))) (And.intro (And.intro @tb94 @tb98) (And.intro @tb101 (And.intro @fr7 @fr8)))))) (And.intro (And.intro (And.intro (And.intro (And.intro @fr9 @fr10) (And.intro @fr11 @fr12)) (And.intro (And.intro @fr13 @fr14) (And.intro @fr23 (And.intro @fr24 @fr25)))) (And.intro (And.intro (And.intro @fr26 @bz39) (And.intro @bz32 (And.intro @bz92 @al39))) (And.intro (And.intro @al32 @al92) (And.intro @al62 (And.intro @bz85 @fa32_0))))) (And.intro (And.intro (And.intro (And.intro @fa32_5 @fa39_0) (And.intro @fa39_1 @fa39_2)) (And.intro (And.intro @fa62_0 @fa62_1) (And.intro @fa62_2 (And.intro @fa85_0 @fa85_1)))) (And.intro (And.intro (And.intro @fa85_2 @fa85_3) (And.intro @fa85_4 (And.intro @fa85_5 @fa85_6))) (And.intro (And.intro @fa92_1 @fa92_4) (And.intro @fa92_5 (And.intro @fa98_0 @fa98_2))))))))
def tkS (S : Sg) (n : Int) : Sg := match mget S.opn n with
  | none => S
  | some p => if p.left - 1 ≤ 0 then { S with opn := mdel S.opn n, res := mput S.res n ⟨18, 0, []⟩ } else { S with opn := mput S.opn n { p with left := p.left - 1 } }
def tkN (S : Sg) (n : Int) : Nat := match mget S.opn n with
  | none => 0
  | some p => if p.left - 1 ≤ 0 then 0 else if (p.left - 1).tmod 8 = 0 then 3 else 0
def tkNs : Sg → List Int → Nat
  | _, [] => 0
  | S, n :: r => tkN S n + tkNs (tkS S n) r
theorem tkNs_append (l : List Int) (n : Int) : ∀ S, tkNs S (l ++ [n]) = tkNs S l + tkN (l.foldl tkS S) n := by
  induction l with
  | nil => intro S; simp [tkNs]
  | cons x r ih => intro S; simp only [List.cons_append, tkNs, ih, List.foldl_cons]; omega
theorem tkNs_le (l : List Int) : ∀ S, tkNs S l ≤ 3 * l.length := by
  induction l with
  | nil => intro S; simp [tkNs]
  | cons x r ih =>
    intro S
    have := ih (tkS S x)
    have h : tkN S x ≤ 3 := by
      unfold tkN
      split
      · omega
      · split
        · omega
        · split <;> omega
    simp only [tkNs, List.length_cons]; omega
def Wf (S : Sg) : Prop := ∀ q ∈ S.opn, 0 < q.2.left ∧ q.2.left ≤ 20
theorem tkS_keep (S : Sg) (n : Int) : (tkS S n).order = S.order ∧ (tkS S n).time = S.time := by
  unfold tkS
  split
  · exact ⟨rfl, rfl⟩
  · split <;> exact ⟨rfl, rfl⟩
theorem tkSs_keep (l : List Int) : ∀ S : Sg, (l.foldl tkS S).order = S.order ∧ (l.foldl tkS S).time = S.time := by
  induction l with
  | nil => intro S; exact ⟨rfl, rfl⟩
  | cons x r ih => intro S; exact ⟨(ih _).1.trans (tkS_keep S x).1, (ih _).2.trans (tkS_keep S x).2⟩
theorem mdel_sub2 {α : Type} {l : List (Int × α)} {k : Int} : ∀ q ∈ mdel l k, q ∈ l := by
  induction l with
  | nil => intro q hq; cases hq
  | cons x r ih =>
    intro q hq
    simp only [mdel] at hq
    split at hq
    · exact List.mem_cons_of_mem _ hq
    · rcases List.mem_cons.1 hq with h | h
      · rw [h]; exact List.mem_cons_self ..
      · exact List.mem_cons_of_mem _ (ih q h)
theorem Wf.tk {S : Sg} (h : Wf S) (n : Int) : Wf (tkS S n) := by
  intro q hq
  unfold tkS at hq
  split at hq
  · exact h q hq
  · rename_i p hp
    have hp' := h _ (mget_mem hp)
    split at hq
    · exact h q (mdel_sub2 q hq)
    · rcases mput_mem q hq with e | e
      · rw [e]; show 0 < p.left - 1 ∧ p.left - 1 ≤ 20
        have h1 : 0 < p.left := hp'.1
        have h2 : p.left ≤ 20 := hp'.2
        omega
      · exact h q e
theorem Wf.tks (l : List Int) : ∀ {S : Sg}, Wf S → Wf (l.foldl tkS S) := by
  induction l with
  | nil => intro S h; exact h
  | cons x r ih => intro S h; exact ih (h.tk x)
theorem tick_is {m : Mem} {ow : Nat → Nat} {g ob rb r : Nat} {pv sv ov : Value} {S : Sg} (H : Gu m ow g ob rb r pv sv ov S) (hw : Wf S) (hor : S.order.length < 256) {K : Value → Mem → Prop}
    (hK : ∀ m' ow' a q, Gu m' ow' g ob rb r pv sv ov (S.order.foldl tkS S) → Pz m m' → (∀ j, j < m.next → ow' j = ow j) → (∀ j, j < m.next → ow j = 0 ∨ 14 ≤ ow j → m'.get j = m.get j) → K (.slice a (tkNs S S.order) q) m') : Ret Try.prog 13 [.pointer (some ⟨g, 0, none⟩)] m K := by
  refine ret_wp [] Try.func13 rfl (by decide) (by kernel_rfl) ?_
  obtain ⟨ow0, how0⟩ : ∃ w : Nat → Nat, w = fun j => if j < m.next then ow j else 0 := ⟨_, rfl⟩
  have a0 : ∀ j, j < m.next → ow0 j = ow j := fun j hj => by rw [how0]; exact if_pos hj
  have f0 : ∀ j, m.next ≤ j → ow0 j = 0 := fun j hj => by rw [how0]; exact if_neg (by omega)
  clear how0
  replace H := H.keep (ow' := ow0) (Pz.refl m) a0 fun _ _ _ _ => rfl
  have gg := H.gg
  have lo := H.oo.len (P := Try.prog) Try.underlying45
  have lov : opLoad Try.prog 45 (.pointer (some ⟨g, 11, none⟩)) m = some ov := load_cell gg (by simp only [aggOf, Try.underlying45]) rfl
  simp only [Nat.reduceAdd, reduceIte, Nat.reduceEqDiff, reduceCtorEq, Int.reduceLT, Int.reduceEq, opConvert, opIndexAddr, Nat.reduceLT, undef, Nat.reduceLeDiff, Array.toList, bin_geq26, bin_mapn, bin_pnn, bin_pne, veq_map, bld66, bld98, bld56, bld62, one_u16, one_letter, no_ints, no_bytes, bldE, wk4, wk5, wk0, fxC22n, lov, lo]
  refine loop_wp [] (by kernel_rfl) (fun q env μ => ∃ (j rr : Nat) (w : Value) (cs : List Value), q + j = S.order.length ∧ Gu μ ow0 g ob rb r pv sv ov ((S.order.take j).foldl tkS S) ∧ OwnI rr 66 26 μ w (tkNs S (S.order.take j)) cs ∧ m.next ≤ rr ∧ env 0 = some (.pointer (some ⟨g, 0, none⟩)) ∧ env 3 = some w ∧ env 12 = some ov ∧ env 13 = some (.int .i64 (S.order.length : Nat)) ∧ env 14 = some (.int .i64 j) ∧ Pz m μ ∧ ∀ i, i < m.next → ow0 i = 0 ∨ 14 ≤ ow0 i → μ.get i = m.get i) ?_ S.order.length
    ⟨0, m.next, _, [], rfl, H, OwnI.nil, Nat.le_refl _, rfl, rfl, rfl, rfl, rfl, Pz.refl _, fun _ _ _ => rfl⟩
  clear lov lo gg
  rintro q env μ ⟨j, rr, w, cs, hq, G, W, hrr, e0, e3, e12, e13, e14, z, fr⟩
  obtain ⟨T, hT⟩ : ∃ T, T = (S.order.take j).foldl tkS S := ⟨_, rfl⟩
  have hTo : T.order = S.order := by rw [hT]; exact (tkSs_keep _ S).1
  have hTw : Wf T := by rw [hT]; exact hw.tks _
  rw [← hT] at G
  simp only [Nat.reduceAdd, reduceIte, Nat.reduceEqDiff, reduceCtorEq, opLen, Int.reduceLT, Int.reduceEq, opConvert, opIndexAddr, opLoad, Nat.reduceLT, undef, Nat.reduceLeDiff, Array.toList, bin_geq26, bin_mapn, bin_pnn, bin_pne, veq_map, bld66, bld98, bld56, bld62, one_u16, one_letter, no_ints, no_bytes, bldE, wk4, wk5, wk0, fxC22n, e13, e14]
  refine cond_by (fun hlt => ?_) (fun hge => ?_)
  · have hj : j < S.order.length := by omega
    obtain ⟨n, hn⟩ : ∃ n, n = S.order[j] := ⟨_, rfl⟩
    have hS1 : (S.order.take (j + 1)).foldl tkS S = tkS T n := by rw [List.take_succ_eq_append_getElem hj, List.foldl_append, ← hT, ← hn]; rfl
    have hN1 : tkNs S (S.order.take (j + 1)) = tkNs S (S.order.take j) + tkN T n := by rw [List.take_succ_eq_append_getElem hj, tkNs_append, ← hT, ← hn]
    have oo : OwnI r 22 1 μ ov S.order.length (nums S.order) := hTo ▸ G.oo
    have ix := oo.index (P := Try.prog) (t := 45) Try.underlying45 ts22 (j := (j : Int)) rfl hj
    obtain ⟨hr0, _, gr⟩ := oo.row (by omega)
    have hc : (nums S.order)[j * 1]? = some (.int .u16 n) := by rw [Nat.mul_one, hn]; simp [hj]
    have ld : opLoad Try.prog 22 (.pointer (some ⟨r, j * 1, none⟩)) μ = some (.int .u16 n) := load_cell gr (by simp only [aggOf, Try.underlying22]) hc
    rw [Nat.mul_one] at ix ld
    have gg := G.gg
    have lmo : opLoad Try.prog 83 (.pointer (some ⟨g, 9, none⟩)) μ = some (.map (some ob)) := load_cell gg (by simp only [aggOf, Try.underlying83]) rfl
    have w0 : IntKind.i64.wrap ((j : Int) + 1) = ((j + 1 : Nat) : Int) := by rw [wrap_i64 (by omega) (by omega)]; rfl
    cases hg : mget T.opn n with
    | none =>
      have l2 := G.mo.absent (P := Try.prog) keyU_ok Try.underlying83 tz93 rfl hg false
      have e1 : tkS T n = T := by unfold tkS; rw [hg]
      have e2 : tkN T n = 0 := by unfold tkN; rw [hg]
      simp only [Nat.reduceAdd, reduceIte, Nat.reduceEqDiff, reduceCtorEq, opLen, Int.reduceLT, Int.reduceEq, opConvert, Nat.reduceLT, undef, Nat.reduceLeDiff, Array.toList, bin_geq26, bin_mapn, bin_pnn, bin_pne, veq_map, bld66, bld98, bld56, bld62, one_u16, one_letter, no_ints, no_bytes, bldE, wk4, wk5, wk0, fxC22n, e0, e3, e12, e13, e14, ix, ld, lmo, l2]
      exact ⟨q - 1, by omega, j + 1, rr, w, cs, by omega, by rw [hS1, e1]; exact G, by rw [hN1, e2]; exact W, hrr, rfl, by rw [w0], z, fr⟩
    | some p =>
      have l2 := gu_look G hg
      have P := G.pe (n, p) (mget_mem hg)
      obtain ⟨pav, gb, fa⟩ := P.gb
      obtain ⟨paa, paz, rfl⟩ := fa.is
      have n6 : 0 ≤ n ∧ n < 6 := P.n6
      have tb8 : ow0 p.b = 8 + n.toNat := P.ob
      have hbl : p.b < μ.next := P.lb
      have hlw : 0 < p.left ∧ p.left ≤ 20 := hTw _ (mget_mem hg)
      have w1 : IntKind.i64.wrap (p.left - 1) = p.left - 1 := wrap_i64 (by omega) (by omega)
      obtain ⟨m1, hm1⟩ : ∃ m1, m1 = μ.set p.b (.cells [.int .u16 2, .int .u16 n, .int .i64 p.pr, .slice paa p.s.length paz, .pointer (some ⟨p.tb, 0, none⟩), .int .i64 (p.left - 1)] 98 true) := ⟨_, rfl⟩
      have st1 : opStore Try.prog 3 (.pointer (some ⟨p.b, 5, none⟩)) (.int .i64 (p.left - 1)) μ = some m1 := by
        rw [hm1]
        exact store_one (P := Try.prog) gb ts3 rfl (by simp)
      have lb : opLoad Try.prog 3 (.pointer (some ⟨p.b, 5, none⟩)) μ = some (.int .i64 p.left) := load_cell gb (by simp only [aggOf, Try.underlying3]) rfl
      have g1 : m1.get p.b = some (.cells [.int .u16 2, .int .u16 n, .int .i64 p.pr, .slice paa p.s.length paz, .pointer (some ⟨p.tb, 0, none⟩), .int .i64 (p.left - 1)] 98 true) := by rw [hm1]; exact set_get _ _ _
      have k1 : ∀ i, i ≠ p.b → m1.get i = μ.get i := fun i hi => by rw [hm1]; exact set_get_ne _ hi
      have n1 : m1.next = μ.next := by rw [hm1]; rfl
      have z1 : Pz μ m1 := by rw [hm1]; exact Pz.set gb _
      clear hm1
      have lb1 : opLoad Try.prog 3 (.pointer (some ⟨p.b, 5, none⟩)) m1 = some (.int .i64 (p.left - 1)) := load_cell g1 (by simp only [aggOf, Try.underlying3]) rfl
      have nt : ∀ i, ow0 i ≠ 8 + n.toNat → m1.get i = μ.get i := fun i hi => k1 i (fun e => hi (e ▸ tb8))
      have G1 : Gu m1 ow0 g ob rb r pv sv ov { T with opn := mput T.opn n { p with left := p.left - 1 } } := G.upd (p' := { p with left := p.left - 1 }) hg rfl z1 (fun _ _ => rfl) (fun i _ _ _ _ h => nt i h) ⟨n6, ⟨_, g1, fa.pz z1⟩, by show p.b < m1.next; omega, tb8, P.tb.keep z1 (fun _ _ => rfl) fun i _ h => nt i (by have : ow0 i = 2 + n.toNat := h; omega)⟩
      have trr : ow0 rr = 0 := f0 rr hrr
      have W1 : OwnI rr 66 26 m1 w (tkNs S (S.order.take j)) cs := W.keepN (by omega) fun _ _ => nt rr (by omega)
      have fr1 : ∀ i, i < m.next → ow0 i = 0 ∨ 14 ≤ ow0 i → m1.get i = m.get i := fun i hi h => (nt i (by omega)).trans (fr i hi h)
      by_cases hle : p.left - 1 ≤ 0
      · have dl : decide (p.left - 1 ≤ 0) = true := decide_eq_true hle
        have e1 : tkS T n = { T with opn := mdel T.opn n, res := mput T.res n ⟨18, 0, []⟩ } := by unfold tkS; rw [hg]; exact if_pos hle
        have e2 : tkN T n = 0 := by unfold tkN; rw [hg]; exact if_pos hle
        simp only [evOp, evParts, okVal, ev1, evs, evOpt, envOf, List.lookup_nil, List.size_toArray, List.length_cons, List.length_nil, List.range, List.range.loop, Nat.zero_add, Nat.reduceAdd, Bool.not_false, Bool.not_true, Bool.true_or, if_true, if_false, reduceIte, Nat.reduceEqDiff, reduceCtorEq, List.getElem?_toArray, List.getElem?_cons_zero, List.getElem?_cons_succ, guardOf, constOk, constCell, evBuiltin, opLen, List.head?_cons, foldV, min2V, max2V, Int.reduceLT, Int.reduceEq, Kend, resOf, Bool.false_eq_true, Bool.true_eq_false, IntKind.signed, IntKind.max, opConvert, aggOf, Option.some.injEq, Value.bool.injEq, exists_eq_left', true_and, forall_const, decide_eq_true_eq, decide_eq_false_iff_not, Int.natCast_nonneg, and_self, Int.toNat_natCast, Nat.mul_one, List.append_nil, beq_self_eq_true, Nat.lt_irrefl, Nat.zero_lt_succ, Nat.reduceLT, Option.bind_some, undef, opBox, Value.cells, setCells, Nat.reduceLeDiff, Array.toList, bin_geq26, bin_mapn, bin_pnn, bin_pne, veq_map, bld66, bld98, bld56, bld62, one_u16, one_letter, no_ints, no_bytes, bldE, wk5, wk0, fxC22n, e0, e3, e12, e13, e14, ix, ld, lmo, l2, lb, w1, st1, lb1, dl]
        refine gend_is (a := ⟨18, 0, []⟩) G1 FRow.nil fun m2 G2 z2 f2 => ?_
        have e3' : mdel (mput T.opn n { p with left := p.left - 1 }) n = mdel T.opn n := mdel_put
        rw [e3'] at G2
        have W2 := W1.keepN z2.1 fun _ hl => f2 rr hl (by omega)
        simp only [Nat.reduceAdd, reduceIte, Nat.reduceEqDiff, reduceCtorEq, opLen, Int.reduceLT, Int.reduceEq, opConvert, opIndexAddr, opLoad, Nat.reduceLT, undef, Nat.reduceLeDiff, Array.toList, bin_geq26, bin_mapn, bin_pnn, bin_pne, veq_map, bld66, bld98, bld56, bld62, one_u16, one_letter, no_ints, no_bytes, bldE, wk4, wk5, wk0, fxC22n, e0, e3, e12, e13, e14]
        exact ⟨q - 1, by omega, j + 1, rr, w, cs, by omega, by rw [hS1, e1]; exact G2, by rw [hN1, e2]; exact W2, hrr, rfl, by rw [w0], z.trans (z1.trans z2), fun i hi h => (f2 i (by have := z.1; omega) (by omega)).trans (fr1 i hi h)⟩
      · have dl : decide (p.left - 1 ≤ 0) = false := decide_eq_false hle
        have e1 : tkS T n = { T with opn := mput T.opn n { p with left := p.left - 1 } } := by unfold tkS; rw [hg]; exact if_neg hle
        by_cases h8 : (p.left - 1).tmod 8 = 0
        · have d8 : decide ((p.left - 1).tmod 8 = 0) = true := decide_eq_true h8
          have e2 : tkN T n = 3 := by unfold tkN; rw [hg]; exact (if_neg hle).trans (if_pos h8)
          simp only [evOp, evParts, okVal, ev1, evs, evOpt, envOf, List.lookup_nil, List.size_toArray, List.length_cons, List.length_nil, List.range, List.range.loop, Nat.zero_add, Nat.reduceAdd, Bool.not_false, Bool.not_true, Bool.true_or, if_true, if_false, reduceIte, Nat.reduceEqDiff, reduceCtorEq, List.getElem?_toArray, List.getElem?_cons_zero, List.getElem?_cons_succ, guardOf, constOk, constCell, evBuiltin, opLen, List.head?_cons, foldV, min2V, max2V, Int.reduceLT, Int.reduceEq, Kend, resOf, Bool.false_eq_true, Bool.true_eq_false, IntKind.signed, IntKind.max, opConvert, aggOf, Option.some.injEq, Value.bool.injEq, exists_eq_left', true_and, forall_const, decide_eq_true_eq, decide_eq_false_iff_not, Int.natCast_nonneg, and_self, Int.toNat_natCast, Nat.mul_one, List.append_nil, beq_self_eq_true, Nat.lt_irrefl, Nat.zero_lt_succ, Nat.reduceLT, Option.bind_some, undef, opBox, Value.cells, setCells, Nat.reduceLeDiff, Array.toList, bin_geq26, bin_mapn, bin_pnn, bin_pne, veq_map, bld66, bld98, bld56, bld62, one_u16, one_letter, no_ints, no_bytes, bldE, wk5, wk0, fxC22n, e0, e3, e12, e13, e14, ix, ld, lmo, l2, lb, w1, st1, lb1, dl, d8]
          refine ask_is (b := p.b) G1.gg G1.lg G1.fs g1 (by omega) fun m2 w2 r2 x2 o2 hr2 => ?_
          have hN : tkNs S (S.order.take j) ≤ 3 * (S.order.take j).length := tkNs_le _ _
          rw [List.length_take] at hN
          obtain ⟨a', q', m3, r3, p1, p2, p3, p4, p5⟩ := (W1.ext x2).push (P := Try.prog) (t := 34) (tx := 34) Try.underlying34 ⟨_, Try.underlying34⟩ ts66 (by decide) tz66 tb66 (by decide) rfl rfl o2.rd.showsR (by omega)
          have G3 : Gu m3 ow0 g ob rb r pv sv ov { T with opn := mput T.opn n { p with left := p.left - 1 } } := (G1.ext x2).keep (st_append p1).pz (fun _ _ => rfl) fun i hi h1 _ => p5 i hi fun e => by rw [e, trr] at h1; omega
          simp only [Nat.reduceAdd, reduceIte, Nat.reduceEqDiff, reduceCtorEq, opLen, Int.reduceLT, Int.reduceEq, opConvert, opIndexAddr, opLoad, Nat.reduceLT, undef, Nat.reduceLeDiff, Array.toList, bin_geq26, bin_mapn, bin_pnn, bin_pne, veq_map, bld66, bld98, bld56, bld62, one_u16, one_letter, no_ints, no_bytes, bldE, wk4, wk5, wk0, fxC22n, e0, e3, e12, e13, e14, p1]
          exact ⟨q - 1, by omega, j + 1, r3, _, _, by omega, by rw [hS1, e1]; exact G3, by rw [hN1, e2]; exact p2, by have := x2.1; have := z.1; omega, rfl, by rw [w0], z.trans (z1.trans (x2.pz.trans (st_append p1).pz)), fun i hi h => by rw [p5 i (by have := x2.1; have := z.1; omega) (fun e => by omega), x2.2 i (by have := z.1; omega), fr1 i hi h]⟩
        · have d8 : decide ((p.left - 1).tmod 8 = 0) = false := decide_eq_false h8
          have e2 : tkN T n = 0 := by unfold tkN; rw [hg]; exact (if_neg hle).trans (if_neg h8)
          simp only [evOp, evParts, okVal, ev1, evs, evOpt, envOf, List.lookup_nil, List.size_toArray, List.length_cons, List.length_nil, List.range, List.range.loop, Nat.zero_add, Nat.reduceAdd, Bool.not_false, Bool.not_true, Bool.true_or, if_true, if_false, reduceIte, Nat.reduceEqDiff, reduceCtorEq, List.getElem?_toArray, List.getElem?_cons_zero, List.getElem?_cons_succ, guardOf, constOk, constCell, evBuiltin, opLen, List.head?_cons, foldV, min2V, max2V, Int.reduceLT, Int.reduceEq, Kend, resOf, Bool.false_eq_true, Bool.true_eq_false, IntKind.signed, IntKind.max, opConvert, aggOf, Option.some.injEq, Value.bool.injEq, exists_eq_left', true_and, forall_const, decide_eq_true_eq, decide_eq_false_iff_not, Int.natCast_nonneg, and_self, Int.toNat_natCast, Nat.mul_one, List.append_nil, beq_self_eq_true, Nat.lt_irrefl, Nat.zero_lt_succ, Nat.reduceLT, Option.bind_some, undef, opBox, Value.cells, setCells, Nat.reduceLeDiff, Array.toList, bin_geq26, bin_mapn, bin_pnn, bin_pne, veq_map, bld66, bld98, bld56, bld62, one_u16, one_letter, no_ints, no_bytes, bldE, wk5, wk0, fxC22n, e0, e3, e12, e13, e14, ix, ld, lmo, l2, lb, w1, st1, lb1, dl, d8]
          exact ⟨q - 1, by omega, j + 1, rr, w, cs, by omega, by rw [hS1, e1]; exact G1, by rw [hN1, e2]; exact W1, hrr, rfl, by rw [w0], z.trans z1, fr1⟩
  · obtain rfl : j = S.order.length := by omega
    rw [List.take_length] at hT W
    simp only [Nat.reduceAdd, reduceIte, Nat.reduceEqDiff, reduceCtorEq, opLen, Int.reduceLT, Int.reduceEq, opConvert, opIndexAddr, opLoad, Nat.reduceLT, undef, Nat.reduceLeDiff, Array.toList, bin_geq26, bin_mapn, bin_pnn, bin_pne, veq_map, bld66, bld98, bld56, bld62, one_u16, one_letter, no_ints, no_bytes, bldE, wk4, wk5, wk0, fxC22n, e3, e13, e14]
    obtain ⟨wa, wq, rfl⟩ := W.is
    exact hK μ ow0 wa wq (hT ▸ G) z a0 fun i hi h => fr i hi (by rw [a0 i hi]; exact h)
end Go.Proofs.Ytimjcfaciiimmaa
