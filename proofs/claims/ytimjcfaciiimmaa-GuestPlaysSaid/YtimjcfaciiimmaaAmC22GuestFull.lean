/- A text of the abstract machine. -/

/- GuestFull comes to true on all arguments. -/
import Derived.Test.YtimjcfaciiimmaaAmC22e
import Derived.Test.YtimjcfaciiimmaaAmArgs6
import Derived.Test.YtimjcfaciiimmaaAmArgs7
import Derived.Test.YtimjcfaciiimmaaAmBun
set_option linter.unusedSimpArgs false
set_option linter.unusedVariables false
set_option maxRecDepth 100000
set_option maxHeartbeats 4000000
namespace Go.Proofs.Ytimjcfaciiimmaa
open Go Go.AM Go.AM.Crc Go.AM.Wire
theorem fxC22GuestFull : type_of% (And.intro (And.intro (And.intro (And.intro (And.intro (And.intro (And.intro @Try.underlying3 @Try.underlying4) (And.intro @Try.underlying5 @Try.underlying9)) (And.intro (And.intro @Try.underlying22 @Try.underlying23) (And.intro @Try.underlying25 (And.intro @Try.underlying26 @Try.underlying30)))) (And.intro (And.intro (And.intro @Try.underlying32 @Try.underlying34) (And.intro @Try.underlying35 @Try.underlying39)) (And.intro (And.intro @Try.underlying40 @Try.underlying45) (And.intro @Try.underlying56 (And.intro @Try.underlying62 @Try.underlying66))))) (And.intro (And.intro (And.intro (And.intro @Try.underlying72 @Try.underlying75) (And.intro @Try.underlying77 @Try.underlying83)) (And.intro (And.intro @Try.underlying85 @Try.underlying92) (And.intro @Try.underlying93 (And.intro @Try.underlying94 @Try.underlying98)))) (And.intro (And.intro (And.intro @ts3 @ts4) (And.intro @ts5 (And.intro @ts9 @ts22))) (And.intro (And.intro @ts23 @ts25) (And.intro @ts26 (And.intro @ts30 @ts32)))))) (And.intro (And.intro (And.intro (And.intro (And.intro @ts34 @ts35) (And.intro @ts39 @ts40)) (And.intro (And.intro @ts45 @ts56) (And.intro @ts62 (And.intro @ts66 @ts72)))) (And.intro (And.intro (And.intro @ts75 @ts77) (And.intro @ts83 @ts85)) (And.intro (And.intro @ts92 @ts93) (And.intro @ts94 (And.intro @ts98 @tz3))))) (And.intro (And.intro (And.intro (And.intro @tz4 @tz5) (And.intro @tz9 @tz22)) (And.intro (And.intro @tz23 @tz25) (And.intro @tz26 (And.intro @tz30 @tz32)))) (And.intro (And.intro (And.intro @tz34 @tz35) (And.intro @tz39 (And.intro @tz40 @tz45))) (And.intro (And.intro @tz56 @tz62) (And.intro @tz66 (And.intro @tz72 @tz75))))))) (And.intro (And.intro (And.intro (And.intro (And.intro (And.intro @tz77 @tz83) (And.intro @tz85 @tz92)) (And.intro (And.intro @tz93 @tz94) (And.intro @tz98 (And.intro @tb3 @tb4)))) (And.intro (And.intro (And.intro @tb5 @tb9) (And.intro @tb22 @tb23)) (And.intro (And.intro @tb25 @tb26) (And.intro @tb30 (And.intro @tb32 @tb34))))) (And.intro (And.intro (And.intro (And.intro @tb35 @tb39) (And.intro @tb40 @tb45)) (And.intro (And.intro @tb56 @tb62) (And.intro @tb66 (And.intro @tb72 @tb75)))) (And.intro (And.intro (And.intro @tb77 @tb83) (And.intro @tb85 (And.intro @tb92 @tb93))) (And.intro (And.intro @tb94 @tb98) (And.intro @fr7 (And.intro @fr8 @fr9)))))) (And.intro (And.intro (And.intro (And.intro (And.intro @fr10 @fr11) (And.intro @fr12 @fr13)) (And.intro (And.intro @fr14 @fr23) (And.intro @fr24 (And.intro @fr25 @fr26)))) (And.intro (And.intro (And.intro @fr4 @bz39) (And.intro @bz32 (And.intro @bz92 @al39))) (And.intro (And.intro @al32 @al92) (And.intro @al62 (And.intro @bz85 @fa32_0))))) (And.intro (And.intro (And.intro (And.intro @fa32_5 @fa39_0) (And.intro @fa39_1 @fa39_2)) (And.intro (And.intro @fa62_0 @fa62_1) (And.intro @fa62_2 (And.intro @fa85_0 @fa85_1)))) (And.intro (And.intro (And.intro @fa85_2 @fa85_3) (And.intro @fa85_4 (And.intro @fa85_5 @fa85_6))) (And.intro (And.intro @fa92_1 @fa92_4) (And.intro @fa92_5 (And.intro @fa98_0 @fa98_2)))))))) := (And.intro (And.intro (And.intro (And.intro (And.intro (And.intro (And.intro @Try.underlying3 @Try.underlying4) (And.intro @Try.underlying5 @Try.underlying9)) (And.intro (And.intro @Try.underlying22 @Try.underlying23) (And.intro @Try.underlying25 (And.intro @Try.underlying26 @Try.underlying30)))) (And.intro (And.intro (And.intro @Try.underlying32 @Try.underlying34) (And.intro @Try.underlying35 @Try.underlying39)) (And.intro (And.intro @Try.underlying40 @Try.underlying45) (And.intro @Try.underlying56 (And.intro @Try.underlying62 @Try.underlying66))))) (And.intro (And.intro (And.intro (And.intro @Try.underlying72 @Try.underlying75) (And.intro @Try.underlying77 @Try.underlying83)) (And.intro (And.intro @Try.underlying85 @Try.underlying92) (And.intro @Try.underlying93 (And.intro @Try.underlying94 @Try.underlying98)))) (And.intro (And.intro (And.intro @ts3 @ts4) (And.intro @ts5 (And.intro @ts9 @ts22))) (And.intro (And.intro @ts23 @ts25) (And.intro @ts26 (And.intro @ts30 @ts32)))))) (And.intro (And.intro (And.intro (And.intro (And.intro @ts34 @ts35) (And.intro @ts39 @ts40)) (And.intro (And.intro @ts45 @ts56) (And.intro @ts62 (And.intro @ts66 @ts72)))) (And.intro (And.intro (And.intro @ts75 @ts77) (And.intro @ts83 @ts85)) (And.intro (And.intro @ts92 @ts93) (And.intro @ts94 (And.intro @ts98 @tz3))))) (And.intro (And.intro (And.intro (And.intro @tz4 @tz5) (And.intro @tz9 @tz22)) (And.intro (And.intro @tz23 @tz25) (And.intro @tz26 (And.intro @tz30 @tz32)))) (And.intro (And.intro (And.intro @tz34 @tz35) (And.intro @tz39 (And.intro @tz40 @tz45))) (And.intro (And.intro @tz56 @tz62) (And.intro @tz66 (And.intro @tz72 @tz75))))))) (And.intro (And.intro (And.intro (And.intro (And.intro (And.intro @tz77 @tz83) (And.intro @tz85 @tz92)) (And.intro (And.intro @tz93 @tz94) (And.intro @tz98 (And.intro @tb3 @tb4)))) (And.intro (And.intro (And.intro @tb5 @tb9) (And.intro @tb22 @tb23)) (And.intro (And.intro @tb25 @tb26) (And.intro @tb30 (And.intro @tb32 @tb34))))) (And.intro (And.intro (And.intro (And.intro @tb35 @tb39) (And.intro @tb40 @tb45)) (And.intro (And.intro @tb56 @tb62) (And.intro @tb66 (And.intro @tb72 @tb75)))) (And.intro (And.intro (And.intro @tb77 @tb83) (And.intro @tb85 (And.intro @tb92 @tb93))) (And.intro (And.intro @tb94 @tb98) (And.intro @fr7 (And.intro @fr8 @fr9)))))) (And.intro (And.intro (And.intro (And.intro (And.intro @fr10 @fr11) (And.intro @fr12 @fr13)) (And.intro (And.intro @fr14 @fr23) (And.intro @fr24 (And.intro @fr25 @fr26)))) (And.intro (And.intro (And.intro @fr4 @bz39) (And.intro @bz32 (And.intro @bz92 @al39))) (And.intro (And.intro @al32 @al92) (And.intro @al62 (And.intro @bz85 @fa32_0))))) (And.intro (And.intro (And.intro (And.intro @fa32_5 @fa39_0) (And.intro @fa39_1 @fa39_2)) (And.intro (And.intro @fa62_0 @fa62_1) (And.intro @fa62_2 (And.intro @fa85_0 @fa85_1)))) (And.intro (And.intro (And.intro @fa85_2 @fa85_3) (And.intro @fa85_4 (And.intro @fa85_5 @fa85_6))) (And.intro (And.intro @fa92_1 @fa92_4) (And.intro @fa92_5 (And.intro @fa98_0 @fa98_2))))))))
theorem awake_ret {m : Mem} {K : Value → Mem → Prop} (hK : ∀ m', Pz m m' → K (.bool true) m') : Ret Try.prog 7 [] m K := by
  refine ret_wp [] Try.func7 rfl (by decide) (by kernel_rfl) ?_
  simp only [Nat.reduceAdd, reduceIte, Nat.reduceEqDiff, reduceCtorEq, opLen, Int.reduceLT, Int.reduceEq, opConvert, opIndexAddr, opLoad, Nat.reduceLT, undef, Nat.reduceLeDiff, Array.toList, bin_geq26, bin_mapn, bin_pnn, bin_pne, veq_map, bldE, wk4, wk5, wk0, fxC22GuestFull]
  refine face_ret fun m1 pv z1 fp => ?_
  have two : opBuildSlice Try.prog 25 2 [(0, .int .i64 0), (1, .int .i64 1)] m1 = some (.slice (some ⟨m1.next, 0, none⟩) 2 1, m1.new (.cells [.int .i64 0, .int .i64 1] 3 true)) := by kernel_rfl
  simp only [Nat.reduceAdd, reduceIte, Nat.reduceEqDiff, reduceCtorEq, opLen, Int.reduceLT, Int.reduceEq, opConvert, opIndexAddr, opLoad, Nat.reduceLT, undef, Nat.reduceLeDiff, Array.toList, bin_geq26, bin_mapn, bin_pnn, bin_pne, veq_map, bldE, wk4, wk5, wk0, fxC22GuestFull, two]
  have o2 : OwnI m1.next 3 1 (m1.new (.cells [.int .i64 0, .int .i64 1] 3 true)) (.slice (some ⟨m1.next, 0, none⟩) 2 1) 2 (ints [0, 1]) := OwnI.made rfl
  obtain ⟨m2, z2, f2, n2, k2⟩ := o2.frz
  refine Ret.thaw z2 ?_
  have z12 := (Pz.new m1 (.cells [.int .i64 0, .int .i64 1] 3 true)).trans z2.pz
  refine gnew_ret (l := [0, 1]) (fp.pz z12) f2 (by decide) fun m3 g G3 z3 => ?_
  simp only [Nat.reduceAdd, reduceIte, Nat.reduceEqDiff, reduceCtorEq, opLen, Int.reduceLT, Int.reduceEq, opConvert, opIndexAddr, opLoad, Nat.reduceLT, undef, Nat.reduceLeDiff, Array.toList, bin_geq26, bin_mapn, bin_pnn, bin_pne, veq_map, bldE, wk4, wk5, wk0, fxC22GuestFull]
  refine gcall_ret (k := 0) (s := []) G3 rfl rfl (by decide) (by decide) FRow.nil (by decide) (by decide) (by decide) fun m4 a4 q4 b4 G4 z4 _ => ?_
  simp only [Nat.reduceAdd, reduceIte, Nat.reduceEqDiff, reduceCtorEq, opLen, Int.reduceLT, Int.reduceEq, opConvert, opIndexAddr, opLoad, Nat.reduceLT, undef, Nat.reduceLeDiff, Array.toList, bin_geq26, bin_mapn, bin_pnn, bin_pne, veq_map, bldE, wk4, wk5, wk0, fxC22GuestFull]
  have e4 : mput ([] : List (Int × (Nat × Int))) 3 (b4, 1) = [(3, (b4, 1))] := rfl
  refine tick_one (b := b4) (left := 1) G4 (by omega) (by decide) (fun _ m5 G5 z5 => ?_) (fun h => by omega) (fun h => by omega)
  simp only [Nat.reduceAdd, reduceIte, Nat.reduceEqDiff, reduceCtorEq, opLen, Int.reduceLT, Int.reduceEq, opConvert, opIndexAddr, opLoad, Nat.reduceLT, undef, Nat.reduceLeDiff, Array.toList, bin_geq26, bin_mapn, bin_pnn, bin_pne, veq_map, bldE, wk4, wk5, wk0, fxC22GuestFull]
  refine gresult_ret G5 (fun a ha => by
    have e : mget (mput ([] : List (Int × Ans)) 3 ⟨18, 0, []⟩) 3 = some ⟨18, 0, []⟩ := by simp [mput, mget]
    have e' : a = ⟨18, 0, []⟩ := by
      have := e.symm.trans ha
      simpa using this.symm
    rw [e']
    decide) fun m6 w r x6 o6 _ => ?_
  have e : mget (mput ([] : List (Int × Ans)) 3 ⟨18, 0, []⟩) 3 = some ⟨18, 0, []⟩ := by simp [mput, mget]
  have e' : mget (⟨9, 0, 1, [0, 1], [], mput [] 3 ⟨18, 0, []⟩, [3]⟩ : Gs).res 3 = some ⟨18, 0, []⟩ := e
  rw [e'] at o6 ⊢
  obtain ⟨wa, wq, rfl⟩ := o6.is
  have l2 : ((2 : Nat) : Int) = 2 := rfl
  have ls : (some (⟨18, 0, []⟩ : Ans)).isSome = true := rfl
  rw [ls]
  simp only [Nat.reduceAdd, reduceIte, Nat.reduceEqDiff, reduceCtorEq, opLen, Int.reduceLT, Int.reduceEq, opConvert, opIndexAddr, opLoad, Nat.reduceLT, undef, Nat.reduceLeDiff, Array.toList, bin_geq26, bin_mapn, bin_pnn, bin_pne, veq_map, bldE, wk4, wk5, wk0, fxC22GuestFull, l2]
  exact hK _ ((((((z1.trans z12).trans z3).trans z4).trans z5).trans x6.pz).trans ((Ext.new _ _).set (Nat.le_refl _)).pz)
theorem procOf {pr : Int} (h : 0 ≤ pr ∧ pr < 256) : ∃ k : Nat, k < 3 ∧ IntKind.i64.wrap (1 + IntKind.i64.wrap (pr.tmod 3)) = (k : Int) + 1 := by
  refine ⟨(pr % 3).toNat, by omega, ?_⟩
  rw [Int.tmod_eq_emod_of_nonneg h.1, wrap_i64 (n := pr % 3) (by omega) (by omega), wrap_i64 (by omega) (by omega)]
  omega
theorem guestfull_ret {m : Mem} {fr pr : Int} (hfr : 0 ≤ fr ∧ fr < 65536) (hpr : 0 ≤ pr ∧ pr < 256) : Ret Try.prog 4 [.int .u16 fr, .int .u8 pr] m fun v _ => v = .bool true := by
  refine ret_wp [] Try.func4 rfl (by decide) (by kernel_rfl) ?_
  simp only [Nat.reduceAdd, reduceIte, Nat.reduceEqDiff, reduceCtorEq, opLen, Int.reduceLT, Int.reduceEq, opConvert, opIndexAddr, opLoad, Nat.reduceLT, undef, Nat.reduceLeDiff, Array.toList, bin_geq26, bin_mapn, bin_pnn, bin_pne, veq_map, bldE, wk4, wk5, wk0, fxC22GuestFull]
  refine awake_ret fun m1 z1 => ?_
  simp only [Nat.reduceAdd, reduceIte, Nat.reduceEqDiff, reduceCtorEq, opLen, Int.reduceLT, Int.reduceEq, opConvert, opIndexAddr, opLoad, Nat.reduceLT, undef, Nat.reduceLeDiff, Array.toList, bin_geq26, bin_mapn, bin_pnn, bin_pne, veq_map, bldE, wk4, wk5, wk0, fxC22GuestFull]
  refine face_ret fun m2 pv z2 fp => ?_
  simp only [Nat.reduceAdd, reduceIte, Nat.reduceEqDiff, reduceCtorEq, opLen, Int.reduceLT, Int.reduceEq, opConvert, opIndexAddr, opLoad, Nat.reduceLT, undef, Nat.reduceLeDiff, Array.toList, bin_geq26, bin_mapn, bin_pnn, bin_pne, veq_map, bldE, wk4, wk5, wk0, fxC22GuestFull]
  refine gnew_ret (l := []) fp FRow.nil (by decide) fun m3 g G3 z3 => ?_
  simp only [Nat.reduceAdd, reduceIte, Nat.reduceEqDiff, reduceCtorEq, opLen, Int.reduceLT, Int.reduceEq, opConvert, opIndexAddr, opLoad, Nat.reduceLT, undef, Nat.reduceLeDiff, Array.toList, bin_geq26, bin_mapn, bin_pnn, bin_pne, veq_map, bldE, wk4, wk5, wk0, fxC22GuestFull]
  obtain ⟨k, hk, hpk⟩ := procOf hpr
  refine loop_wp [] (by kernel_rfl) (fun q env μ => ∃ (i : Nat) (opn : List (Int × (Nat × Int))) (order : List Int), q + i = 256 ∧ GAt μ g ⟨3, 1, 5, [], opn, [], order⟩ ∧ (∀ x, (∀ j : Nat, j < i → x ≠ (fr + j) % 65536) → mget opn x = none) ∧ (∀ j : Nat, j < i → (mget opn ((fr + j) % 65536)).isSome = true) ∧ opn.length = i ∧ order.length = i ∧ env 0 = some (.int .u16 fr) ∧ env 1 = some (.int .u8 pr) ∧ env 5 = some (.pointer (some ⟨g, 0, none⟩)) ∧ env 17 = some (.int .u16 i)) ?_ 256 ⟨0, [], [], rfl, G3, fun _ _ => rfl, fun j hj => by omega, rfl, rfl, rfl, rfl, rfl, rfl⟩
  rintro q env μ ⟨i, opn, order, hq, G, hno, hyes, hol, hdl, e0, e1, e5, e17⟩
  simp only [Nat.reduceAdd, reduceIte, Nat.reduceEqDiff, reduceCtorEq, opLen, Int.reduceLT, Int.reduceEq, opConvert, opIndexAddr, opLoad, Nat.reduceLT, undef, Nat.reduceLeDiff, Array.toList, bin_geq26, bin_mapn, bin_pnn, bin_pne, veq_map, bldE, wk4, wk5, wk0, fxC22GuestFull, e17]
  refine cond_by (fun hlt => ?_) (fun hge => ?_)
  · have hi : i < 256 := by omega
    obtain ⟨key, hkey⟩ : ∃ key, key = (fr + (i : Int)) % 65536 := ⟨_, rfl⟩
    have w1 : IntKind.u16.wrap (fr + (i : Int)) = key := by rw [u16_lo, hkey]
    have w2 : IntKind.u16.wrap ((i : Int) + 1) = ((i + 1 : Nat) : Int) := by rw [u16_lo]; omega
    have hnone : mget opn key = none := hno key fun j hj => by omega
    simp only [Nat.reduceAdd, reduceIte, Nat.reduceEqDiff, reduceCtorEq, opLen, Int.reduceLT, Int.reduceEq, opConvert, opIndexAddr, opLoad, Nat.reduceLT, undef, Nat.reduceLeDiff, Array.toList, bin_geq26, bin_mapn, bin_pnn, bin_pne, veq_map, bldE, wk4, wk5, wk0, fxC22GuestFull, e0, e1, e5, e17, w1, hpk]
    refine gcall_ret (k := k) (s := []) G rfl hnone rfl hk FRow.nil (by decide) (by show order.length < 256; omega) (by show 0 < 2 ^ 30; decide) fun m4 a4 q4 b4 G4 z4 _ => ?_
    simp only [Nat.reduceAdd, reduceIte, Nat.reduceEqDiff, reduceCtorEq, opLen, Int.reduceLT, Int.reduceEq, opConvert, opIndexAddr, opLoad, Nat.reduceLT, undef, Nat.reduceLeDiff, Array.toList, bin_geq26, bin_mapn, bin_pnn, bin_pne, veq_map, bldE, wk4, wk5, wk0, fxC22GuestFull, e0, e1, e5, e17, w2]
    refine ⟨q - 1, by omega, i + 1, mput opn key (b4, 5), order ++ [key], by omega, G4, fun x hx => ?_, fun j hj => ?_, ?_, ?_, rfl⟩
    · rw [mget_put, if_neg (by rw [hkey]; exact hx i (by omega))]
      exact hno x fun j hj => hx j (by omega)
    · rw [mget_put]
      by_cases h : (fr + (j : Int)) % 65536 = key
      · rw [if_pos h]; rfl
      · rw [if_neg h]
        refine hyes j ?_
        rcases Nat.lt_or_ge j i with h' | h'
        · exact h'
        · obtain rfl : j = i := by omega
          exact (h hkey.symm).elim
    · rw [mput_new hnone, List.length_append, hol]; rfl
    · rw [List.length_append, hdl]; rfl
  · obtain rfl : i = 256 := by omega
    obtain ⟨key, hkey⟩ : ∃ key, key = (fr + 256) % 65536 := ⟨_, rfl⟩
    have w1 : IntKind.u16.wrap (fr + 256) = key := by rw [u16_lo, hkey]
    have hnone : mget opn key = none := hno key fun j hj => by omega
    simp only [Nat.reduceAdd, reduceIte, Nat.reduceEqDiff, reduceCtorEq, opLen, Int.reduceLT, Int.reduceEq, opConvert, opIndexAddr, opLoad, Nat.reduceLT, undef, Nat.reduceLeDiff, Array.toList, bin_geq26, bin_mapn, bin_pnn, bin_pne, veq_map, bldE, wk4, wk5, wk0, fxC22GuestFull, e0, e1, e5, e17, w1]
    refine gcall_full (k := 0) (s := []) G rfl hnone (by decide) (by decide) FRow.nil (by decide) (by show 256 ≤ order.length; omega) fun m4 x4 => ?_
    simp only [Nat.reduceAdd, reduceIte, Nat.reduceEqDiff, reduceCtorEq, opLen, Int.reduceLT, Int.reduceEq, opConvert, opIndexAddr, opLoad, Nat.reduceLT, undef, Nat.reduceLeDiff, Array.toList, bin_geq26, bin_mapn, bin_pnn, bin_pne, veq_map, bldE, wk4, wk5, wk0, fxC22GuestFull, e0, e1, e5]
    have hy := hyes 0 (by omega)
    have e00 : (fr + ((0 : Nat) : Int)) % 65536 = fr := by omega
    rw [e00] at hy
    obtain ⟨p, hp⟩ := Option.isSome_iff_exists.1 hy
    refine gcall_twice (G.ext x4) rfl hp fun m5 x5 => ?_
    have G5 := (G.ext x4).ext x5
    simp only [Nat.reduceAdd, reduceIte, Nat.reduceEqDiff, reduceCtorEq, opLen, Int.reduceLT, Int.reduceEq, opConvert, opIndexAddr, opLoad, Nat.reduceLT, undef, Nat.reduceLeDiff, Array.toList, bin_geq26, bin_mapn, bin_pnn, bin_pne, veq_map, bldE, wk4, wk5, wk0, fxC22GuestFull, e5]
    refine gopen_ret G5 ?_
    have h1 : (⟨3, 1, 5, [], opn, [], order⟩ : Gs).opn.length = 256 := hol
    have h256 : ((256 : Nat) : Int) = 256 := rfl
    rw [h1]
    simp only [Nat.reduceAdd, reduceIte, Nat.reduceEqDiff, reduceCtorEq, opLen, Int.reduceLT, Int.reduceEq, opConvert, opIndexAddr, opLoad, Nat.reduceLT, undef, Nat.reduceLeDiff, Array.toList, bin_geq26, bin_mapn, bin_pnn, bin_pne, veq_map, bldE, wk4, wk5, wk0, fxC22GuestFull, e5, h256]
    refine gnums_ret G5 (by show order.length < _; omega) fun m6 a6 q6 x6 => ?_
    have h2 : (⟨3, 1, 5, [], opn, [], order⟩ : Gs).order.length = 256 := hdl
    rw [h2]
    simp only [Nat.reduceAdd, reduceIte, Nat.reduceEqDiff, reduceCtorEq, opLen, Int.reduceLT, Int.reduceEq, opConvert, opIndexAddr, opLoad, Nat.reduceLT, undef, Nat.reduceLeDiff, Array.toList, bin_geq26, bin_mapn, bin_pnn, bin_pne, veq_map, bldE, wk4, wk5, wk0, fxC22GuestFull, h256]
theorem guestFull_true {H : Type} {m : Mem} {xs : List Value} {ds : List (DataW H)} (hd : IsDs Try.prog 8 [22, 5] ds) (hl : LieAll Try.prog m [22, 5] ds xs) : Ret Try.prog 4 xs m fun v _ => v = .bool true := by
  obtain ⟨d0, dr, rfl, i0, hd⟩ := isDs_cons hd
  obtain ⟨d1, dr, rfl, i1, hd⟩ := isDs_cons hd
  obtain rfl := isDs_nil hd
  obtain ⟨v0, _, rfl, l0, v1, _, rfl, l1, rfl⟩ := hl
  obtain ⟨a, rfl, w1⟩ := lies_int (k := 7) Try.underlying22 i0 l0
  obtain ⟨b, rfl, w2⟩ := lies_int (k := 7) Try.underlying5 i1 l1
  exact guestfull_ret (wf_u16 w1) (wf_u8 w2)
end Go.Proofs.Ytimjcfaciiimmaa
