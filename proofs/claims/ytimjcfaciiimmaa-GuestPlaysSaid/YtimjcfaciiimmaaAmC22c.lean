/- A text of the abstract machine. -/

/- A guest: calls. -/
import Derived.Test.YtimjcfaciiimmaaAmC22b
import Derived.Test.YtimjcfaciiimmaaAmBun
set_option linter.unusedSimpArgs false
set_option linter.unusedVariables false
set_option maxRecDepth 100000
set_option maxHeartbeats 4000000
namespace Go.Proofs.Ytimjcfaciiimmaa
open Go Go.AM Go.AM.Crc Go.AM.Wire
theorem fxC22c : type_of% (And.intro (And.intro (And.intro (And.intro (And.intro (And.intro (And.intro @Try.underlying3 @Try.underlying4) (And.intro @Try.underlying5 @Try.underlying9)) (And.intro (And.intro @Try.underlying22 @Try.underlying23) (And.intro @Try.underlying25 (And.intro @Try.underlying26 @Try.underlying30)))) (And.intro (And.intro (And.intro @Try.underlying32 @Try.underlying34) (And.intro @Try.underlying35 @Try.underlying39)) (And.intro (And.intro @Try.underlying40 @Try.underlying45) (And.intro @Try.underlying56 (And.intro @Try.underlying62 @Try.underlying66))))) (And.intro (And.intro (And.intro (And.intro @Try.underlying72 @Try.underlying75) (And.intro @Try.underlying77 @Try.underlying83)) (And.intro (And.intro @Try.underlying85 @Try.underlying92) (And.intro @Try.underlying93 (And.intro @Try.underlying94 @Try.underlying98)))) (And.intro (And.intro (And.intro @ts3 @ts4) (And.intro @ts5 (And.intro @ts9 @ts22))) (And.intro (And.intro @ts23 @ts25) (And.intro @ts26 (And.intro @ts30 @ts32)))))) (And.intro (And.intro (And.intro (And.intro (And.intro @ts34 @ts35) (And.intro @ts39 @ts40)) (And.intro (And.intro @ts45 @ts56) (And.intro @ts62 (And.intro @ts66 @ts72)))) (And.intro (And.intro (And.intro @ts75 @ts77) (And.intro @ts83 @ts85)) (And.intro (And.intro @ts92 @ts93) (And.intro @ts94 (And.intro @ts98 @tz3))))) (And.intro (And.intro (And.intro (And.intro @tz4 @tz5) (And.intro @tz9 @tz22)) (And.intro (And.intro @tz23 @tz25) (And.intro @tz26 (And.intro @tz30 @tz32)))) (And.intro (And.intro (And.intro @tz34 @tz35) (And.intro @tz39 (And.intro @tz40 @tz45))) (And.intro (And.intro @tz56 @tz62) (And.intro @tz66 (And.intro @tz72 @tz75))))))) (And.intro (And.intro (And.intro (And.intro (And.intro (And.intro @tz77 @tz83) (And.intro @tz85 @tz92)) (And.intro (And.intro @tz93 @tz94) (And.intro @tz98 (And.intro @tb3 @tb4)))) (And.intro (And.intro (And.intro @tb5 @tb9) (And.intro @tb22 @tb23)) (And.intro (And.intro @tb25 @tb26) (And.intro @tb30 (And.intro @tb32 @tb34))))) (And.intro (And.intro (And.intro (And.intro @tb35 @tb39) (And.intro @tb40 @tb45)) (And.intro (And.intro @tb56 @tb62) (And.intro @tb66 (And.intro @tb72 @tb75)))) (And.intro (And.intro (And.intro @tb77 @tb83) (And.intro @tb85 (And.intro @tb92 @tb93))) (And.intro (And.intro @tb94 @tb98) (And.intro @fr7 (And.intro @fr8 @fr9)))))) (And.intro (And.intro (And.intro (And.intro (And.intro @fr10 @fr11) (And.intro @fr12 @fr13)) (And.intro (And.intro @fr14 @fr23) (And.intro @fr24 (And.intro @fr25 @fr26)))) (And.intro (And.intro (And.intro @bz39 @bz32) (And.intro @bz92 @al39)) (And.intro (And.intro @al32 @al92) (And.intro @al62 (And.intro @bz85 @fa32_0))))) (And.intro (And.intro (And.intro (And.intro @fa32_5 @fa39_0) (And.intro @fa39_1 @fa39_2)) (And.intro (And.intro @fa62_0 @fa62_1) (And.intro @fa62_2 (And.intro @fa85_0 @fa85_1)))) (And.intro (And.intro (And.intro @fa85_2 @fa85_3) (And.intro @fa85_4 (And.intro @fa85_5 @fa85_6))) (And.intro (And.intro @fa92_1 @fa92_4) (And.intro @fa92_5 (And.intro @fa98_0 @fa98_2)))))))) := (And.intro (And.intro (And.intro (And.intro (And.intro (And.intro (And.intro @Try.underlying3 @Try.underlying4) (And.intro @Try.underlying5 @Try.underlying9)) (And.intro (And.intro @Try.underlying22 @Try.underlying23) (And.intro @Try.underlying25 (And.intro @Try.underlying26 @Try.underlying30)))) (And.intro (And.intro (And.intro @Try.underlying32 @Try.underlying34) (And.intro @Try.underlying35 @Try.underlying39)) (And.intro (And.intro @Try.underlying40 @Try.underlying45) (And.intro @Try.underlying56 (And.intro @Try.underlying62 @Try.underlying66))))) (And.intro (And.intro (And.intro (And.intro @Try.underlying72 @Try.underlying75) (And.intro @Try.underlying77 @Try.underlying83)) (And.intro (And.intro @Try.underlying85 @Try.underlying92) (And.intro @Try.underlying93 (And.intro @Try.underlying94 @Try.underlying98)))) (And.intro (And.intro (And.intro @ts3 @ts4) (And.intro @ts5 (And.intro @ts9 @ts22))) (And.intro (And.intro @ts23 @ts25) (And.intro @ts26 (And.intro @ts30 @ts32)))))) (And.intro (And.intro (And.intro (And.intro (And.intro @ts34 @ts35) (And.intro @ts39 @ts40)) (And.intro (And.intro @ts45 @ts56) (And.intro @ts62 (And.intro @ts66 @ts72)))) (And.intro (And.intro (And.intro @ts75 @ts77) (And.intro @ts83 @ts85)) (And.intro (And.intro @ts92 @ts93) (And.intro @ts94 (And.intro @ts98 @tz3))))) (And.intro (And.intro (And.intro (And.intro @tz4 @tz5) (And.intro @tz9 @tz22)) (And.intro (And.intro @tz23 @tz25) (And.intro @tz26 (And.intro @tz30 @tz32)))) (And.intro (And.intro (And.intro @tz34 @tz35) (And.intro @tz39 (And.intro @tz40 @tz45))) (And.intro (And.intro @tz56 @tz62) (And.intro @tz66 (And.intro @tz72 @tz75))))))) (And.intro (And.intro (And.intro (And.intro (And.intro (And.intro @tz77 @tz83) (And.intro @tz85 @tz92)) (And.intro (And.intro @tz93 @tz94) (And.intro @tz98 (And.intro @tb3 @tb4)))) (And.intro (And.intro (And.intro @tb5 @tb9) (And.intro @tb22 @tb23)) (And.intro (And.intro @tb25 @tb26) (And.intro @tb30 (And.intro @tb32 @tb34))))) (And.intro (And.intro (And.intro (And.intro @tb35 @tb39) (And.intro @tb40 @tb45)) (And.intro (And.intro @tb56 @tb62) (And.intro @tb66 (And.intro @tb72 @tb75)))) (And.intro (And.intro (And.intro @tb77 @tb83) (And.intro @tb85 (And.intro @tb92 @tb93))) (And.intro (And.intro @tb94 @tb98) (And.intro @fr7 (And.intro @fr8 @fr9)))))) (And.intro (And.intro (And.intro (And.intro (And.intro @fr10 @fr11) (And.intro @fr12 @fr13)) (And.intro (And.intro @fr14 @fr23) (And.intro @fr24 (And.intro @fr25 @fr26)))) (And.intro (And.intro (And.intro @bz39 @bz32) (And.intro @bz92 @al39)) (And.intro (And.intro @al32 @al92) (And.intro @al62 (And.intro @bz85 @fa32_0))))) (And.intro (And.intro (And.intro (And.intro @fa32_5 @fa39_0) (And.intro @fa39_1 @fa39_2)) (And.intro (And.intro @fa62_0 @fa62_1) (And.intro @fa62_2 (And.intro @fa85_0 @fa85_1)))) (And.intro (And.intro (And.intro @fa85_2 @fa85_3) (And.intro @fa85_4 (And.intro @fa85_5 @fa85_6))) (And.intro (And.intro @fa92_1 @fa92_4) (And.intro @fa92_5 (And.intro @fa98_0 @fa98_2))))))))
theorem look_res {m : Mem} {rb : Nat} {s : List (Int × Ans)} {M : Mem} (h : MapIs m rb keyU (AnsR M) s) {n : Int} (hn : mget s n = none) : opLookup Try.prog 72 (.map (some rb)) (.int .u16 n) true m = some (.tuple #[ansV 0 0 (.slice none 0 0), .bool false]) :=
  h.absent (P := Try.prog) keyU_ok Try.underlying72 tz39 rfl hn true
theorem look_open {m : Mem} {ob : Nat} {s : List (Int × (Nat × Int))} (h : MapIs m ob keyU PtrR s) {n : Int} (hn : mget s n = none) : opLookup Try.prog 83 (.map (some ob)) (.int .u16 n) false m = some (.pointer none) :=
  h.absent (P := Try.prog) keyU_ok Try.underlying83 tz93 rfl hn false
theorem look_open_some {m : Mem} {ob : Nat} {s : List (Int × (Nat × Int))} (h : MapIs m ob keyU PtrR s) {n : Int} {p : Nat × Int} (hn : mget s n = some p) : opLookup Try.prog 83 (.map (some ob)) (.int .u16 n) false m = some (.pointer (some ⟨p.1, 0, none⟩)) := by
  obtain ⟨v, hv, e⟩ := h.lookup (P := Try.prog) keyU_ok Try.underlying83 hn false
  rw [hv] at e
  exact e
theorem gcall_twice {m : Mem} {g : Nat} {G : Gs} {n pr : Int} {av : Value} {p : Nat × Int} (H : GAt m g G) (hr : mget G.res n = none) (ho : mget G.opn n = some p) {K : Value → Mem → Prop} (hK : ∀ m', Ext m m' → K (.tuple #[.slice none 0 0, .int .i64 9]) m') : Ret Try.prog 10 [.pointer (some ⟨g, 0, none⟩), .int .u16 n, .int .i64 pr, av] m K := by
  obtain ⟨ob, rb, r, pv, sv, ov, H⟩ := H
  refine ret_wp [(9, [3]), (15, [0, 5])] Try.func10 rfl (by decide) (by kernel_rfl) ?_
  have gg := H.gg
  have l1 := look_res H.mr hr
  have x1 : Ext m ((m.new (.cells [.int .i64 0, .int .i64 0, .slice none 0 0] 39 true)).set m.next (.cells [.int .i64 0, .int .i64 0, .slice none 0 0] 39 true)) := (Ext.new _ _).set (Nat.le_refl _)
  have l2 := look_open_some (H.ext x1).mo ho
  have ng : ¬ g = m.next := by have := H.lg; omega
  simp only [wk6, Nat.reduceBEq, wk1, wk3, forall_eq, Nat.reduceAdd, reduceIte, Nat.reduceEqDiff, reduceCtorEq, opLen, Int.reduceLT, Int.reduceEq, opConvert, opIndexAddr, opLoad, Nat.reduceLT, undef, Nat.reduceLeDiff, Array.toList, bin_geq26, bin_mapn, bin_pnn, bin_pne, veq_map, bld66, bld98, bld56, bld62, one_u16, one_letter, no_ints, no_bytes, wk4, wk5, wk0, fxC22c, gg, l1, l2, ng]
  exact hK _ x1
theorem mput_mem {α : Type} {l : List (Int × α)} {k : Int} {v : α} : ∀ p ∈ mput l k v, p.2 = v ∨ p ∈ l := by
  induction l with
  | nil => intro p hp; simp only [mput, List.mem_singleton] at hp; exact .inl (by rw [hp])
  | cons x r ih =>
    intro p hp
    simp only [mput] at hp
    split at hp
    · rcases List.mem_cons.1 hp with h | h
      · exact .inl (by rw [h])
      · exact .inr (List.mem_cons_of_mem _ h)
    · rcases List.mem_cons.1 hp with h | h
      · exact .inr (by rw [h]; exact List.mem_cons_self ..)
      · rcases ih p h with h | h
        · exact .inl h
        · exact .inr (List.mem_cons_of_mem _ h)
theorem mapne {m : Mem} {a b : Nat} {x : List Value} {e : TypeId} {o : Bool} {es : List (Value × Value)} (h1 : m.get a = some (.cells x e o)) (h2 : m.get b = some (.map es)) : a ≠ b := by
  rintro rfl
  rw [h1] at h2
  cases h2
theorem celne {m : Mem} {a b : Nat} {x y : List Value} {e f : TypeId} {o o' : Bool} (h1 : m.get a = some (.cells x e o)) (h2 : m.get b = some (.cells y f o')) (hn : e ≠ f) : a ≠ b := by
  rintro rfl
  rw [h1] at h2
  simp only [Option.some.injEq, Blk.cells.injEq] at h2
  exact hn h2.2.1
theorem TcIs.keepN {m m' : Mem} {k i : Nat} {C : Tc} {mv nv av : Value} {rn ra : Nat} {cs : List Value} (H : TcIs m k i C mv nv av rn ra cs) (z : Pz m m') (hi : m'.get i = m.get i) (hn : nv ≠ .slice none 0 0 → rn < m.next → m'.get rn = m.get rn) (ha : av ≠ .slice none 0 0 → ra < m.next → m'.get ra = m.get ra) : TcIs m' k i C mv nv av rn ra cs := by
  obtain ⟨h1, h2, h3, h4, h5, h6, h7, h8, h9, h10, h11⟩ := H
  have := z.1
  exact ⟨hi.trans h1, h2.pz z, h3.keepN this hn, h4.keepN this ha, h5.mono (AnsC.pz z), h6, by omega, h8, h9, h10, h11⟩
theorem vqC {t n p : Int} {q : Option Addr} {k z : Nat} : veq (.agg #[.int .u16 t, .int .u16 n, .int .i64 p, .slice q k z]) (.agg #[.int .u16 t, .int .u16 n, .int .i64 p, .slice q k z]) = true := by simp [veq, veqList, veqCell]
theorem gcall_full {m : Mem} {g k : Nat} {G : Gs} {n pr : Int} {av : Value} {s : List Int} (H : GAt m g G) (hr : mget G.res n = none) (ho : mget G.opn n = none) (hp : pr = (k : Int) + 1) (hk : k < 3) (fa : FRow m av 1 s.length (byteCells s)) (hs : s.length ≤ 4000) (hor : 256 ≤ G.order.length) {K : Value → Mem → Prop}
    (hK : ∀ m', Ext m m' → K (.tuple #[.slice none 0 0, .int .i64 20]) m') : Ret Try.prog 10 [.pointer (some ⟨g, 0, none⟩), .int .u16 n, .int .i64 pr, av] m K := by
  obtain ⟨ob, rb, r, pv, sv, ov, H⟩ := H
  refine ret_wp [(9, [3]), (15, [0, 5])] Try.func10 rfl (by decide) (by kernel_rfl) ?_
  have gg := H.gg
  have l1 := look_res H.mr hr
  obtain ⟨m1, hm1⟩ : ∃ m1, m1 = (m.new (.cells [.int .i64 0, .int .i64 0, .slice none 0 0] 39 true)).set m.next (.cells [.int .i64 0, .int .i64 0, .slice none 0 0] 39 true) := ⟨_, rfl⟩
  have x1 : Ext m m1 := by rw [hm1]; exact (Ext.new _ _).set (Nat.le_refl _)
  have st1 := st_ans m 0 0 (.slice none 0 0) rfl
  rw [← hm1] at st1
  clear hm1
  have H1 := H.ext x1
  have gg1 := H1.gg
  have l2 := look_open H1.mo ho
  have lfa : opLoad Try.prog 32 (.pointer (some ⟨g, 2, none⟩)) m1 = some (faceV pv) := by
    have := load_agg (P := Try.prog) (t := 32) (sz := 6) (off := 2) gg1 (by simp only [aggOf, Try.underlying32]) ts32 (by simp)
    exact this
  have lmr : opLoad Try.prog 72 (.pointer (some ⟨g, 10, none⟩)) m = some (.map (some rb)) := load_cell gg (by simp only [aggOf, Try.underlying72]) rfl
  have lmo : ∀ M, M.get g = m.get g → opLoad Try.prog 83 (.pointer (some ⟨g, 9, none⟩)) M = some (.map (some ob)) := fun M h => load_cell (h.trans gg) (by simp only [aggOf, Try.underlying83]) rfl
  have lmo0 := lmo m rfl
  have lmo1 := lmo m1 (x1.2 g H.lg)
  simp only [wk6, Nat.reduceBEq, wk1, wk3, forall_eq, evOp, evParts, okVal, ev1, evs, evOpt, envOf, List.lookup_nil, List.size_toArray, List.length_cons, List.length_nil, List.range, List.range.loop, Nat.zero_add, Nat.reduceAdd, Bool.not_false, Bool.not_true, Bool.true_or, if_true, if_false, reduceIte, Nat.reduceEqDiff, reduceCtorEq, List.getElem?_toArray, List.getElem?_cons_zero, List.getElem?_cons_succ, guardOf, constOk, constCell, evBuiltin, opLen, List.head?_cons, foldV, min2V, max2V, Int.reduceLT, Int.reduceEq, Kend, resOf, Bool.false_eq_true, Bool.true_eq_false, IntKind.signed, IntKind.max, opConvert, opIndexAddr, aggOf, Option.some.injEq, Value.bool.injEq, exists_eq_left', true_and, forall_const, decide_eq_true_eq, decide_eq_false_iff_not, Int.natCast_nonneg, and_self, Int.toNat_natCast, Nat.mul_one, List.append_nil, beq_self_eq_true, Nat.lt_irrefl, Nat.zero_lt_succ, Nat.reduceLT, Option.bind_some, undef, opBox, Value.cells, setCells, Nat.reduceLeDiff, Array.toList, bin_geq26, bin_mapn, bin_pnn, bin_pne, veq_map, bld66, bld98, bld56, bld62, one_u16, one_letter, no_ints, no_bytes, wk5, wk0, fxC22c, lmo0, lmr, l1, st1, lmo1, l2, lfa]
  refine find_ret H1.fp hp hk fun m2 x2 => ?_
  have st2 : opStore Try.prog 92 (.pointer (some ⟨m2.next, 0, none⟩)) (procV G.time k) (m2.new (.cells [.string ⟨#[]⟩, .int .i64 0, .int .u8 0, .int .i64 0, .slice none 0 0, .slice none 0 0, .int .u8 0, .int .i64 0, .slice none 0 0, .slice none 0 0, .int .u8 0, .int .i64 0] 92 true)) = some ((m2.new (.cells [.string ⟨#[]⟩, .int .i64 0, .int .u8 0, .int .i64 0, .slice none 0 0, .slice none 0 0, .int .u8 0, .int .i64 0, .slice none 0 0, .slice none 0 0, .int .u8 0, .int .i64 0] 92 true)).set m2.next (.cells (procC G.time k) 92 true)) := by
    simp only [opStore, new_get, ts92, procV, procC, Value.cells]
    rfl
  obtain ⟨m3, hm3⟩ : ∃ m3, m3 = (m2.new (.cells [.string ⟨#[]⟩, .int .i64 0, .int .u8 0, .int .i64 0, .slice none 0 0, .slice none 0 0, .int .u8 0, .int .i64 0, .slice none 0 0, .slice none 0 0, .int .u8 0, .int .i64 0] 92 true)).set m2.next (.cells (procC G.time k) 92 true) := ⟨_, rfl⟩
  have x3 : Ext m2 m3 := by rw [hm3]; exact (Ext.new _ _).set (Nat.le_refl _)
  have g3 : m3.get m2.next = some (.cells (procC G.time k) 92 true) := by rw [hm3]; exact set_get _ _ _
  have n3 : m2.next < m3.next := by rw [hm3]; exact Nat.lt_succ_self _
  rw [← hm3] at st2
  clear hm3
  have x13 := x2.trans x3
  have H3 := H1.ext x13
  simp only [wk6, Nat.reduceBEq, wk1, wk3, forall_eq, evOp, evParts, okVal, ev1, evs, evOpt, envOf, List.lookup_nil, List.size_toArray, List.length_cons, List.length_nil, List.range, List.range.loop, Nat.zero_add, Nat.reduceAdd, Bool.not_false, Bool.not_true, Bool.true_or, if_true, if_false, reduceIte, Nat.reduceEqDiff, reduceCtorEq, List.getElem?_toArray, List.getElem?_cons_zero, List.getElem?_cons_succ, guardOf, constOk, constCell, evBuiltin, opLen, List.head?_cons, foldV, min2V, max2V, Int.reduceLT, Int.reduceEq, Kend, resOf, Bool.false_eq_true, Bool.true_eq_false, IntKind.signed, IntKind.max, opConvert, opIndexAddr, aggOf, Option.some.injEq, Value.bool.injEq, exists_eq_left', true_and, forall_const, decide_eq_true_eq, decide_eq_false_iff_not, Int.natCast_nonneg, and_self, Int.toNat_natCast, Nat.mul_one, List.append_nil, beq_self_eq_true, Nat.lt_irrefl, Nat.zero_lt_succ, Nat.reduceLT, Option.bind_some, undef, opBox, Value.cells, setCells, Nat.reduceLeDiff, Array.toList, bin_geq26, bin_mapn, bin_pnn, bin_pne, veq_map, bld66, bld98, bld56, bld62, one_u16, one_letter, no_ints, no_bytes, wk5, wk0, fxC22c, st2]
  refine Loose.by (fun y => y = g) ?_
  have gg3 := H3.gg
  have ltr : ∀ M, M.get g = m3.get g → opLoad Try.prog 22 (.pointer (some ⟨g, 1, none⟩)) M = some (.int .u16 G.troupe) := fun M h => load_cell (h.trans gg3) (by simp only [aggOf, Try.underlying22]) rfl
  have ltr3 := ltr m3 rfl
  have sha : Shows (m3.new (.cells [] 5 true)) av (byteCells s) := (fa.pz ((x1.trans x13).pz.trans (Pz.new _ _))).shows
  obtain ⟨m4, r4, q1, q2, q3, q4, x4⟩ := copy_row (P := Try.prog) wtc (added_bytes wtc sha) (by omega)
  have lg3 := H3.lg
  have nx4 := x4.1
  have hg3 : (m3.new (.cells [] 5 true)).get g = m3.get g := new_get_ne _ (by omega)
  have hg4 : m4.get g = m3.get g := x4.2 g lg3
  have st4 : opStore Try.prog 62 (.pointer (some ⟨m4.next, 0, none⟩)) (callV G.troupe n pr (.slice (some ⟨r4, 0, none⟩) s.length 1)) (m4.new (.cells [.int .u16 0, .int .u16 0, .int .i64 0, .slice none 0 0] 62 true)) = some ((m4.new (.cells [.int .u16 0, .int .u16 0, .int .i64 0, .slice none 0 0] 62 true)).set m4.next (.cells [.int .u16 G.troupe, .int .u16 n, .int .i64 pr, .slice (some ⟨r4, 0, none⟩) s.length 1] 62 true)) := by
    simp only [opStore, new_get, ts62, Value.cells]
    rfl
  obtain ⟨m5, hm5⟩ : ∃ m5, m5 = (m4.new (.cells [.int .u16 0, .int .u16 0, .int .i64 0, .slice none 0 0] 62 true)).set m4.next (.cells [.int .u16 G.troupe, .int .u16 n, .int .i64 pr, .slice (some ⟨r4, 0, none⟩) s.length 1] 62 true) := ⟨_, rfl⟩
  have hg4' : (m4.new (.cells [.int .u16 0, .int .u16 0, .int .i64 0, .slice none 0 0] 62 true)).get g = m4.get g := new_get_ne _ (by omega)
  have x5 : Ext m4 m5 := by rw [hm5]; exact (Ext.new _ _).set (Nat.le_refl _)
  have g5 : m5.get m4.next = some (.cells [.int .u16 G.troupe, .int .u16 n, .int .i64 pr, .slice (some ⟨r4, 0, none⟩) s.length 1] 62 true) := by rw [hm5]; exact set_get _ _ _
  have n5 : m4.next < m5.next := by rw [hm5]; exact Nat.lt_succ_self _
  rw [← hm5] at st4
  clear hm5
  have hg5 : m5.get g = m4.get g := x5.2 g (by omega)
  have l62 : ∀ M, Ext m5 M → opLoad Try.prog 62 (.pointer (some ⟨m4.next, 0, none⟩)) M = some (callV G.troupe n pr (.slice (some ⟨r4, 0, none⟩) s.length 1)) := fun M y => by
    simp only [opLoad, (y.2 m4.next n5).trans g5, aggOf, Try.underlying62, ts62]
    rfl
  have l625 := l62 m5 (Ext.refl _)
  have ng3 : ¬ g = m3.next := by omega
  have ng4 : ¬ g = m4.next := by omega
  simp only [wk6, Nat.reduceBEq, wk1, wk3, forall_eq, evOp, evParts, okVal, ev1, evs, evOpt, envOf, List.lookup_nil, List.size_toArray, List.length_cons, List.length_nil, List.range, List.range.loop, Nat.zero_add, Nat.reduceAdd, Bool.not_false, Bool.not_true, Bool.true_or, if_true, if_false, reduceIte, Nat.reduceEqDiff, reduceCtorEq, List.getElem?_toArray, List.getElem?_cons_zero, List.getElem?_cons_succ, guardOf, constOk, constCell, evBuiltin, opLen, List.head?_cons, foldV, min2V, max2V, Int.reduceLT, Int.reduceEq, Kend, resOf, Bool.false_eq_true, Bool.true_eq_false, IntKind.signed, IntKind.max, opConvert, opIndexAddr, aggOf, Option.some.injEq, Value.bool.injEq, exists_eq_left', true_and, forall_const, decide_eq_true_eq, decide_eq_false_iff_not, Int.natCast_nonneg, and_self, Int.toNat_natCast, Nat.mul_one, List.append_nil, beq_self_eq_true, Nat.lt_irrefl, Nat.zero_lt_succ, Nat.reduceLT, Option.bind_some, undef, opBox, Value.cells, setCells, Nat.reduceLeDiff, Array.toList, bin_geq26, bin_mapn, bin_pnn, bin_pne, veq_map, bld66, bld98, bld56, bld62, one_u16, one_letter, no_ints, no_bytes, wk5, wk0, fxC22c, ltr3, no_bytes, q1, hg3, hg4, hg4', st4, hg5, l625, ng3, ng4]
  refine callck_ret (k := s.length) (by simp only [opLen, Try.underlying23]) (by omega) hs fun m6 x6 => ?_
  have x36 := (x4.trans x5).trans x6
  have H6 := H3.ext x36
  have gg6 := H6.gg
  have lov : opLoad Try.prog 45 (.pointer (some ⟨g, 11, none⟩)) m6 = some ov := load_cell gg6 (by simp only [aggOf, Try.underlying45]) rfl
  have lo := H6.oo.len (P := Try.prog) Try.underlying45
  have hd : decide (256 ≤ (G.order.length : Int)) = true := decide_eq_true (by omega)
  simp only [wk6, Nat.reduceBEq, wk1, wk3, forall_eq, Nat.reduceAdd, reduceIte, Nat.reduceEqDiff, reduceCtorEq, Int.reduceLT, Int.reduceEq, opConvert, opIndexAddr, Nat.reduceLT, undef, Nat.reduceLeDiff, Array.toList, bin_geq26, bin_mapn, bin_pnn, bin_pne, veq_map, bld66, bld98, bld56, bld62, one_u16, one_letter, no_ints, no_bytes, wk4, wk5, wk0, fxC22c, lov, lo, hd]
  exact hK _ ((x1.trans x13).trans x36)
theorem gcall_ret {m : Mem} {g k : Nat} {G : Gs} {n pr : Int} {av : Value} {s : List Int} (H : GAt m g G) (hr : mget G.res n = none) (ho : mget G.opn n = none) (hp : pr = (k : Int) + 1) (hk : k < 3) (fa : FRow m av 1 s.length (byteCells s)) (hs : s.length ≤ 4000) (hor : G.order.length < 256) (hsv : G.servers.length < 2 ^ 30) {K : Value → Mem → Prop}
    (hK : ∀ m' a q b, GAt m' g { G with opn := mput G.opn n (b, G.time), order := G.order ++ [n] } → Pz m m' → (∃ tb kk u n' pr' a' k' z', m'.get b = some (.cells [.int .u16 u, .int .u16 n', .int .i64 pr', .slice a' k' z', .pointer (some ⟨tb, 0, none⟩), .int .i64 G.time] 98 true) ∧ TcAt m' kk tb ⟨k, 0, [], [], []⟩) → K (.tuple #[.slice a G.servers.length q, .int .i64 0]) m') : Ret Try.prog 10 [.pointer (some ⟨g, 0, none⟩), .int .u16 n, .int .i64 pr, av] m K := by
  refine Ret.pz ?_
  obtain ⟨ob, rb, r, pv, sv, ov, H⟩ := H
  refine ret_wp [(9, [3]), (15, [0, 5])] Try.func10 rfl (by decide) (by kernel_rfl) ?_
  have gg := H.gg
  have l1 := look_res H.mr hr
  obtain ⟨m1, hm1⟩ : ∃ m1, m1 = (m.new (.cells [.int .i64 0, .int .i64 0, .slice none 0 0] 39 true)).set m.next (.cells [.int .i64 0, .int .i64 0, .slice none 0 0] 39 true) := ⟨_, rfl⟩
  have x1 : Ext m m1 := by rw [hm1]; exact (Ext.new _ _).set (Nat.le_refl _)
  have st1 := st_ans m 0 0 (.slice none 0 0) rfl
  rw [← hm1] at st1
  clear hm1
  have H1 := H.ext x1
  have gg1 := H1.gg
  have l2 := look_open H1.mo ho
  have lfa : opLoad Try.prog 32 (.pointer (some ⟨g, 2, none⟩)) m1 = some (faceV pv) := by
    have := load_agg (P := Try.prog) (t := 32) (sz := 6) (off := 2) gg1 (by simp only [aggOf, Try.underlying32]) ts32 (by simp)
    exact this
  have lmr : opLoad Try.prog 72 (.pointer (some ⟨g, 10, none⟩)) m = some (.map (some rb)) := load_cell gg (by simp only [aggOf, Try.underlying72]) rfl
  have lmo : ∀ M, M.get g = m.get g → opLoad Try.prog 83 (.pointer (some ⟨g, 9, none⟩)) M = some (.map (some ob)) := fun M h => load_cell (h.trans gg) (by simp only [aggOf, Try.underlying83]) rfl
  have lmo0 := lmo m rfl
  have lmo1 := lmo m1 (x1.2 g H.lg)
  simp only [wk6, Nat.reduceBEq, wk1, wk3, forall_eq, evOp, evParts, okVal, ev1, evs, evOpt, envOf, List.lookup_nil, List.size_toArray, List.length_cons, List.length_nil, List.range, List.range.loop, Nat.zero_add, Nat.reduceAdd, Bool.not_false, Bool.not_true, Bool.true_or, if_true, if_false, reduceIte, Nat.reduceEqDiff, reduceCtorEq, List.getElem?_toArray, List.getElem?_cons_zero, List.getElem?_cons_succ, guardOf, constOk, constCell, evBuiltin, opLen, List.head?_cons, foldV, min2V, max2V, Int.reduceLT, Int.reduceEq, Kend, resOf, Bool.false_eq_true, Bool.true_eq_false, IntKind.signed, IntKind.max, opConvert, opIndexAddr, aggOf, Option.some.injEq, Value.bool.injEq, exists_eq_left', true_and, forall_const, decide_eq_true_eq, decide_eq_false_iff_not, Int.natCast_nonneg, and_self, Int.toNat_natCast, Nat.mul_one, List.append_nil, beq_self_eq_true, Nat.lt_irrefl, Nat.zero_lt_succ, Nat.reduceLT, Option.bind_some, undef, opBox, Value.cells, setCells, Nat.reduceLeDiff, Array.toList, bin_geq26, bin_mapn, bin_pnn, bin_pne, veq_map, bld66, bld98, bld56, bld62, one_u16, one_letter, no_ints, no_bytes, wk5, wk0, fxC22c, lmo0, lmr, l1, st1, lmo1, l2, lfa]
  refine find_ret H1.fp hp hk fun m2 x2 => ?_
  have st2 : opStore Try.prog 92 (.pointer (some ⟨m2.next, 0, none⟩)) (procV G.time k) (m2.new (.cells [.string ⟨#[]⟩, .int .i64 0, .int .u8 0, .int .i64 0, .slice none 0 0, .slice none 0 0, .int .u8 0, .int .i64 0, .slice none 0 0, .slice none 0 0, .int .u8 0, .int .i64 0] 92 true)) = some ((m2.new (.cells [.string ⟨#[]⟩, .int .i64 0, .int .u8 0, .int .i64 0, .slice none 0 0, .slice none 0 0, .int .u8 0, .int .i64 0, .slice none 0 0, .slice none 0 0, .int .u8 0, .int .i64 0] 92 true)).set m2.next (.cells (procC G.time k) 92 true)) := by
    simp only [opStore, new_get, ts92, procV, procC, Value.cells]
    rfl
  obtain ⟨m3, hm3⟩ : ∃ m3, m3 = (m2.new (.cells [.string ⟨#[]⟩, .int .i64 0, .int .u8 0, .int .i64 0, .slice none 0 0, .slice none 0 0, .int .u8 0, .int .i64 0, .slice none 0 0, .slice none 0 0, .int .u8 0, .int .i64 0] 92 true)).set m2.next (.cells (procC G.time k) 92 true) := ⟨_, rfl⟩
  have x3 : Ext m2 m3 := by rw [hm3]; exact (Ext.new _ _).set (Nat.le_refl _)
  have g3 : m3.get m2.next = some (.cells (procC G.time k) 92 true) := by rw [hm3]; exact set_get _ _ _
  have n3 : m2.next < m3.next := by rw [hm3]; exact Nat.lt_succ_self _
  rw [← hm3] at st2
  clear hm3
  have x13 := x2.trans x3
  have H3 := H1.ext x13
  simp only [wk6, Nat.reduceBEq, wk1, wk3, forall_eq, evOp, evParts, okVal, ev1, evs, evOpt, envOf, List.lookup_nil, List.size_toArray, List.length_cons, List.length_nil, List.range, List.range.loop, Nat.zero_add, Nat.reduceAdd, Bool.not_false, Bool.not_true, Bool.true_or, if_true, if_false, reduceIte, Nat.reduceEqDiff, reduceCtorEq, List.getElem?_toArray, List.getElem?_cons_zero, List.getElem?_cons_succ, guardOf, constOk, constCell, evBuiltin, opLen, List.head?_cons, foldV, min2V, max2V, Int.reduceLT, Int.reduceEq, Kend, resOf, Bool.false_eq_true, Bool.true_eq_false, IntKind.signed, IntKind.max, opConvert, opIndexAddr, aggOf, Option.some.injEq, Value.bool.injEq, exists_eq_left', true_and, forall_const, decide_eq_true_eq, decide_eq_false_iff_not, Int.natCast_nonneg, and_self, Int.toNat_natCast, Nat.mul_one, List.append_nil, beq_self_eq_true, Nat.lt_irrefl, Nat.zero_lt_succ, Nat.reduceLT, Option.bind_some, undef, opBox, Value.cells, setCells, Nat.reduceLeDiff, Array.toList, bin_geq26, bin_mapn, bin_pnn, bin_pne, veq_map, bld66, bld98, bld56, bld62, one_u16, one_letter, no_ints, no_bytes, wk5, wk0, fxC22c, st2]
  refine Loose.by (fun y => y = g) ?_
  have gg3 := H3.gg
  have ltr : ∀ M, M.get g = m3.get g → opLoad Try.prog 22 (.pointer (some ⟨g, 1, none⟩)) M = some (.int .u16 G.troupe) := fun M h => load_cell (h.trans gg3) (by simp only [aggOf, Try.underlying22]) rfl
  have ltr3 := ltr m3 rfl
  have sha : Shows (m3.new (.cells [] 5 true)) av (byteCells s) := (fa.pz ((x1.trans x13).pz.trans (Pz.new _ _))).shows
  obtain ⟨m4, r4, q1, q2, q3, q4, x4⟩ := copy_row (P := Try.prog) wtc (added_bytes wtc sha) (by omega)
  have lg3 := H3.lg
  have nx4 := x4.1
  have hg3 : (m3.new (.cells [] 5 true)).get g = m3.get g := new_get_ne _ (by omega)
  have hg4 : m4.get g = m3.get g := x4.2 g lg3
  have st4 : opStore Try.prog 62 (.pointer (some ⟨m4.next, 0, none⟩)) (callV G.troupe n pr (.slice (some ⟨r4, 0, none⟩) s.length 1)) (m4.new (.cells [.int .u16 0, .int .u16 0, .int .i64 0, .slice none 0 0] 62 true)) = some ((m4.new (.cells [.int .u16 0, .int .u16 0, .int .i64 0, .slice none 0 0] 62 true)).set m4.next (.cells [.int .u16 G.troupe, .int .u16 n, .int .i64 pr, .slice (some ⟨r4, 0, none⟩) s.length 1] 62 true)) := by
    simp only [opStore, new_get, ts62, Value.cells]
    rfl
  obtain ⟨m5, hm5⟩ : ∃ m5, m5 = (m4.new (.cells [.int .u16 0, .int .u16 0, .int .i64 0, .slice none 0 0] 62 true)).set m4.next (.cells [.int .u16 G.troupe, .int .u16 n, .int .i64 pr, .slice (some ⟨r4, 0, none⟩) s.length 1] 62 true) := ⟨_, rfl⟩
  have hg4' : (m4.new (.cells [.int .u16 0, .int .u16 0, .int .i64 0, .slice none 0 0] 62 true)).get g = m4.get g := new_get_ne _ (by omega)
  have x5 : Ext m4 m5 := by rw [hm5]; exact (Ext.new _ _).set (Nat.le_refl _)
  have g5 : m5.get m4.next = some (.cells [.int .u16 G.troupe, .int .u16 n, .int .i64 pr, .slice (some ⟨r4, 0, none⟩) s.length 1] 62 true) := by rw [hm5]; exact set_get _ _ _
  have n5 : m4.next < m5.next := by rw [hm5]; exact Nat.lt_succ_self _
  rw [← hm5] at st4
  clear hm5
  have hg5 : m5.get g = m4.get g := x5.2 g (by omega)
  have l62 : ∀ M, Ext m5 M → opLoad Try.prog 62 (.pointer (some ⟨m4.next, 0, none⟩)) M = some (callV G.troupe n pr (.slice (some ⟨r4, 0, none⟩) s.length 1)) := fun M y => by
    simp only [opLoad, (y.2 m4.next n5).trans g5, aggOf, Try.underlying62, ts62]
    rfl
  have l625 := l62 m5 (Ext.refl _)
  have ng3 : ¬ g = m3.next := by omega
  have ng4 : ¬ g = m4.next := by omega
  simp only [wk6, Nat.reduceBEq, wk1, wk3, forall_eq, evOp, evParts, okVal, ev1, evs, evOpt, envOf, List.lookup_nil, List.size_toArray, List.length_cons, List.length_nil, List.range, List.range.loop, Nat.zero_add, Nat.reduceAdd, Bool.not_false, Bool.not_true, Bool.true_or, if_true, if_false, reduceIte, Nat.reduceEqDiff, reduceCtorEq, List.getElem?_toArray, List.getElem?_cons_zero, List.getElem?_cons_succ, guardOf, constOk, constCell, evBuiltin, opLen, List.head?_cons, foldV, min2V, max2V, Int.reduceLT, Int.reduceEq, Kend, resOf, Bool.false_eq_true, Bool.true_eq_false, IntKind.signed, IntKind.max, opConvert, opIndexAddr, aggOf, Option.some.injEq, Value.bool.injEq, exists_eq_left', true_and, forall_const, decide_eq_true_eq, decide_eq_false_iff_not, Int.natCast_nonneg, and_self, Int.toNat_natCast, Nat.mul_one, List.append_nil, beq_self_eq_true, Nat.lt_irrefl, Nat.zero_lt_succ, Nat.reduceLT, Option.bind_some, undef, opBox, Value.cells, setCells, Nat.reduceLeDiff, Array.toList, bin_geq26, bin_mapn, bin_pnn, bin_pne, veq_map, bld66, bld98, bld56, bld62, one_u16, one_letter, no_ints, no_bytes, wk5, wk0, fxC22c, ltr3, no_bytes, q1, hg3, hg4, hg4', st4, hg5, l625, ng3, ng4]
  refine callck_ret (k := s.length) (by simp only [opLen, Try.underlying23]) (by omega) hs fun m6 x6 => ?_
  have x36 := (x4.trans x5).trans x6
  have H6 := H3.ext x36
  have gg6 := H6.gg
  have lov : opLoad Try.prog 45 (.pointer (some ⟨g, 11, none⟩)) m6 = some ov := load_cell gg6 (by simp only [aggOf, Try.underlying45]) rfl
  have lo := H6.oo.len (P := Try.prog) Try.underlying45
  have hd : decide (256 ≤ (G.order.length : Int)) = false := decide_eq_false (by omega)
  simp only [wk6, Nat.reduceBEq, wk1, wk3, forall_eq, Nat.reduceAdd, reduceIte, Nat.reduceEqDiff, reduceCtorEq, Int.reduceLT, Int.reduceEq, opConvert, opIndexAddr, Nat.reduceLT, undef, Nat.reduceLeDiff, Array.toList, bin_geq26, bin_mapn, bin_pnn, bin_pne, veq_map, bld66, bld98, bld56, bld62, one_u16, one_letter, no_ints, no_bytes, wk4, wk5, wk0, fxC22c, lov, lo, hd]
  refine Loose.by (fun y => y = m4.next ∨ y = m2.next) ?_
  have g26 := (x36.2 m2.next n3).trans g3
  have l626 := l62 m6 x6
  have nx6 := x6.1
  have lco : opLoad Try.prog 77 (.pointer (some ⟨m2.next, 10, none⟩)) m6 = some (.int .u8 k) := load_cell g26 (by simp only [aggOf, Try.underlying77, Try.underlying5]) rfl
  simp only [wk6, Nat.reduceBEq, wk1, wk3, forall_eq, Nat.reduceAdd, reduceIte, Nat.reduceEqDiff, reduceCtorEq, opLen, Int.reduceLT, Int.reduceEq, opConvert, opIndexAddr, Nat.reduceLT, undef, Nat.reduceLeDiff, Array.toList, bin_geq26, bin_mapn, bin_pnn, bin_pne, veq_map, bld66, bld98, bld56, bld62, one_u16, one_letter, no_ints, no_bytes, wk4, wk5, wk0, fxC22c, l626, lco, vqC, true_or, or_true]
  refine cnew_ret fun m7 T7 x7 => ?_
  have nx7 := x7.1
  have g27 := (x7.2 m2.next (by omega)).trans g26
  have lti : opLoad Try.prog 3 (.pointer (some ⟨m2.next, 11, none⟩)) m7 = some (.int .i64 G.time) := load_cell g27 (by simp only [aggOf, Try.underlying3]) rfl
  have h47 : m7.get m4.next = m6.get m4.next := x7.2 _ (by omega)
  have h27 : m7.get m2.next = m6.get m2.next := x7.2 _ (by omega)
  have ne4 : ¬ m4.next = m7.next := by omega
  have ne2 : ¬ m2.next = m7.next := by omega
  simp only [wk6, Nat.reduceBEq, wk1, wk3, forall_eq, Nat.reduceAdd, reduceIte, Nat.reduceEqDiff, reduceCtorEq, opLen, Int.reduceLT, Int.reduceEq, opConvert, opIndexAddr, Nat.reduceLT, undef, Nat.reduceLeDiff, Array.toList, bin_geq26, bin_mapn, bin_pnn, bin_pne, veq_map, bld66, bld98, bld56, bld62, one_u16, one_letter, no_ints, no_bytes, wk4, wk5, wk0, fxC22c, h47, h27, lti, bld98, ne4, ne2, true_or, or_true]
  have H7 := H6.ext x7
  obtain ⟨tb, htb⟩ : ∃ tb, tb = m6.next := ⟨_, rfl⟩
  rw [← htb] at T7 ⊢
  obtain ⟨tmv, tnv, tav, trn, tra, tcs, T7⟩ := T7
  have x8 := Ext.new m7 (.cells [.int .u16 G.troupe, .int .u16 n, .int .i64 pr, .slice (some ⟨r4, 0, none⟩) s.length 1, .pointer (some ⟨tb, 0, none⟩), .int .i64 G.time] 98 true)
  have g8 := new_get m7 (.cells [.int .u16 G.troupe, .int .u16 n, .int .i64 pr, .slice (some ⟨r4, 0, none⟩) s.length 1, .pointer (some ⟨tb, 0, none⟩), .int .i64 G.time] 98 true)
  have n8 : (m7.new (.cells [.int .u16 G.troupe, .int .u16 n, .int .i64 pr, .slice (some ⟨r4, 0, none⟩) s.length 1, .pointer (some ⟨tb, 0, none⟩), .int .i64 G.time] 98 true)).next = m7.next + 1 := rfl
  generalize m7.new (.cells [.int .u16 G.troupe, .int .u16 n, .int .i64 pr, .slice (some ⟨r4, 0, none⟩) s.length 1, .pointer (some ⟨tb, 0, none⟩), .int .i64 G.time] 98 true) = m8 at x8 g8 n8 ⊢
  have H8 := H7.ext x8
  have T8 := T7.ext x8
  have z08 : Pz m m8 := (((x1.trans x13).trans x36).trans (x7.trans x8)).pz
  obtain ⟨pb, hpb⟩ : ∃ pb, pb = m7.next := ⟨_, rfl⟩
  rw [← hpb] at g8 n8 ⊢
  have hpb8 : pb < m8.next := by omega
  clear hpb x8 h47 h27 ne4 ne2 lti g27 x7 nx7 l626 lco g26 nx6 gg6 lov hg3 hg4 hg4' hg5 l62 l625 g5 n5 ltr ltr3 gg3 g3 n3 lmo lmo0 lmo1 lmr lfa l1 l2 gg gg1 st1 st2 st4 q1 q2 q3 q4 sha
  obtain ⟨es0, hob, _⟩ := id H8.mo
  obtain ⟨es1, hrb, _⟩ := id H8.mr
  have gg8 := H8.gg
  have lmo8 : opLoad Try.prog 83 (.pointer (some ⟨g, 9, none⟩)) m8 = some (.map (some ob)) := load_cell gg8 (by simp only [aggOf, Try.underlying83]) rfl
  obtain ⟨es, w1, w2⟩ := H8.mo.update (P := Try.prog) (v := .pointer (some ⟨pb, 0, none⟩)) keyU_ok Try.underlying83 n (a := (pb, G.time)) rfl
  obtain ⟨m9, hm9⟩ : ∃ m9, m9 = m8.set ob (.map es) := ⟨_, rfl⟩
  have k9 : ∀ j, j ≠ ob → m9.get j = m8.get j := fun j hj => by rw [hm9]; exact set_get_ne _ hj
  have n9 : m9.next = m8.next := by rw [hm9]; rfl
  have z9 : Pz m8 m9 := by rw [hm9]; exact Pz.mset hob _
  rw [← hm9] at w1 w2
  clear hm9
  have hgo : g ≠ ob := mapne gg8 hob
  have hgr : g ≠ rb := mapne gg8 hrb
  have gg9 := (k9 g hgo).trans gg8
  have lov9 : opLoad Try.prog 45 (.pointer (some ⟨g, 11, none⟩)) m9 = some ov := load_cell gg9 (by simp only [aggOf, Try.underlying45]) rfl
  have o9 : OwnI r 22 1 m9 ov G.order.length (nums G.order) := H8.oo.keep (by omega) fun _ => k9 r H8.ro
  have sn : ShowsR 1 (m9.new (.cells [.int .u16 n] 22 true)) (.slice (some ⟨m9.next, 0, none⟩) 1 1) 1 [.int .u16 n] := ⟨_, _, rfl, by simp [shown, new_get], rfl⟩
  obtain ⟨oa, oq, m10, r10, p10, o10, n10a, n10b, f10⟩ := (o9.ext (Ext.new m9 (.cells [.int .u16 n] 22 true))).push (P := Try.prog) (t := 45) (tx := 45) Try.underlying45 ⟨_, Try.underlying45⟩ ts22 (by decide) tz22 tb22 (by decide) rfl rfl sn (by omega)
  simp only [new_next] at n10a n10b f10
  have f10' : ∀ j, j < m9.next → (j = r → ov = .slice none 0 0) → m10.get j = m9.get j := fun j h1 h2 => by rw [f10 j (by omega) h2, new_get_ne _ (by omega)]
  have z10 : Pz m9 m10 := (Pz.new _ _).trans (st_append p10).pz
  have lg8 := H8.lg
  have lo8 := H8.lo
  have lr8 := H8.lr
  have gg10 : m10.get g = some (.cells (gCells G pv sv ob rb ov) 85 true) := by rw [f10' g (by omega) (fun h => (H8.rg h.symm).elim), gg9]
  obtain ⟨m11, hm11⟩ : ∃ m11, m11 = m10.set g (.cells (gCells G pv sv ob rb (.slice oa (G.order.length + 1) oq)) 85 true) := ⟨_, rfl⟩
  have st11 : opStore Try.prog 45 (.pointer (some ⟨g, 11, none⟩)) (.slice oa (G.order.length + 1) oq) m10 = some m11 := by
    rw [hm11]
    exact store_one (P := Try.prog) gg10 ts45 rfl (by simp)
  have k11 : ∀ j, j ≠ g → m11.get j = m10.get j := fun j hj => by rw [hm11]; exact set_get_ne _ hj
  have gg11 : m11.get g = some (.cells (gCells G pv sv ob rb (.slice oa (G.order.length + 1) oq)) 85 true) := by rw [hm11]; exact set_get _ _ _
  have n11 : m11.next = m10.next := by rw [hm11]; rfl
  have z11 : Pz m10 m11 := by rw [hm11]; exact Pz.set gg10 _
  clear hm11
  have z811 := (z9.trans z10).trans z11
  have old' : ∀ j x e o, m8.get j = some (.cells x e o) → j < m8.next → e ≠ 85 → e ≠ 22 → m11.get j = m8.get j := fun j x e o hj hlt h85 h22 => by
    rw [k11 j (celne hj gg8 h85), f10' j (by omega) (fun h => by
      obtain ⟨_, ⟨_, h'⟩ | ⟨_, _, h'⟩⟩ := H8.oo
      · exact h'
      · exact (celne hj h' h22 h).elim), k9 j (mapne hj hob)]
  have old : ∀ j x, m8.get j = some (.cells x 98 true) → j < m8.next → m11.get j = m8.get j := fun j x hj hlt => old' j x 98 true hj hlt (by decide) (by decide)
  have T11 : TcAt m11 tb tb ⟨k, 0, [], [], []⟩ := by
    refine ⟨_, _, _, _, _, _, T8.keepN z811 (old' tb _ _ _ T8.gi T8.li.2 (by decide) (by decide)) (fun hv hlt => ?_) (fun hv hlt => ?_)⟩
    · obtain ⟨_, ⟨_, h'⟩ | ⟨_, _, h'⟩⟩ := T8.on
      · exact (hv h').elim
      · exact old' _ _ _ _ h' hlt (by decide) (by decide)
    · obtain ⟨_, ⟨_, h'⟩ | ⟨_, _, h'⟩⟩ := T8.oa
      · exact (hv h').elim
      · exact old' _ _ _ _ h' hlt (by decide) (by decide)
  have G11 : GIs m11 g { G with opn := mput G.opn n (pb, G.time), order := G.order ++ [n] } ob rb r10 pv sv (.slice oa (G.order.length + 1) oq) := by
    refine ⟨gg11, H8.fp.pz z811, H8.fs.pz z811, w2.keep ?_, (H8.mr.keep ?_).mono (AnsR.pz z811), ?_, fun p hp => ?_, by omega, by omega, by omega, H8.ne, by omega, by omega, by omega⟩
    · rw [k11 ob (fun h => hgo h.symm), f10' ob (by omega) (fun h => (H8.ro h.symm).elim)]
    · rw [k11 rb (fun h => hgr h.symm), f10' rb (by omega) (fun h => (H8.rr h.symm).elim), k9 rb (fun h => H8.ne h.symm)]
    · show OwnI r10 22 1 m11 _ (G.order ++ [n]).length (nums (G.order ++ [n]))
      rw [List.length_append]
      have : nums (G.order ++ [n]) = nums G.order ++ [.int .u16 n] := List.map_append
      rw [this]
      exact o10.keep (by omega) fun _ => k11 r10 (by omega)
    · rcases mput_mem p hp with h | h
      · rw [h]
        exact ⟨by show pb < m11.next; omega, _, _, _, _, _, _, _, (old pb _ g8 hpb8).trans g8⟩
      · obtain ⟨q1, u, n', pr', a, k', z, tp, q2⟩ := H8.pe p h
        exact ⟨by omega, u, n', pr', a, k', z, tp, (old _ _ q2 q1).trans q2⟩
  have P11 : PendIs m11 pb G.time := ⟨by omega, _, _, _, _, _, _, _, (old pb _ g8 hpb8).trans g8⟩
  simp only [wk6, Nat.reduceBEq, wk1, wk3, forall_eq, evOp, evParts, okVal, ev1, evs, evOpt, envOf, List.lookup_nil, List.size_toArray, List.length_cons, List.length_nil, List.range, List.range.loop, Nat.zero_add, Nat.reduceAdd, Bool.not_false, Bool.not_true, Bool.true_or, if_true, if_false, reduceIte, Nat.reduceEqDiff, reduceCtorEq, List.getElem?_toArray, List.getElem?_cons_zero, List.getElem?_cons_succ, guardOf, constOk, constCell, evBuiltin, opLen, List.head?_cons, foldV, min2V, max2V, Int.reduceLT, Int.reduceEq, Kend, resOf, Bool.false_eq_true, Bool.true_eq_false, IntKind.signed, IntKind.max, opConvert, opIndexAddr, aggOf, Option.some.injEq, Value.bool.injEq, exists_eq_left', true_and, forall_const, decide_eq_true_eq, decide_eq_false_iff_not, Int.natCast_nonneg, and_self, Int.toNat_natCast, Nat.mul_one, List.append_nil, beq_self_eq_true, Nat.lt_irrefl, Nat.zero_lt_succ, Nat.reduceLT, Option.bind_some, undef, opBox, Value.cells, setCells, Nat.reduceLeDiff, Array.toList, bin_geq26, bin_mapn, bin_pnn, bin_pne, veq_map, bld66, bld98, bld56, bld62, one_u16, one_letter, no_ints, no_bytes, wk5, wk0, fxC22c, lmo8, w1, lov9, one_u16, p10, st11, true_or, or_true]
  refine ask_ret G11 P11 hsv fun m12 w r12 cs x12 o12 _ => ?_
  obtain ⟨wa, wq, rfl⟩ := o12.is
  simp only [wk6, Nat.reduceBEq, wk1, wk3, forall_eq, Nat.reduceAdd, reduceIte, Nat.reduceEqDiff, reduceCtorEq, opLen, Int.reduceLT, Int.reduceEq, opConvert, opIndexAddr, opLoad, Nat.reduceLT, undef, Nat.reduceLeDiff, Array.toList, bin_geq26, bin_mapn, bin_pnn, bin_pne, veq_map, bld66, bld98, bld56, bld62, one_u16, one_letter, no_ints, no_bytes, wk4, wk5, wk0, fxC22c]
  exact fun zz => hK m12 wa wq pb ⟨_, _, _, _, _, _, G11.ext x12⟩ zz ⟨tb, tb, _, _, _, _, _, _, (x12.2 pb P11.1).trans ((old pb _ g8 hpb8).trans g8), T11.ext x12⟩
end Go.Proofs.Ytimjcfaciiimmaa
