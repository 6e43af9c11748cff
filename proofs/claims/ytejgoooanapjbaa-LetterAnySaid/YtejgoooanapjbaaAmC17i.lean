/- A text of the abstract machine. -/






/- Letters: what of one stands, whether it may be. -/
import Derived.Test.YtejgoooanapjbaaAmC17h
import Derived.Test.YtejgoooanapjbaaAmBun
set_option linter.unusedSimpArgs false
set_option linter.unusedVariables false
set_option maxRecDepth 100000
set_option maxHeartbeats 4000000
namespace Go.Proofs.Ytejgoooanapjbaa
open Go Go.AM Go.AM.Crc Go.AM.Wire
theorem fxC17i : type_of% (And.intro (And.intro (And.intro (And.intro (And.intro (And.intro (And.intro @Try.underlying3 (And.intro @Try.underlying4 @Try.underlying5)) (And.intro (And.intro @Try.underlying9 @Try.underlying42) (And.intro @Try.underlying46 @Try.underlying47))) (And.intro (And.intro @Try.underlying123 (And.intro @Try.underlying23 @Try.underlying26)) (And.intro (And.intro @Try.underlying28 @Try.underlying39) (And.intro @Try.underlying41 @Try.underlying44)))) (And.intro (And.intro (And.intro @Try.underlying24 (And.intro @Try.underlying37 @Try.underlying22)) (And.intro (And.intro @Try.underlying0 @Try.underlying100) (And.intro @Try.underlying66 @Try.underlying68))) (And.intro (And.intro (And.intro @Try.underlying78 @Try.underlying103) (And.intro @Try.underlying49 @Try.underlying34)) (And.intro (And.intro @Try.underlying36 @Try.underlying51) (And.intro @Try.underlying53 @Try.underlying55))))) (And.intro (And.intro (And.intro (And.intro @Try.underlying88 (And.intro @Try.underlying32 @Try.underlying30)) (And.intro (And.intro @Try.underlying61 @Try.underlying63) (And.intro @Try.underlying90 @Try.underlying92))) (And.intro (And.intro @Try.underlying94 (And.intro @ts3 @ts4)) (And.intro (And.intro @ts5 @ts9) (And.intro @ts42 @ts46)))) (And.intro (And.intro (And.intro @ts47 (And.intro @ts123 @ts23)) (And.intro (And.intro @ts26 @ts28) (And.intro @ts39 @ts41))) (And.intro (And.intro (And.intro @ts44 @ts24) (And.intro @ts37 @ts22)) (And.intro (And.intro @ts0 @ts100) (And.intro @ts66 @ts68)))))) (And.intro (And.intro (And.intro (And.intro (And.intro @ts78 (And.intro @ts103 @ts49)) (And.intro (And.intro @ts34 @ts36) (And.intro @ts51 @ts53))) (And.intro (And.intro @ts55 (And.intro @ts88 @ts32)) (And.intro (And.intro @ts30 @ts61) (And.intro @ts63 @ts90)))) (And.intro (And.intro (And.intro @ts92 (And.intro @ts94 @tz3)) (And.intro (And.intro @tz4 @tz5) (And.intro @tz9 @tz42))) (And.intro (And.intro (And.intro @tz46 @tz47) (And.intro @tz123 @tz23)) (And.intro (And.intro @tz26 @tz28) (And.intro @tz39 @tz41))))) (And.intro (And.intro (And.intro (And.intro @tz44 (And.intro @tz24 @tz37)) (And.intro (And.intro @tz22 @tz0) (And.intro @tz100 @tz66))) (And.intro (And.intro (And.intro @tz68 @tz78) (And.intro @tz103 @tz49)) (And.intro (And.intro @tz34 @tz36) (And.intro @tz51 @tz53)))) (And.intro (And.intro (And.intro @tz55 (And.intro @tz88 @tz32)) (And.intro (And.intro @tz30 @tz61) (And.intro @tz63 @tz90))) (And.intro (And.intro (And.intro @tz92 @tz94) (And.intro @tb3 @tb4)) (And.intro (And.intro @tb5 @tb9) (And.intro @tb42 @tb46))))))) (And.intro (And.intro (And.intro (And.intro (And.intro (And.intro @tb47 (And.intro @tb123 @tb23)) (And.intro (And.intro @tb26 @tb28) (And.intro @tb39 @tb41))) (And.intro (And.intro @tb44 (And.intro @tb24 @tb37)) (And.intro (And.intro @tb22 @tb0) (And.intro @tb100 @tb66)))) (And.intro (And.intro (And.intro @tb68 (And.intro @tb78 @tb103)) (And.intro (And.intro @tb49 @tb34) (And.intro @tb36 @tb51))) (And.intro (And.intro (And.intro @tb53 @tb55) (And.intro @tb88 @tb32)) (And.intro (And.intro @tb30 @tb61) (And.intro @tb63 @tb90))))) (And.intro (And.intro (And.intro (And.intro @tb92 (And.intro @tb94 @fr8)) (And.intro (And.intro @fr9 @fr11) (And.intro @fr13 @fr15))) (And.intro (And.intro (And.intro @fr16 @fr18) (And.intro @fr19 @fr20)) (And.intro (And.intro @fr25 @fr26) (And.intro @fr27 @fr28)))) (And.intro (And.intro (And.intro @fr38 (And.intro @fr39 @fr40)) (And.intro (And.intro @fr41 @fr42) (And.intro @fr51 @fr52))) (And.intro (And.intro (And.intro @fr53 @fr54) (And.intro @bz46 @al46)) (And.intro (And.intro @fa46_0 @fa46_1) (And.intro @bz28 @bz26)))))) (And.intro (And.intro (And.intro (And.intro (And.intro @bz41 (And.intro @bz44 @al41)) (And.intro (And.intro @al44 @fa44_0) (And.intro @fa44_1 @fa44_2))) (And.intro (And.intro @fa41_0 (And.intro @fa41_1 @fa41_2)) (And.intro (And.intro @fa28_0 @fa28_1) (And.intro @fa28_2 @fa26_0)))) (And.intro (And.intro (And.intro @fa26_1 (And.intro @fa26_2 @fa26_3)) (And.intro (And.intro @bz103 @al68) (And.intro @al103 @fa68_0))) (And.intro (And.intro (And.intro @fa103_0 @fa103_1) (And.intro @fa103_2 @bin_weq)) (And.intro (And.intro @bin_wneq @bin_req) (And.intro @bin_rneq @bz39))))) (And.intro (And.intro (And.intro (And.intro @fa39_0 (And.intro @fa39_1 @bz68)) (And.intro (And.intro @bz49 @al49) (And.intro @fa49_0 @fa49_1))) (And.intro (And.intro (And.intro @fa49_2 @bz51) (And.intro @al51 @fa51_0)) (And.intro (And.intro @fa51_1 @fa51_2) (And.intro @fa51_3 @fa51_4)))) (And.intro (And.intro (And.intro @fa51_5 (And.intro @fa51_6 @fa51_7)) (And.intro (And.intro @fa51_8 @fa51_9) (And.intro @fa51_10 @fa51_11))) (And.intro (And.intro (And.intro @bz36 @al36) (And.intro @fa36_0 @fa36_1)) (And.intro (And.intro @oneOf_two @al24) (And.intro @al90 @bz32)))))))) := (And.intro (And.intro (And.intro (And.intro (And.intro (And.intro (And.intro @Try.underlying3 (And.intro @Try.underlying4 @Try.underlying5)) (And.intro (And.intro @Try.underlying9 @Try.underlying42) (And.intro @Try.underlying46 @Try.underlying47))) (And.intro (And.intro @Try.underlying123 (And.intro @Try.underlying23 @Try.underlying26)) (And.intro (And.intro @Try.underlying28 @Try.underlying39) (And.intro @Try.underlying41 @Try.underlying44)))) (And.intro (And.intro (And.intro @Try.underlying24 (And.intro @Try.underlying37 @Try.underlying22)) (And.intro (And.intro @Try.underlying0 @Try.underlying100) (And.intro @Try.underlying66 @Try.underlying68))) (And.intro (And.intro (And.intro @Try.underlying78 @Try.underlying103) (And.intro @Try.underlying49 @Try.underlying34)) (And.intro (And.intro @Try.underlying36 @Try.underlying51) (And.intro @Try.underlying53 @Try.underlying55))))) (And.intro (And.intro (And.intro (And.intro @Try.underlying88 (And.intro @Try.underlying32 @Try.underlying30)) (And.intro (And.intro @Try.underlying61 @Try.underlying63) (And.intro @Try.underlying90 @Try.underlying92))) (And.intro (And.intro @Try.underlying94 (And.intro @ts3 @ts4)) (And.intro (And.intro @ts5 @ts9) (And.intro @ts42 @ts46)))) (And.intro (And.intro (And.intro @ts47 (And.intro @ts123 @ts23)) (And.intro (And.intro @ts26 @ts28) (And.intro @ts39 @ts41))) (And.intro (And.intro (And.intro @ts44 @ts24) (And.intro @ts37 @ts22)) (And.intro (And.intro @ts0 @ts100) (And.intro @ts66 @ts68)))))) (And.intro (And.intro (And.intro (And.intro (And.intro @ts78 (And.intro @ts103 @ts49)) (And.intro (And.intro @ts34 @ts36) (And.intro @ts51 @ts53))) (And.intro (And.intro @ts55 (And.intro @ts88 @ts32)) (And.intro (And.intro @ts30 @ts61) (And.intro @ts63 @ts90)))) (And.intro (And.intro (And.intro @ts92 (And.intro @ts94 @tz3)) (And.intro (And.intro @tz4 @tz5) (And.intro @tz9 @tz42))) (And.intro (And.intro (And.intro @tz46 @tz47) (And.intro @tz123 @tz23)) (And.intro (And.intro @tz26 @tz28) (And.intro @tz39 @tz41))))) (And.intro (And.intro (And.intro (And.intro @tz44 (And.intro @tz24 @tz37)) (And.intro (And.intro @tz22 @tz0) (And.intro @tz100 @tz66))) (And.intro (And.intro (And.intro @tz68 @tz78) (And.intro @tz103 @tz49)) (And.intro (And.intro @tz34 @tz36) (And.intro @tz51 @tz53)))) (And.intro (And.intro (And.intro @tz55 (And.intro @tz88 @tz32)) (And.intro (And.intro @tz30 @tz61) (And.intro @tz63 @tz90))) (And.intro (And.intro (And.intro @tz92 @tz94) (And.intro @tb3 @tb4)) (And.intro (And.intro @tb5 @tb9) (And.intro @tb42 @tb46))))))) (And.intro (And.intro (And.intro (And.intro (And.intro (And.intro @tb47 (And.intro @tb123 @tb23)) (And.intro (And.intro @tb26 @tb28) (And.intro @tb39 @tb41))) (And.intro (And.intro @tb44 (And.intro @tb24 @tb37)) (And.intro (And.intro @tb22 @tb0) (And.intro @tb100 @tb66)))) (And.intro (And.intro (And.intro @tb68 (And.intro @tb78 @tb103)) (And.intro (And.intro @tb49 @tb34) (And.intro @tb36 @tb51))) (And.intro (And.intro (And.intro @tb53 @tb55) (And.intro @tb88 @tb32)) (And.intro (And.intro @tb30 @tb61) (And.intro @tb63 @tb90))))) (And.intro (And.intro (And.intro (And.intro @tb92 (And.intro @tb94 @fr8)) (And.intro (And.intro @fr9 @fr11) (And.intro @fr13 @fr15))) (And.intro (And.intro (And.intro @fr16 @fr18) (And.intro @fr19 @fr20)) (And.intro (And.intro @fr25 @fr26) (And.intro @fr27 @fr28)))) (And.intro (And.intro (And.intro @fr38 (And.intro @fr39 @fr40)) (And.intro (And.intro @fr41 @fr42) (And.intro @fr51 @fr52))) (And.intro (And.intro (And.intro @fr53 @fr54) (And.intro @bz46 @al46)) (And.intro (And.intro @fa46_0 @fa46_1) (And.intro @bz28 @bz26)))))) (And.intro (And.intro (And.intro (And.intro (And.intro @bz41 (And.intro @bz44 @al41)) (And.intro (And.intro @al44 @fa44_0) (And.intro @fa44_1 @fa44_2))) (And.intro (And.intro @fa41_0 (And.intro @fa41_1 @fa41_2)) (And.intro (And.intro @fa28_0 @fa28_1) (And.intro @fa28_2 @fa26_0)))) (And.intro (And.intro (And.intro @fa26_1 (And.intro @fa26_2 @fa26_3)) (And.intro (And.intro @bz103 @al68) (And.intro @al103 @fa68_0))) (And.intro (And.intro (And.intro @fa103_0 @fa103_1) (And.intro @fa103_2 @bin_weq)) (And.intro (And.intro @bin_wneq @bin_req) (And.intro @bin_rneq @bz39))))) (And.intro (And.intro (And.intro (And.intro @fa39_0 (And.intro @fa39_1 @bz68)) (And.intro (And.intro @bz49 @al49) (And.intro @fa49_0 @fa49_1))) (And.intro (And.intro (And.intro @fa49_2 @bz51) (And.intro @al51 @fa51_0)) (And.intro (And.intro @fa51_1 @fa51_2) (And.intro @fa51_3 @fa51_4)))) (And.intro (And.intro (And.intro @fa51_5 (And.intro @fa51_6 @fa51_7)) (And.intro (And.intro @fa51_8 @fa51_9) (And.intro @fa51_10 @fa51_11))) (And.intro (And.intro (And.intro @bz36 @al36) (And.intro @fa36_0 @fa36_1)) (And.intro (And.intro @oneOf_two @al24) (And.intro @al90 @bz32))))))))
structure Ans where
  e : Int
  q : Int
  s : List Int
structure Cal where
  t : Int
  n : Int
  p : Int
  s : List Int
/-- A letter. -/
structure Let where
  kd : Int
  fr : Int
  to : Int
  pl : Int
  br : Int
  bn : Int
  wr : Int
  wn : Int
  sm : Bool
  E : Ent
  vn : Int
  vm : List Int
  C : Cal
  it : Int
  nn : Int
  A : Ans
abbrev bal (r n : Int) : Value := .agg #[.int .i64 r, .int .i64 n]
abbrev letC (L : Let) (ea em vm ca aa : Value) : List Value := [.int .u8 L.kd, .int .i64 L.fr, .int .i64 L.to, .int .i64 L.pl, .int .i64 L.br, .int .i64 L.bn, .int .i64 L.wr, .int .i64 L.wn, .bool L.sm, .int .u8 L.E.kind, .int .u16 L.E.tr, .int .u16 L.E.nu, .int .i64 L.E.pc, ea, em, .int .i64 L.vn, vm, .int .u16 L.C.t, .int .u16 L.C.n, .int .i64 L.C.p, ca, .int .u16 L.it, .int .u16 L.nn, .int .i64 L.A.e, .int .i64 L.A.q, aa]
structure LetR (m : Mem) (L : Let) (ea em vm ca aa : Value) : Prop where
  ea : FRow m ea 1 L.E.args.length (byteCells L.E.args)
  em : FRow m em 1 L.E.mem.length (ints L.E.mem)
  vm : FRow m vm 1 L.vm.length (ints L.vm)
  ca : FRow m ca 1 L.C.s.length (byteCells L.C.s)
  aa : FRow m aa 1 L.A.s.length (byteCells L.A.s)
theorem LetR.pz {m m' : Mem} {L : Let} {ea em vm ca aa : Value} (h : LetR m L ea em vm ca aa) (z : Pz m m') : LetR m' L ea em vm ca aa := ⟨h.ea.pz z, h.em.pz z, h.vm.pz z, h.ca.pz z, h.aa.pz z⟩
def LetF (m : Mem) (v : Value) (L : Let) : Prop := ∃ ea em vm ca aa, v = .agg (letC L ea em vm ca aa).toArray ∧ LetR m L ea em vm ca aa
theorem LetF.pz {m m' : Mem} {v : Value} {L : Let} (h : LetF m v L) (z : Pz m m') : LetF m' v L := by
  obtain ⟨a, b, c, d, e, h1, h2⟩ := h
  exact ⟨a, b, c, d, e, h1, h2.pz z⟩
def zA : Ans := ⟨0, 0, []⟩
def zC : Cal := ⟨0, 0, 0, []⟩
def zL : Let := ⟨0, 0, 0, 0, 0, 0, 0, 0, false, zE, 0, [], zC, 0, 0, zA⟩
abbrev nilS : Value := .slice none 0 0
theorem zL_row (m : Mem) {k f t : Int} : LetR m { zL with kd := k, fr := f, to := t } nilS nilS nilS nilS nilS := ⟨FRow.nil, FRow.nil, FRow.nil, FRow.nil, FRow.nil⟩
abbrev zCells (k f t : Int) : List Value := [.int .u8 k, .int .i64 f, .int .i64 t, .int .i64 0, .int .i64 0, .int .i64 0, .int .i64 0, .int .i64 0, .bool false, .int .u8 0, .int .u16 0, .int .u16 0, .int .i64 0, .slice none 0 0, .slice none 0 0, .int .i64 0, .slice none 0 0, .int .u16 0, .int .u16 0, .int .i64 0, .slice none 0 0, .int .u16 0, .int .u16 0, .int .i64 0, .int .i64 0, .slice none 0 0]
theorem bldL3 (k f t : Int) : opBuild Try.prog 51 [(0, .int .u8 k), (1, .int .i64 f), (2, .int .i64 t)] = some (.agg #[.int .u8 k, .int .i64 f, .int .i64 t, .int .i64 0, .int .i64 0, .int .i64 0, .int .i64 0, .int .i64 0, .bool false, .int .u8 0, .int .u16 0, .int .u16 0, .int .i64 0, .slice none 0 0, .slice none 0 0, .int .i64 0, .slice none 0 0, .int .u16 0, .int .u16 0, .int .i64 0, .slice none 0 0, .int .u16 0, .int .u16 0, .int .i64 0, .int .i64 0, .slice none 0 0]) := by kernel_rfl
theorem bldB (a b : Int) : opBuild Try.prog 36 [(0, .int .i64 a), (1, .int .i64 b)] = some (bal a b) := by kernel_rfl
theorem set_set (m : Mem) (i : Nat) (a b : Blk) : (m.set i a).set i b = m.set i b := by
  simp only [Mem.set]
  congr 1
  funext j
  split <;> rfl
theorem vqB {a b : Int} : veq (.agg #[.int .i64 a, .int .i64 b]) (.agg #[.int .i64 a, .int .i64 b]) = true := by simp [veq, veqList, veqCell]
theorem vqE {k t n p : Int} {a b : Option Addr} {l1 l2 z1 z2 : Nat} : veq (.agg #[.int .u8 k, .int .u16 t, .int .u16 n, .int .i64 p, .slice a l1 z1, .slice b l2 z2]) (.agg #[.int .u8 k, .int .u16 t, .int .u16 n, .int .i64 p, .slice a l1 z1, .slice b l2 z2]) = true := by simp [veq, veqList, veqCell]
theorem vqA {e q : Int} {a : Option Addr} {l z : Nat} : veq (.agg #[.int .i64 e, .int .i64 q, .slice a l z]) (.agg #[.int .i64 e, .int .i64 q, .slice a l z]) = true := by simp [veq, veqList, veqCell]
theorem vqC {t n p : Int} {a : Option Addr} {l z : Nat} : veq (.agg #[.int .u16 t, .int .u16 n, .int .i64 p, .slice a l z]) (.agg #[.int .u16 t, .int .u16 n, .int .i64 p, .slice a l z]) = true := by simp [veq, veqList, veqCell]
theorem vqI {t n : Int} : veq (.agg #[.int .u16 t, .int .u16 n]) (.agg #[.int .u16 t, .int .u16 n]) = true := by simp [veq, veqList, veqCell]
theorem vqW {n : Int} {a : Option Addr} {l z : Nat} : veq (.agg #[.int .i64 n, .slice a l z]) (.agg #[.int .i64 n, .slice a l z]) = true := by simp [veq, veqList, veqCell]
/-- Of a letter what its kind has. -/
def only (L : Let) : Let :=
  let o : Let := { zL with kd := L.kd, fr := L.fr, to := L.to }
  if L.kd = 0 ∨ L.kd = 3 then { o with pl := L.pl, br := L.br, bn := L.bn }
  else if L.kd = 1 then (if L.sm = true then { o with pl := L.pl, br := L.br, bn := L.bn, sm := true, wr := L.wr, wn := L.wn, E := L.E } else { o with pl := L.pl, br := L.br, bn := L.bn })
  else if L.kd = 2 then { o with pl := L.pl, br := L.br, bn := L.bn, E := L.E }
  else if L.kd = 4 then { o with pl := L.pl, E := L.E }
  else if L.kd = 5 then { o with pl := L.pl }
  else if L.kd = 6 then { o with C := L.C }
  else if L.kd = 7 then { o with it := L.it, nn := L.nn, vn := L.vn, vm := L.vm, A := L.A }
  else o
theorem only_ret {m : Mem} {v : Value} {L : Let} (h : LetF m v L) {K : Value → Mem → Prop} (hK : ∀ m' v', Ext m m' → LetF m' v' (only L) → K v' m') : Ret Try.prog 16 [v] m K := by
  obtain ⟨ea, em, vm, ca, aa, rfl, h⟩ := h
  obtain ⟨a1, z1, rfl⟩ := h.ea.is
  obtain ⟨a2, z2, rfl⟩ := h.em.is
  obtain ⟨a3, z3, rfl⟩ := h.vm.is
  obtain ⟨a4, z4, rfl⟩ := h.ca.is
  obtain ⟨a5, z5, rfl⟩ := h.aa.is
  refine ret_wp [(5, [3]), (7, [3, 5]), (9, [3]), (11, [3, 5]), (13, [3]), (19, [3, 5])] Try.func16 rfl (by decide) (by kernel_rfl) ?_
  simp only [wk6, Nat.reduceBEq, wk1, forall_eq, Nat.reduceAdd, reduceIte, Nat.reduceEqDiff, reduceCtorEq, opLen, Int.reduceLT, Int.reduceEq, opConvert, opIndexAddr, opLoad, Nat.reduceLT, undef, Nat.reduceLeDiff, Array.toList, set_set, bldL3, bldB, vqB, vqE, vqA, vqC, vqI, vqW, wk4, wk5, wk0, fxC17i]
  have n13 : ¬ m.next = (m.next + 2) := by omega
  have n23 : ¬ (m.next + 1) = (m.next + 2) := by omega
  have n12 : ¬ m.next = (m.next + 1) := by omega
  have n32 : ¬ (m.next + 2) = (m.next + 1) := by omega
  obtain ⟨m0, hm0⟩ : ∃ m0, m0 = (((m.new (.cells (letC L (.slice a1 L.E.args.length z1) (.slice a2 L.E.mem.length z2) (.slice a3 L.vm.length z3) (.slice a4 L.C.s.length z4) (.slice a5 L.A.s.length z5)) 51 true)).new (.cells [.int .u8 0, .int .i64 0, .int .i64 0, .int .i64 0, .int .i64 0, .int .i64 0, .int .i64 0, .int .i64 0, .bool false, .int .u8 0, .int .u16 0, .int .u16 0, .int .i64 0, .slice none 0 0, .slice none 0 0, .int .i64 0, .slice none 0 0, .int .u16 0, .int .u16 0, .int .i64 0, .slice none 0 0, .int .u16 0, .int .u16 0, .int .i64 0, .int .i64 0, .slice none 0 0] 51 true)).new (.cells [.int .u8 0, .int .i64 0, .int .i64 0, .int .i64 0, .int .i64 0, .int .i64 0, .int .i64 0, .int .i64 0, .bool false, .int .u8 0, .int .u16 0, .int .u16 0, .int .i64 0, .slice none 0 0, .slice none 0 0, .int .i64 0, .slice none 0 0, .int .u16 0, .int .u16 0, .int .i64 0, .slice none 0 0, .int .u16 0, .int .u16 0, .int .i64 0, .int .i64 0, .slice none 0 0] 51 true)).set (m.next + 2) (.cells [.int .u8 L.kd, .int .i64 L.fr, .int .i64 L.to, .int .i64 0, .int .i64 0, .int .i64 0, .int .i64 0, .int .i64 0, .bool false, .int .u8 0, .int .u16 0, .int .u16 0, .int .i64 0, .slice none 0 0, .slice none 0 0, .int .i64 0, .slice none 0 0, .int .u16 0, .int .u16 0, .int .i64 0, .slice none 0 0, .int .u16 0, .int .u16 0, .int .i64 0, .int .i64 0, .slice none 0 0] 51 true) := ⟨_, rfl⟩
  have x0 : Ext m m0 := by rw [hm0]; exact (((Ext.new _ _).trans (Ext.new _ _)).trans (Ext.new _ _)).set (by omega)
  have g1 : m0.get m.next = some (.cells (letC L (.slice a1 L.E.args.length z1) (.slice a2 L.E.mem.length z2) (.slice a3 L.vm.length z3) (.slice a4 L.C.s.length z4) (.slice a5 L.A.s.length z5)) 51 true) := by rw [hm0, set_get_ne _ (by omega), new_get_ne _ (by simp only [new_next]; omega), new_get_ne _ (by simp only [new_next]; omega), new_get]
  have g2 : m0.get (m.next + 1) = some (.cells [.int .u8 0, .int .i64 0, .int .i64 0, .int .i64 0, .int .i64 0, .int .i64 0, .int .i64 0, .int .i64 0, .bool false, .int .u8 0, .int .u16 0, .int .u16 0, .int .i64 0, .slice none 0 0, .slice none 0 0, .int .i64 0, .slice none 0 0, .int .u16 0, .int .u16 0, .int .i64 0, .slice none 0 0, .int .u16 0, .int .u16 0, .int .i64 0, .int .i64 0, .slice none 0 0] 51 true) := by rw [hm0, set_get_ne _ (by omega), new_get_ne _ (by simp only [new_next]; omega)]; exact new_get (m.new _) _
  have g3 : m0.get (m.next + 2) = some (.cells [.int .u8 L.kd, .int .i64 L.fr, .int .i64 L.to, .int .i64 0, .int .i64 0, .int .i64 0, .int .i64 0, .int .i64 0, .bool false, .int .u8 0, .int .u16 0, .int .u16 0, .int .i64 0, .slice none 0 0, .slice none 0 0, .int .i64 0, .slice none 0 0, .int .u16 0, .int .u16 0, .int .i64 0, .slice none 0 0, .int .u16 0, .int .u16 0, .int .i64 0, .int .i64 0, .slice none 0 0] 51 true) := by rw [hm0, set_get]
  have fin : ∀ B C, Ext m ((m0.set (m.next + 2) B).set (m.next + 1) C) := fun B C => (x0.set (by omega)).set (by omega)
  have fz : ∀ B C, Pz m ((m0.set (m.next + 2) B).set (m.next + 1) C) := fun B C => (fin B C).pz
  rw [← hm0]
  clear hm0
  obtain ⟨o, ho⟩ : ∃ o : Let, o = { zL with kd := L.kd, fr := L.fr, to := L.to } := ⟨_, rfl⟩
  by_cases h0 : L.kd = 0
  · have d0 := decide_eq_true h0
    have eo : only L = { zL with kd := L.kd, fr := L.fr, to := L.to, pl := L.pl, br := L.br, bn := L.bn } := by rw [only, if_pos (.inl h0)]
    rw [eo] at hK
    simp only [wk6, Nat.reduceBEq, wk1, forall_eq, Nat.reduceAdd, reduceIte, Nat.reduceEqDiff, reduceCtorEq, opLen, Int.reduceLT, Int.reduceEq, opConvert, opIndexAddr, opLoad, Nat.reduceLT, undef, Nat.reduceLeDiff, Array.toList, set_set, bldL3, bldB, vqB, vqE, vqA, vqC, vqI, vqW, wk4, wk5, wk0, fxC17i, d0]
    refine Loose.by (fun y => y = m.next) ?_
    simp only [wk6, Nat.reduceBEq, wk1, forall_eq, Nat.reduceAdd, reduceIte, Nat.reduceEqDiff, reduceCtorEq, opLen, Int.reduceLT, Int.reduceEq, opConvert, opIndexAddr, opLoad, Nat.reduceLT, undef, Nat.reduceLeDiff, Array.toList, set_set, bldL3, bldB, vqB, vqE, vqA, vqC, vqI, vqW, wk4, wk5, wk0, fxC17i, g1, g2, g3, n13, n23, n12, n32]
    exact hK _ _ (fin _ _) ⟨_, _, _, _, _, rfl, FRow.nil, FRow.nil, FRow.nil, FRow.nil, FRow.nil⟩
  have d0 := decide_eq_false h0
  by_cases h3 : L.kd = 3
  · have d3 := decide_eq_true h3
    have eo : only L = { zL with kd := L.kd, fr := L.fr, to := L.to, pl := L.pl, br := L.br, bn := L.bn } := by rw [only, if_pos (.inr h3)]
    rw [eo] at hK
    simp only [wk6, Nat.reduceBEq, wk1, forall_eq, Nat.reduceAdd, reduceIte, Nat.reduceEqDiff, reduceCtorEq, opLen, Int.reduceLT, Int.reduceEq, opConvert, opIndexAddr, opLoad, Nat.reduceLT, undef, Nat.reduceLeDiff, Array.toList, set_set, bldL3, bldB, vqB, vqE, vqA, vqC, vqI, vqW, wk4, wk5, wk0, fxC17i, d0, d3]
    refine Loose.by (fun y => y = m.next) ?_
    simp only [wk6, Nat.reduceBEq, wk1, forall_eq, Nat.reduceAdd, reduceIte, Nat.reduceEqDiff, reduceCtorEq, opLen, Int.reduceLT, Int.reduceEq, opConvert, opIndexAddr, opLoad, Nat.reduceLT, undef, Nat.reduceLeDiff, Array.toList, set_set, bldL3, bldB, vqB, vqE, vqA, vqC, vqI, vqW, wk4, wk5, wk0, fxC17i, g1, g2, g3, n13, n23, n12, n32]
    exact hK _ _ (fin _ _) ⟨_, _, _, _, _, rfl, FRow.nil, FRow.nil, FRow.nil, FRow.nil, FRow.nil⟩
  have d3 := decide_eq_false h3
  have h03 : ¬ (L.kd = 0 ∨ L.kd = 3) := by omega
  by_cases h1 : L.kd = 1
  · have d1 := decide_eq_true h1
    cases hsm : L.sm with
    | true =>
      have eo : only L = { zL with kd := L.kd, fr := L.fr, to := L.to, pl := L.pl, br := L.br, bn := L.bn, sm := true, wr := L.wr, wn := L.wn, E := L.E } := by rw [only, if_neg h03, if_pos h1, if_pos hsm]
      rw [eo] at hK
      simp only [wk6, Nat.reduceBEq, wk1, forall_eq, Nat.reduceAdd, reduceIte, Nat.reduceEqDiff, reduceCtorEq, opLen, Int.reduceLT, Int.reduceEq, opConvert, opIndexAddr, opLoad, Nat.reduceLT, undef, Nat.reduceLeDiff, Array.toList, set_set, bldL3, bldB, vqB, vqE, vqA, vqC, vqI, vqW, wk4, wk5, wk0, fxC17i, d0, d3, d1]
      refine Loose.by (fun y => y = m.next) ?_
      simp only [wk6, Nat.reduceBEq, wk1, forall_eq, Nat.reduceAdd, reduceIte, Nat.reduceEqDiff, reduceCtorEq, opLen, Int.reduceLT, Int.reduceEq, opConvert, opIndexAddr, opLoad, Nat.reduceLT, undef, Nat.reduceLeDiff, Array.toList, set_set, bldL3, bldB, vqB, vqE, vqA, vqC, vqI, vqW, wk4, wk5, wk0, fxC17i, g1, g2, g3, n13, n23, n12, n32, hsm]
      refine Loose.by (fun y => y = m.next) ?_
      simp only [wk6, Nat.reduceBEq, wk1, forall_eq, Nat.reduceAdd, reduceIte, Nat.reduceEqDiff, reduceCtorEq, opLen, Int.reduceLT, Int.reduceEq, opConvert, opIndexAddr, opLoad, Nat.reduceLT, undef, Nat.reduceLeDiff, Array.toList, set_set, bldL3, bldB, vqB, vqE, vqA, vqC, vqI, vqW, wk4, wk5, wk0, fxC17i, g1, g2, g3, n13, n23, n12, n32, hsm]
      exact hK _ _ (fin _ _) ⟨_, _, _, _, _, rfl, h.ea.pz (fz _ _), h.em.pz (fz _ _), FRow.nil, FRow.nil, FRow.nil⟩
    | false =>
      have eo : only L = { zL with kd := L.kd, fr := L.fr, to := L.to, pl := L.pl, br := L.br, bn := L.bn } := by rw [only, if_neg h03, if_pos h1, if_neg (by rw [hsm]; decide)]
      rw [eo] at hK
      simp only [wk6, Nat.reduceBEq, wk1, forall_eq, Nat.reduceAdd, reduceIte, Nat.reduceEqDiff, reduceCtorEq, opLen, Int.reduceLT, Int.reduceEq, opConvert, opIndexAddr, opLoad, Nat.reduceLT, undef, Nat.reduceLeDiff, Array.toList, set_set, bldL3, bldB, vqB, vqE, vqA, vqC, vqI, vqW, wk4, wk5, wk0, fxC17i, d0, d3, d1]
      refine Loose.by (fun y => y = m.next) ?_
      simp only [wk6, Nat.reduceBEq, wk1, forall_eq, Nat.reduceAdd, reduceIte, Nat.reduceEqDiff, reduceCtorEq, opLen, Int.reduceLT, Int.reduceEq, opConvert, opIndexAddr, opLoad, Nat.reduceLT, undef, Nat.reduceLeDiff, Array.toList, set_set, bldL3, bldB, vqB, vqE, vqA, vqC, vqI, vqW, wk4, wk5, wk0, fxC17i, g1, g2, g3, n13, n23, n12, n32, hsm]
      exact hK _ _ (fin _ _) ⟨_, _, _, _, _, rfl, FRow.nil, FRow.nil, FRow.nil, FRow.nil, FRow.nil⟩
  have d1 := decide_eq_false h1
  by_cases h2 : L.kd = 2
  · have d2 := decide_eq_true h2
    have eo : only L = { zL with kd := L.kd, fr := L.fr, to := L.to, pl := L.pl, br := L.br, bn := L.bn, E := L.E } := by rw [only, if_neg h03, if_neg h1, if_pos h2]
    rw [eo] at hK
    simp only [wk6, Nat.reduceBEq, wk1, forall_eq, Nat.reduceAdd, reduceIte, Nat.reduceEqDiff, reduceCtorEq, opLen, Int.reduceLT, Int.reduceEq, opConvert, opIndexAddr, opLoad, Nat.reduceLT, undef, Nat.reduceLeDiff, Array.toList, set_set, bldL3, bldB, vqB, vqE, vqA, vqC, vqI, vqW, wk4, wk5, wk0, fxC17i, d0, d3, d1, d2]
    refine Loose.by (fun y => y = m.next) ?_
    simp only [wk6, Nat.reduceBEq, wk1, forall_eq, Nat.reduceAdd, reduceIte, Nat.reduceEqDiff, reduceCtorEq, opLen, Int.reduceLT, Int.reduceEq, opConvert, opIndexAddr, opLoad, Nat.reduceLT, undef, Nat.reduceLeDiff, Array.toList, set_set, bldL3, bldB, vqB, vqE, vqA, vqC, vqI, vqW, wk4, wk5, wk0, fxC17i, g1, g2, g3, n13, n23, n12, n32]
    exact hK _ _ (fin _ _) ⟨_, _, _, _, _, rfl, h.ea.pz (fz _ _), h.em.pz (fz _ _), FRow.nil, FRow.nil, FRow.nil⟩
  have d2 := decide_eq_false h2
  by_cases h4 : L.kd = 4
  · have d4 := decide_eq_true h4
    have eo : only L = { zL with kd := L.kd, fr := L.fr, to := L.to, pl := L.pl, E := L.E } := by rw [only, if_neg h03, if_neg h1, if_neg h2, if_pos h4]
    rw [eo] at hK
    simp only [wk6, Nat.reduceBEq, wk1, forall_eq, Nat.reduceAdd, reduceIte, Nat.reduceEqDiff, reduceCtorEq, opLen, Int.reduceLT, Int.reduceEq, opConvert, opIndexAddr, opLoad, Nat.reduceLT, undef, Nat.reduceLeDiff, Array.toList, set_set, bldL3, bldB, vqB, vqE, vqA, vqC, vqI, vqW, wk4, wk5, wk0, fxC17i, d0, d3, d1, d2, d4]
    refine Loose.by (fun y => y = m.next) ?_
    simp only [wk6, Nat.reduceBEq, wk1, forall_eq, Nat.reduceAdd, reduceIte, Nat.reduceEqDiff, reduceCtorEq, opLen, Int.reduceLT, Int.reduceEq, opConvert, opIndexAddr, opLoad, Nat.reduceLT, undef, Nat.reduceLeDiff, Array.toList, set_set, bldL3, bldB, vqB, vqE, vqA, vqC, vqI, vqW, wk4, wk5, wk0, fxC17i, g1, g2, g3, n13, n23, n12, n32]
    exact hK _ _ (fin _ _) ⟨_, _, _, _, _, rfl, h.ea.pz (fz _ _), h.em.pz (fz _ _), FRow.nil, FRow.nil, FRow.nil⟩
  have d4 := decide_eq_false h4
  by_cases h5 : L.kd = 5
  · have d5 := decide_eq_true h5
    have eo : only L = { zL with kd := L.kd, fr := L.fr, to := L.to, pl := L.pl } := by rw [only, if_neg h03, if_neg h1, if_neg h2, if_neg h4, if_pos h5]
    rw [eo] at hK
    simp only [wk6, Nat.reduceBEq, wk1, forall_eq, Nat.reduceAdd, reduceIte, Nat.reduceEqDiff, reduceCtorEq, opLen, Int.reduceLT, Int.reduceEq, opConvert, opIndexAddr, opLoad, Nat.reduceLT, undef, Nat.reduceLeDiff, Array.toList, set_set, bldL3, bldB, vqB, vqE, vqA, vqC, vqI, vqW, wk4, wk5, wk0, fxC17i, d0, d3, d1, d2, d4, d5, g1, g2, g3, n13, n23, n12, n32]
    exact hK _ _ (fin _ _) ⟨_, _, _, _, _, rfl, FRow.nil, FRow.nil, FRow.nil, FRow.nil, FRow.nil⟩
  have d5 := decide_eq_false h5
  by_cases h6 : L.kd = 6
  · have d6 := decide_eq_true h6
    have eo : only L = { zL with kd := L.kd, fr := L.fr, to := L.to, C := L.C } := by rw [only, if_neg h03, if_neg h1, if_neg h2, if_neg h4, if_neg h5, if_pos h6]
    rw [eo] at hK
    simp only [wk6, Nat.reduceBEq, wk1, forall_eq, Nat.reduceAdd, reduceIte, Nat.reduceEqDiff, reduceCtorEq, opLen, Int.reduceLT, Int.reduceEq, opConvert, opIndexAddr, opLoad, Nat.reduceLT, undef, Nat.reduceLeDiff, Array.toList, set_set, bldL3, bldB, vqB, vqE, vqA, vqC, vqI, vqW, wk4, wk5, wk0, fxC17i, d0, d3, d1, d2, d4, d5, d6, g1, g2, g3, n13, n23, n12, n32]
    exact hK _ _ (fin _ _) ⟨_, _, _, _, _, rfl, FRow.nil, FRow.nil, FRow.nil, h.ca.pz (fz _ _), FRow.nil⟩
  have d6 := decide_eq_false h6
  by_cases h7 : L.kd = 7
  · have d7 := decide_eq_true h7
    have eo : only L = { zL with kd := L.kd, fr := L.fr, to := L.to, it := L.it, nn := L.nn, vn := L.vn, vm := L.vm, A := L.A } := by rw [only, if_neg h03, if_neg h1, if_neg h2, if_neg h4, if_neg h5, if_neg h6, if_pos h7]
    rw [eo] at hK
    simp only [wk6, Nat.reduceBEq, wk1, forall_eq, Nat.reduceAdd, reduceIte, Nat.reduceEqDiff, reduceCtorEq, opLen, Int.reduceLT, Int.reduceEq, opConvert, opIndexAddr, opLoad, Nat.reduceLT, undef, Nat.reduceLeDiff, Array.toList, set_set, bldL3, bldB, vqB, vqE, vqA, vqC, vqI, vqW, wk4, wk5, wk0, fxC17i, d0, d3, d1, d2, d4, d5, d6, d7]
    refine Loose.by (fun y => y = m.next) ?_
    simp only [wk6, Nat.reduceBEq, wk1, forall_eq, Nat.reduceAdd, reduceIte, Nat.reduceEqDiff, reduceCtorEq, opLen, Int.reduceLT, Int.reduceEq, opConvert, opIndexAddr, opLoad, Nat.reduceLT, undef, Nat.reduceLeDiff, Array.toList, set_set, bldL3, bldB, vqB, vqE, vqA, vqC, vqI, vqW, wk4, wk5, wk0, fxC17i, g1, g2, g3, n13, n23, n12, n32]
    exact hK _ _ (fin _ _) ⟨_, _, _, _, _, rfl, FRow.nil, FRow.nil, h.vm.pz (fz _ _), FRow.nil, h.aa.pz (fz _ _)⟩
  have d7 := decide_eq_false h7
  have eo : only L = { zL with kd := L.kd, fr := L.fr, to := L.to } := by rw [only, if_neg h03, if_neg h1, if_neg h2, if_neg h4, if_neg h5, if_neg h6, if_neg h7]
  rw [eo] at hK
  simp only [wk6, Nat.reduceBEq, wk1, forall_eq, Nat.reduceAdd, reduceIte, Nat.reduceEqDiff, reduceCtorEq, opLen, Int.reduceLT, Int.reduceEq, opConvert, opIndexAddr, opLoad, Nat.reduceLT, undef, Nat.reduceLeDiff, Array.toList, set_set, bldL3, bldB, vqB, vqE, vqA, vqC, vqI, vqW, wk4, wk5, wk0, fxC17i, d0, d3, d1, d2, d4, d5, d6, d7, g1, g2, g3, n13, n23, n12, n32]
  exact hK _ _ (x0.set (by omega)) ⟨_, _, _, _, _, rfl, FRow.nil, FRow.nil, FRow.nil, FRow.nil, FRow.nil⟩
end Go.Proofs.Ytejgoooanapjbaa
