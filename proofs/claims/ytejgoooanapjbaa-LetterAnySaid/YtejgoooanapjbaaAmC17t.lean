/- A text of the abstract machine. -/






/- Letters: put. -/
/- Letters: taken, simp only [Nat.reduceAdd, reduceIte, Nat.reduceEqDiff, reduceCtorEq, opLen, Int.reduceLT, Int.reduceEq, opConvert, opIndexAddr, opLoad, Nat.reduceLT, undef, Nat.reduceLeDiff, Array.toList, wk4, wk5, wk0, fxC17t]ed. -/
import Derived.Test.YtejgoooanapjbaaAmC17l
import Derived.Test.YtejgoooanapjbaaAmBun
set_option linter.unusedSimpArgs false
set_option linter.unusedVariables false
set_option maxRecDepth 100000
set_option maxHeartbeats 4000000
namespace Go.Proofs.Ytejgoooanapjbaa
open Go Go.AM Go.AM.Crc Go.AM.Wire
theorem fxC17t : type_of% (And.intro (And.intro (And.intro (And.intro (And.intro (And.intro (And.intro (And.intro @Try.underlying3 @Try.underlying4) (And.intro @Try.underlying5 @Try.underlying9)) (And.intro (And.intro @Try.underlying42 @Try.underlying46) (And.intro @Try.underlying47 @Try.underlying123))) (And.intro (And.intro (And.intro @Try.underlying23 @Try.underlying26) (And.intro @Try.underlying28 @Try.underlying39)) (And.intro (And.intro @Try.underlying41 @Try.underlying44) (And.intro @Try.underlying24 @Try.underlying37)))) (And.intro (And.intro (And.intro (And.intro @Try.underlying22 @Try.underlying0) (And.intro @Try.underlying100 @Try.underlying66)) (And.intro (And.intro @Try.underlying68 @Try.underlying78) (And.intro @Try.underlying103 @Try.underlying49))) (And.intro (And.intro (And.intro @Try.underlying34 @Try.underlying36) (And.intro @Try.underlying51 @Try.underlying53)) (And.intro (And.intro @Try.underlying55 @Try.underlying88) (And.intro @Try.underlying32 @Try.underlying30))))) (And.intro (And.intro (And.intro (And.intro (And.intro @Try.underlying61 @Try.underlying63) (And.intro @Try.underlying90 @Try.underlying92)) (And.intro (And.intro @Try.underlying94 @ts3) (And.intro @ts4 @ts5))) (And.intro (And.intro (And.intro @ts9 @ts42) (And.intro @ts46 @ts47)) (And.intro (And.intro @ts123 @ts23) (And.intro @ts26 @ts28)))) (And.intro (And.intro (And.intro (And.intro @ts39 @ts41) (And.intro @ts44 @ts24)) (And.intro (And.intro @ts37 @ts22) (And.intro @ts0 @ts100))) (And.intro (And.intro (And.intro @ts66 @ts68) (And.intro @ts78 @ts103)) (And.intro (And.intro @ts49 @ts34) (And.intro @ts36 @ts51)))))) (And.intro (And.intro (And.intro (And.intro (And.intro (And.intro @ts53 @ts55) (And.intro @ts88 @ts32)) (And.intro (And.intro @ts30 @ts61) (And.intro @ts63 @ts90))) (And.intro (And.intro (And.intro @ts92 @ts94) (And.intro @tz3 @tz4)) (And.intro (And.intro @tz5 @tz9) (And.intro @tz42 @tz46)))) (And.intro (And.intro (And.intro (And.intro @tz47 @tz123) (And.intro @tz23 @tz26)) (And.intro (And.intro @tz28 @tz39) (And.intro @tz41 @tz44))) (And.intro (And.intro (And.intro @tz24 @tz37) (And.intro @tz22 @tz0)) (And.intro (And.intro @tz100 @tz66) (And.intro @tz68 @tz78))))) (And.intro (And.intro (And.intro (And.intro (And.intro @tz103 @tz49) (And.intro @tz34 @tz36)) (And.intro (And.intro @tz51 @tz53) (And.intro @tz55 @tz88))) (And.intro (And.intro (And.intro @tz32 @tz30) (And.intro @tz61 @tz63)) (And.intro (And.intro @tz90 @tz92) (And.intro @tz94 @tb3)))) (And.intro (And.intro (And.intro (And.intro @tb4 @tb5) (And.intro @tb9 @tb42)) (And.intro (And.intro @tb46 @tb47) (And.intro @tb123 @tb23))) (And.intro (And.intro (And.intro @tb26 @tb28) (And.intro @tb39 @tb41)) (And.intro (And.intro @tb44 @tb24) (And.intro @tb37 (And.intro @tb22 @tb0)))))))) (And.intro (And.intro (And.intro (And.intro (And.intro (And.intro (And.intro @tb100 @tb66) (And.intro @tb68 @tb78)) (And.intro (And.intro @tb103 @tb49) (And.intro @tb34 @tb36))) (And.intro (And.intro (And.intro @tb51 @tb53) (And.intro @tb55 @tb88)) (And.intro (And.intro @tb32 @tb30) (And.intro @tb61 @tb63)))) (And.intro (And.intro (And.intro (And.intro @tb90 @tb92) (And.intro @tb94 @fr8)) (And.intro (And.intro @fr9 @fr10) (And.intro @fr11 @fr13))) (And.intro (And.intro (And.intro @fr15 @fr16) (And.intro @fr18 @fr19)) (And.intro (And.intro @fr20 @fr21) (And.intro @fr22 @fr23))))) (And.intro (And.intro (And.intro (And.intro (And.intro @fr24 @fr25) (And.intro @fr26 @fr27)) (And.intro (And.intro @fr28 @fr38) (And.intro @fr39 @fr40))) (And.intro (And.intro (And.intro @fr41 @fr42) (And.intro @fr51 @fr52)) (And.intro (And.intro @fr53 @fr54) (And.intro @fr12 @fr29)))) (And.intro (And.intro (And.intro (And.intro @fr30 @fr31) (And.intro @fr32 @fr33)) (And.intro (And.intro @fr34 @fr35) (And.intro @fr36 @fr37))) (And.intro (And.intro (And.intro @bz46 @al46) (And.intro @fa46_0 @fa46_1)) (And.intro (And.intro @bz28 @bz26) (And.intro @bz41 (And.intro @bz44 @al41))))))) (And.intro (And.intro (And.intro (And.intro (And.intro (And.intro @al44 @fa44_0) (And.intro @fa44_1 @fa44_2)) (And.intro (And.intro @fa41_0 @fa41_1) (And.intro @fa41_2 @fa28_0))) (And.intro (And.intro (And.intro @fa28_1 @fa28_2) (And.intro @fa26_0 @fa26_1)) (And.intro (And.intro @fa26_2 @fa26_3) (And.intro @bz103 @al68)))) (And.intro (And.intro (And.intro (And.intro @al103 @fa68_0) (And.intro @fa103_0 @fa103_1)) (And.intro (And.intro @fa103_2 @bin_weq) (And.intro @bin_wneq @bin_req))) (And.intro (And.intro (And.intro @bin_rneq @bz39) (And.intro @fa39_0 @fa39_1)) (And.intro (And.intro @bz68 @bz49) (And.intro @al49 @fa49_0))))) (And.intro (And.intro (And.intro (And.intro (And.intro @fa49_1 @fa49_2) (And.intro @bz51 @al51)) (And.intro (And.intro @fa51_0 @fa51_1) (And.intro @fa51_2 @fa51_3))) (And.intro (And.intro (And.intro @fa51_4 @fa51_5) (And.intro @fa51_6 @fa51_7)) (And.intro (And.intro @fa51_8 @fa51_9) (And.intro @fa51_10 @fa51_11)))) (And.intro (And.intro (And.intro (And.intro @bz36 @al36) (And.intro @fa36_0 @fa36_1)) (And.intro (And.intro @oneOf_two @al24) (And.intro @al90 @bz32))) (And.intro (And.intro (And.intro @set_set @bldL3) (And.intro @bldB @vqB)) (And.intro (And.intro @vqE @vqA) (And.intro @vqC (And.intro @vqI @vqW))))))))) := (And.intro (And.intro (And.intro (And.intro (And.intro (And.intro (And.intro (And.intro @Try.underlying3 @Try.underlying4) (And.intro @Try.underlying5 @Try.underlying9)) (And.intro (And.intro @Try.underlying42 @Try.underlying46) (And.intro @Try.underlying47 @Try.underlying123))) (And.intro (And.intro (And.intro @Try.underlying23 @Try.underlying26) (And.intro @Try.underlying28 @Try.underlying39)) (And.intro (And.intro @Try.underlying41 @Try.underlying44) (And.intro @Try.underlying24 @Try.underlying37)))) (And.intro (And.intro (And.intro (And.intro @Try.underlying22 @Try.underlying0) (And.intro @Try.underlying100 @Try.underlying66)) (And.intro (And.intro @Try.underlying68 @Try.underlying78) (And.intro @Try.underlying103 @Try.underlying49))) (And.intro (And.intro (And.intro @Try.underlying34 @Try.underlying36) (And.intro @Try.underlying51 @Try.underlying53)) (And.intro (And.intro @Try.underlying55 @Try.underlying88) (And.intro @Try.underlying32 @Try.underlying30))))) (And.intro (And.intro (And.intro (And.intro (And.intro @Try.underlying61 @Try.underlying63) (And.intro @Try.underlying90 @Try.underlying92)) (And.intro (And.intro @Try.underlying94 @ts3) (And.intro @ts4 @ts5))) (And.intro (And.intro (And.intro @ts9 @ts42) (And.intro @ts46 @ts47)) (And.intro (And.intro @ts123 @ts23) (And.intro @ts26 @ts28)))) (And.intro (And.intro (And.intro (And.intro @ts39 @ts41) (And.intro @ts44 @ts24)) (And.intro (And.intro @ts37 @ts22) (And.intro @ts0 @ts100))) (And.intro (And.intro (And.intro @ts66 @ts68) (And.intro @ts78 @ts103)) (And.intro (And.intro @ts49 @ts34) (And.intro @ts36 @ts51)))))) (And.intro (And.intro (And.intro (And.intro (And.intro (And.intro @ts53 @ts55) (And.intro @ts88 @ts32)) (And.intro (And.intro @ts30 @ts61) (And.intro @ts63 @ts90))) (And.intro (And.intro (And.intro @ts92 @ts94) (And.intro @tz3 @tz4)) (And.intro (And.intro @tz5 @tz9) (And.intro @tz42 @tz46)))) (And.intro (And.intro (And.intro (And.intro @tz47 @tz123) (And.intro @tz23 @tz26)) (And.intro (And.intro @tz28 @tz39) (And.intro @tz41 @tz44))) (And.intro (And.intro (And.intro @tz24 @tz37) (And.intro @tz22 @tz0)) (And.intro (And.intro @tz100 @tz66) (And.intro @tz68 @tz78))))) (And.intro (And.intro (And.intro (And.intro (And.intro @tz103 @tz49) (And.intro @tz34 @tz36)) (And.intro (And.intro @tz51 @tz53) (And.intro @tz55 @tz88))) (And.intro (And.intro (And.intro @tz32 @tz30) (And.intro @tz61 @tz63)) (And.intro (And.intro @tz90 @tz92) (And.intro @tz94 @tb3)))) (And.intro (And.intro (And.intro (And.intro @tb4 @tb5) (And.intro @tb9 @tb42)) (And.intro (And.intro @tb46 @tb47) (And.intro @tb123 @tb23))) (And.intro (And.intro (And.intro @tb26 @tb28) (And.intro @tb39 @tb41)) (And.intro (And.intro @tb44 @tb24) (And.intro @tb37 (And.intro @tb22 @tb0)))))))) (And.intro (And.intro (And.intro (And.intro (And.intro (And.intro (And.intro @tb100 @tb66) (And.intro @tb68 @tb78)) (And.intro (And.intro @tb103 @tb49) (And.intro @tb34 @tb36))) (And.intro (And.intro (And.intro @tb51 @tb53) (And.intro @tb55 @tb88)) (And.intro (And.intro @tb32 @tb30) (And.intro @tb61 @tb63)))) (And.intro (And.intro (And.intro (And.intro @tb90 @tb92) (And.intro @tb94 @fr8)) (And.intro (And.intro @fr9 @fr10) (And.intro @fr11 @fr13))) (And.intro (And.intro (And.intro @fr15 @fr16) (And.intro @fr18 @fr19)) (And.intro (And.intro @fr20 @fr21) (And.intro @fr22 @fr23))))) (And.intro (And.intro (And.intro (And.intro (And.intro @fr24 @fr25) (And.intro @fr26 @fr27)) (And.intro (And.intro @fr28 @fr38) (And.intro @fr39 @fr40))) (And.intro (And.intro (And.intro @fr41 @fr42) (And.intro @fr51 @fr52)) (And.intro (And.intro @fr53 @fr54) (And.intro @fr12 @fr29)))) (And.intro (And.intro (And.intro (And.intro @fr30 @fr31) (And.intro @fr32 @fr33)) (And.intro (And.intro @fr34 @fr35) (And.intro @fr36 @fr37))) (And.intro (And.intro (And.intro @bz46 @al46) (And.intro @fa46_0 @fa46_1)) (And.intro (And.intro @bz28 @bz26) (And.intro @bz41 (And.intro @bz44 @al41))))))) (And.intro (And.intro (And.intro (And.intro (And.intro (And.intro @al44 @fa44_0) (And.intro @fa44_1 @fa44_2)) (And.intro (And.intro @fa41_0 @fa41_1) (And.intro @fa41_2 @fa28_0))) (And.intro (And.intro (And.intro @fa28_1 @fa28_2) (And.intro @fa26_0 @fa26_1)) (And.intro (And.intro @fa26_2 @fa26_3) (And.intro @bz103 @al68)))) (And.intro (And.intro (And.intro (And.intro @al103 @fa68_0) (And.intro @fa103_0 @fa103_1)) (And.intro (And.intro @fa103_2 @bin_weq) (And.intro @bin_wneq @bin_req))) (And.intro (And.intro (And.intro @bin_rneq @bz39) (And.intro @fa39_0 @fa39_1)) (And.intro (And.intro @bz68 @bz49) (And.intro @al49 @fa49_0))))) (And.intro (And.intro (And.intro (And.intro (And.intro @fa49_1 @fa49_2) (And.intro @bz51 @al51)) (And.intro (And.intro @fa51_0 @fa51_1) (And.intro @fa51_2 @fa51_3))) (And.intro (And.intro (And.intro @fa51_4 @fa51_5) (And.intro @fa51_6 @fa51_7)) (And.intro (And.intro @fa51_8 @fa51_9) (And.intro @fa51_10 @fa51_11)))) (And.intro (And.intro (And.intro (And.intro @bz36 @al36) (And.intro @fa36_0 @fa36_1)) (And.intro (And.intro @oneOf_two @al24) (And.intro @al90 @bz32))) (And.intro (And.intro (And.intro @set_set @bldL3) (And.intro @bldB @vqB)) (And.intro (And.intro @vqE @vqA) (And.intro @vqC (And.intro @vqI @vqW)))))))))
def balS (all : List Int) (s : Nat × Int) : (Int × Int) × (Nat × Int) :=
  let p := longS all s
  let n := withinS all 15 p.2
  ((p.1, n.1), n.2)
theorem baltake_ret {m : Mem} {i r : Nat} {all : List Int} {s : Nat × Int} (hr : Rri m i r all s) (hl : all.length < 2 ^ 40) (hb : Bytes all)
    {K : Value → Mem → Prop} (hK : ∀ m', Rri m' i r all (balS all s).2 → Fr1 i m m' → K (bal (balS all s).1.1 (balS all s).1.2) m') : Ret Try.prog 32 [.pointer (some ⟨i, 0, none⟩)] m K := by
  refine ret_wp [] Try.func32 rfl (by decide) (by kernel_rfl) ?_
  simp only [Nat.reduceAdd, reduceIte, Nat.reduceEqDiff, reduceCtorEq, opLen, Int.reduceLT, Int.reduceEq, opConvert, opIndexAddr, opLoad, Nat.reduceLT, undef, Nat.reduceLeDiff, Array.toList, wk4, wk5, wk0, fxC17t]
  obtain ⟨Z, hZ⟩ : ∃ Z, Z = Blk.cells [.int .i64 0, .int .i64 0] 36 true := ⟨_, rfl⟩
  rw [← hZ]
  have hi := hr.1
  have hri := hr.2.1
  have R0 := hr.ext (Ext.new m Z)
  have gz : (m.new Z).get m.next = some Z := new_get _ _
  have f0 : Fr1 i m (m.new Z) := ⟨Nat.le_succ _, fun j hj _ => new_get_ne _ (by omega)⟩
  have n0 : (m.new Z).next = m.next + 1 := rfl
  generalize m.new Z = m0 at R0 gz f0 n0 ⊢
  refine rlong_ret R0 hl hb fun m1 R1 f1 => ?_
  have lv := longS_val (s := s) hb
  have e64 : IntKind.i64.wrap (longS all s).1 = (longS all s).1 := wrap_i64 (by omega) (by omega)
  simp only [Nat.reduceAdd, reduceIte, Nat.reduceEqDiff, reduceCtorEq, opLen, Int.reduceLT, Int.reduceEq, opConvert, opIndexAddr, opLoad, Nat.reduceLT, undef, Nat.reduceLeDiff, Array.toList, wk4, wk5, wk0, fxC17t, e64]
  refine within_ret R1 hl hb fun m2 R2 f2 => ?_
  have l1 := f1.1
  have l2 := f2.1
  have g2 := (f2.2 m.next (by omega) (by omega)).trans ((f1.2 m.next (by omega) (by omega)).trans gz)
  rw [hZ] at g2
  simp only [Nat.reduceAdd, reduceIte, Nat.reduceEqDiff, reduceCtorEq, opLen, Int.reduceLT, Int.reduceEq, opConvert, opIndexAddr, opLoad, Nat.reduceLT, undef, Nat.reduceLeDiff, Array.toList, wk4, wk5, wk0, fxC17t, g2]
  refine hK _ (R2.keep (Nat.le_refl _) (set_get_ne _ (by omega)) (set_get_ne _ (by omega))) ⟨by simp only [set_next]; omega, fun j hj hn => ?_⟩
  rw [set_get_ne _ (by omega), f2.2 j (by omega) hn, f1.2 j (by omega) hn, f0.2 j hj hn]

/-- What is behind a letter's kind, from, to. -/
def restS (all : List Int) (o : Let) (s : Nat × Int) : Let × (Nat × Int) :=
  if o.kd = 0 ∨ o.kd = 3 then
    let p := longS all s
    let b := balS all p.2
    ({ o with pl := p.1, br := b.1.1, bn := b.1.2 }, b.2)
  else if o.kd = 1 then
    let p := longS all s
    let b := balS all p.2
    let q := withinS all 1 b.2
    if q.1 = 1 then
      let w := balS all q.2
      let e := entS all w.2
      ({ o with pl := p.1, br := b.1.1, bn := b.1.2, sm := true, wr := w.1.1, wn := w.1.2, E := e.1 }, e.2)
    else ({ o with pl := p.1, br := b.1.1, bn := b.1.2, sm := false }, q.2)
  else if o.kd = 2 then
    let p := longS all s
    let b := balS all p.2
    let e := entS all b.2
    ({ o with pl := p.1, br := b.1.1, bn := b.1.2, E := e.1 }, e.2)
  else if o.kd = 4 then
    let p := longS all s
    let e := entS all p.2
    ({ o with pl := p.1, E := e.1 }, e.2)
  else if o.kd = 5 then
    let p := longS all s
    ({ o with pl := p.1 }, p.2)
  else if o.kd = 6 then
    let c := callS all s
    ({ o with C := ⟨c.1.t, c.1.n, c.1.p, c.1.args⟩ }, c.2)
  else
    let t := wordS all s
    let n := wordS all t.2
    let v := longS all n.2
    let k := withinS all 16 v.2
    let l := wordsS all k.1.toNat k.2
    let a := ansS all l.2
    ({ o with it := t.1, nn := n.1, vn := v.1, vm := l.1, A := ⟨a.1.e, a.1.r, a.1.args⟩ }, a.2)
/-- A letter out of bytes, before it is looked at. -/
def rawS (all : List Int) : Let × (Nat × Int) :=
  let k := withinS all 7 (0, 0)
  let f := withinS all 15 k.2
  let t := withinS all 15 f.2
  restS all { zL with kd := k.1, fr := f.1, to := t.1 } t.2
def letS (all : List Int) : Let × Int :=
  let r := rawS all
  let e := endS all.length r.2
  if e ≠ 0 then (zL, e) else if lck r.1 ≠ 0 then (zL, lck r.1) else (r.1, 0)

theorem callS_val {all : List Int} {s : Nat × Int} (hb : Bytes all) (hs : s.1 ≤ all.length) : (0 ≤ (callS all s).1.t ∧ (callS all s).1.t < 65536) ∧ (0 ≤ (callS all s).1.n ∧ (callS all s).1.n < 65536) ∧ (0 ≤ (callS all s).1.p ∧ (callS all s).1.p < 65536) ∧ Bytes (callS all s).1.args ∧ (callS all s).1.args.length ≤ 4000 := by
  have z0 : (0 : Int) ≤ 0 ∧ (0 : Int) < 65536 := by decide
  have z2 : ([] : List Int).length ≤ 4000 := by decide
  have a := wordS_val (s := s) hb
  have b := wordS_val (s := (wordS all s).2) hb
  have c := wordS_val (s := (wordS all (wordS all s).2).2) hb
  have l1 := wordS_le hs
  have l2 := wordS_le l1
  have l3 := wordS_le l2
  have d := text_good (most := 4000) hb l3
  simp only [callS]
  split
  · exact ⟨z0, z0, z0, bytes_nil, z2⟩
  · rename_i h
    have h4 : (textS all 4000 (wordS all (wordS all (wordS all s).2).2).2).1.length ≤ 4000 := by have := d.2.2.2 (Decidable.byContradiction h); omega
    dsimp only
    exact ⟨a, b, c, d.2.1, h4⟩
theorem ansS_val {all : List Int} {s : Nat × Int} (hb : Bytes all) (hs : s.1 ≤ all.length) : (0 ≤ (ansS all s).1.e ∧ (ansS all s).1.e < 65536) ∧ (0 ≤ (ansS all s).1.r ∧ (ansS all s).1.r < 65536) ∧ Bytes (ansS all s).1.args ∧ (ansS all s).1.args.length ≤ 4000 := by
  have z0 : (0 : Int) ≤ 0 ∧ (0 : Int) < 65536 := by decide
  have z2 : ([] : List Int).length ≤ 4000 := by decide
  have a := wordS_val (s := s) hb
  have b := wordS_val (s := (wordS all s).2) hb
  have l1 := wordS_le hs
  have l2 := wordS_le l1
  have d := text_good (most := 4000) hb l2
  simp only [ansS]
  split
  · exact ⟨z0, z0, bytes_nil, z2⟩
  · rename_i h
    have h4 : (textS all 4000 (wordS all (wordS all s).2).2).1.length ≤ 4000 := by have := d.2.2.2 (Decidable.byContradiction h); omega
    dsimp only
    exact ⟨a, b, d.2.1, h4⟩
theorem wordsS_le {all : List Int} {n : Nat} {s : Nat × Int} (hs : s.1 ≤ all.length) : (wordsS all n s).2.1 ≤ all.length := by
  induction n with
  | zero => exact hs
  | succ n ih => exact wordS_le ih
theorem wordsS_val {all : List Int} {n : Nat} {s : Nat × Int} (hb : Bytes all) : ∀ x ∈ (wordsS all n s).1, 0 ≤ x ∧ x < 65536 := by
  induction n with
  | zero => intro x hx; simp [wordsS] at hx
  | succ n ih =>
    intro x hx
    simp only [wordsS, List.mem_append, List.mem_singleton] at hx
    rcases hx with hx | rfl
    · exact ih x hx
    · exact wordS_val hb
theorem longS_le {all : List Int} {s : Nat × Int} (hb : Bytes all) (hs : s.1 ≤ all.length) : (longS all s).2.1 ≤ all.length := (long_good hb hs).1
theorem withinS_le {all : List Int} {most : Int} {s : Nat × Int} (hb : Bytes all) (hs : s.1 ≤ all.length) : (withinS all most s).2.1 ≤ all.length := (within_good hb hs).1.1
theorem balS_le {all : List Int} {s : Nat × Int} (hb : Bytes all) (hs : s.1 ≤ all.length) : (balS all s).2.1 ≤ all.length := withinS_le hb (longS_le hb hs)
theorem entE_is (l : List Int) (t : Nat × Int) : (entE l t).1 = zE ∨ (entE l t).1 = ⟨2, 0, 0, 0, [], l⟩ := by
  unfold entE
  simp only
  generalize (if t.2 = 0 ∧ echk ⟨2, 0, 0, 0, [], l⟩ ≠ 0 then failS (echk ⟨2, 0, 0, 0, [], l⟩) t else t) = u
  split
  · exact .inl rfl
  · exact .inr rfl
theorem entS_val {all : List Int} {s : Nat × Int} (hb : Bytes all) (hs : s.1 ≤ all.length) : (0 ≤ (entS all s).1.kind ∧ (entS all s).1.kind < 256) ∧ (0 ≤ (entS all s).1.tr ∧ (entS all s).1.tr < 65536) ∧ (0 ≤ (entS all s).1.nu ∧ (entS all s).1.nu < 65536) ∧ Bytes (entS all s).1.args ∧ (entS all s).1.mem.length ≤ 16 := by
  have z : (0 ≤ zE.kind ∧ zE.kind < 256) ∧ (0 ≤ zE.tr ∧ zE.tr < 65536) ∧ (0 ≤ zE.nu ∧ zE.nu < 65536) ∧ Bytes zE.args ∧ zE.mem.length ≤ 16 := ⟨by decide, by decide, by decide, bytes_nil, by decide⟩
  have l1 := withinS_le (most := 2) hb hs
  have l2 := withinS_le (most := 16) hb l1
  have hn := within_most (most := 16) hb l1 (by decide)
  simp only [entS]
  split
  · have c := callS_val hb l1
    split
    · exact z
    · have k1 : (0 : Int) ≤ 1 ∧ (1 : Int) < 256 := by decide
      exact ⟨k1, c.1, c.2.1, c.2.2.2.1, Nat.zero_le _⟩
  split
  · rcases entE_is (wordsS all (withinS all 16 (withinS all 2 s).2).1.toNat (withinS all 16 (withinS all 2 s).2).2).1 (wordsS all (withinS all 16 (withinS all 2 s).2).1.toNat (withinS all 16 (withinS all 2 s).2).2).2 with h | h
    · rw [h]; exact z
    · rw [h]
      have k1 : (0 : Int) ≤ 2 ∧ (2 : Int) < 256 := by decide
      refine ⟨k1, z.2.1, z.2.2.1, bytes_nil, ?_⟩
      simp only [wordsS_len]
      omega
  · exact z
theorem restS_ok {all : List Int} {o : Let} {s : Nat × Int} (hb : Bytes all) (hs : s.1 ≤ all.length) (ho : o = { zL with kd := o.kd, fr := o.fr, to := o.to }) (hk : 0 ≤ o.kd ∧ o.kd < 8) : Ok (restS all o s).1 ∧ Ty (restS all o s).1 := by
  have z0 : (0 : Int) ≤ 0 ∧ (0 : Int) < 65536 := by decide
  have z1 : ([] : List Int).length < 2 ^ 40 := by decide
  have z2 : ([] : List Int).length ≤ 4000 := by decide
  have z3 : (0 : Int) ≤ 0 := by decide
  have k2 : 0 ≤ o.kd ∧ o.kd < 256 := by omega
  have lp := longS_le hb hs
  have lb := balS_le hb lp
  rw [ho] at *
  simp only [zL, zE, zA, zC] at *
  unfold restS
  simp only
  split
  · exact ⟨⟨z3, z1, z1, z0, z2, z0, z0, z2⟩, ⟨k2, z0, z0, bytes_nil, z0, z0, bytes_nil, z0, z0, bytes_nil⟩⟩
  split
  · split
    · have lq := withinS_le (most := 1) hb lb
      have lw := balS_le hb lq
      obtain ⟨e1, e2, e3, e4, e5⟩ := entS_val hb lw
      have e6 := Nat.lt_of_le_of_lt e5 (show 16 < 2 ^ 40 by decide)
      generalize entS all _ = X at *
      exact ⟨⟨e1.1, e6, z1, z0, z2, z0, z0, z2⟩, ⟨k2, e2, e3, e4, z0, z0, bytes_nil, z0, z0, bytes_nil⟩⟩
    · exact ⟨⟨z3, z1, z1, z0, z2, z0, z0, z2⟩, ⟨k2, z0, z0, bytes_nil, z0, z0, bytes_nil, z0, z0, bytes_nil⟩⟩
  split
  · obtain ⟨e1, e2, e3, e4, e5⟩ := entS_val hb lb
    have e6 := Nat.lt_of_le_of_lt e5 (show 16 < 2 ^ 40 by decide)
    generalize entS all _ = X at *
    exact ⟨⟨e1.1, e6, z1, z0, z2, z0, z0, z2⟩, ⟨k2, e2, e3, e4, z0, z0, bytes_nil, z0, z0, bytes_nil⟩⟩
  split
  · obtain ⟨e1, e2, e3, e4, e5⟩ := entS_val hb lp
    have e6 := Nat.lt_of_le_of_lt e5 (show 16 < 2 ^ 40 by decide)
    generalize entS all _ = X at *
    exact ⟨⟨e1.1, e6, z1, z0, z2, z0, z0, z2⟩, ⟨k2, e2, e3, e4, z0, z0, bytes_nil, z0, z0, bytes_nil⟩⟩
  split
  · exact ⟨⟨z3, z1, z1, z0, z2, z0, z0, z2⟩, ⟨k2, z0, z0, bytes_nil, z0, z0, bytes_nil, z0, z0, bytes_nil⟩⟩
  split
  · have c := callS_val hb hs
    exact ⟨⟨z3, z1, z1, c.2.2.1, c.2.2.2.2, z0, z0, z2⟩, ⟨k2, z0, z0, bytes_nil, c.1, c.2.1, c.2.2.2.1, z0, z0, bytes_nil⟩⟩
  · have w1 := wordS_val (s := s) hb
    have l1 := wordS_le hs
    have w2 := wordS_val (s := (wordS all s).2) hb
    have l2 := wordS_le l1
    have l3 := longS_le hb l2
    have hn := within_most (most := 16) hb l3 (by decide)
    have l4 := withinS_le (most := 16) hb l3
    have l5 := wordsS_le (n := (withinS all 16 (longS all (wordS all (wordS all s).2).2).2).1.toNat) l4
    have a := ansS_val hb l5
    exact ⟨⟨z3, z1, by simp only [wordsS_len]; omega, z0, z2, a.1, a.2.1, a.2.2.2⟩, ⟨k2, z0, z0, bytes_nil, z0, z0, bytes_nil, w1, w2, a.2.2.1⟩⟩

structure TS (m M : Mem) (i r : Nat) (all : List Int) (s : Nat × Int) (b2 b5 : Nat) (L : Let) (ea em vm ca aa : Value) : Prop where
  x : Ext m M
  R : Rri M i r all s
  n2 : m.next ≤ b2 ∧ b2 < i ∧ b2 < r ∧ i < b5 ∧ r < b5 ∧ b5 < M.next
  g2 : M.get b2 = some (.cells (zCells 0 0 0) 51 true)
  g5 : M.get b5 = some (.cells (letC L ea em vm ca aa) 51 true)
  lr : LetR M L ea em vm ca aa
theorem TS.rd {m M M' : Mem} {i r : Nat} {all : List Int} {s s' : Nat × Int} {b2 b5 : Nat} {L : Let} {ea em vm ca aa : Value} (T : TS m M i r all s b2 b5 L ea em vm ca aa) (R' : Rri M' i r all s') (f : Fr1 i M M') : TS m M' i r all s' b2 b5 L ea em vm ca aa := by
  obtain ⟨x, R, n, g2, g5, lr⟩ := T
  have xl := x.1
  exact ⟨⟨Nat.le_trans x.1 f.1, fun j hj => (f.2 j (by omega) (by omega)).trans (x.2 j hj)⟩, R', ⟨n.1, n.2.1, n.2.2.1, n.2.2.2.1, n.2.2.2.2.1, by have := f.1; omega⟩, (f.2 b2 (by omega) (by omega)).trans g2, (f.2 b5 (by omega) (by omega)).trans g5, ⟨rri_frow R f lr.ea, rri_frow R f lr.em, rri_frow R f lr.vm, rri_frow R f lr.ca, rri_frow R f lr.aa⟩⟩
theorem TS.put {m M : Mem} {i r : Nat} {all : List Int} {s : Nat × Int} {b2 b5 : Nat} {L L' : Let} {ea em vm ca aa ea' em' vm' ca' aa' : Value} (T : TS m M i r all s b2 b5 L ea em vm ca aa) (lr' : LetR M L' ea' em' vm' ca' aa') : TS m (M.set b5 (.cells (letC L' ea' em' vm' ca' aa') 51 true)) i r all s b2 b5 L' ea' em' vm' ca' aa' := by
  obtain ⟨x, R, n, g2, g5, lr⟩ := T
  exact ⟨x.set (by omega), R.keep (Nat.le_refl _) (set_get_ne _ (by omega)) (set_get_ne _ (by omega)), n, by rw [set_get_ne _ (by omega), g2], set_get _ _ _, lr'.pz (Pz.set g5 _)⟩
theorem TS.ext {m M M' : Mem} {i r : Nat} {all : List Int} {s : Nat × Int} {b2 b5 : Nat} {L : Let} {ea em vm ca aa : Value} (T : TS m M i r all s b2 b5 L ea em vm ca aa) (y : Ext M M') : TS m M' i r all s b2 b5 L ea em vm ca aa := T.rd (T.R.ext y) ⟨y.1, fun j hj _ => y.2 j hj⟩
end Go.Proofs.Ytejgoooanapjbaa
