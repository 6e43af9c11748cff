/- A text of the abstract machine. -/






/- Letters: put. -/
import Derived.Test.YtejgoooanapjbaaAmC17k
import Derived.Test.YtejgoooanapjbaaAmBun
set_option linter.unusedSimpArgs false
set_option linter.unusedVariables false
set_option maxRecDepth 100000
set_option maxHeartbeats 4000000
namespace Go.Proofs.Ytejgoooanapjbaa
open Go Go.AM Go.AM.Crc Go.AM.Wire
theorem fxC17l : type_of% (And.intro (And.intro (And.intro (And.intro (And.intro (And.intro (And.intro @Try.underlying3 (And.intro @Try.underlying4 @Try.underlying5)) (And.intro (And.intro @Try.underlying9 @Try.underlying42) (And.intro @Try.underlying46 @Try.underlying47))) (And.intro (And.intro (And.intro @Try.underlying123 @Try.underlying23) (And.intro @Try.underlying26 @Try.underlying28)) (And.intro (And.intro @Try.underlying39 @Try.underlying41) (And.intro @Try.underlying44 @Try.underlying24)))) (And.intro (And.intro (And.intro (And.intro @Try.underlying37 @Try.underlying22) (And.intro @Try.underlying0 @Try.underlying100)) (And.intro (And.intro @Try.underlying66 @Try.underlying68) (And.intro @Try.underlying78 @Try.underlying103))) (And.intro (And.intro (And.intro @Try.underlying49 @Try.underlying34) (And.intro @Try.underlying36 @Try.underlying51)) (And.intro (And.intro @Try.underlying53 @Try.underlying55) (And.intro @Try.underlying88 @Try.underlying32))))) (And.intro (And.intro (And.intro (And.intro @Try.underlying30 (And.intro @Try.underlying61 @Try.underlying63)) (And.intro (And.intro @Try.underlying90 @Try.underlying92) (And.intro @Try.underlying94 @ts3))) (And.intro (And.intro (And.intro @ts4 @ts5) (And.intro @ts9 @ts42)) (And.intro (And.intro @ts46 @ts47) (And.intro @ts123 @ts23)))) (And.intro (And.intro (And.intro (And.intro @ts26 @ts28) (And.intro @ts39 @ts41)) (And.intro (And.intro @ts44 @ts24) (And.intro @ts37 @ts22))) (And.intro (And.intro (And.intro @ts0 @ts100) (And.intro @ts66 @ts68)) (And.intro (And.intro @ts78 @ts103) (And.intro @ts49 @ts34)))))) (And.intro (And.intro (And.intro (And.intro (And.intro @ts36 (And.intro @ts51 @ts53)) (And.intro (And.intro @ts55 @ts88) (And.intro @ts32 @ts30))) (And.intro (And.intro (And.intro @ts61 @ts63) (And.intro @ts90 @ts92)) (And.intro (And.intro @ts94 @tz3) (And.intro @tz4 @tz5)))) (And.intro (And.intro (And.intro (And.intro @tz9 @tz42) (And.intro @tz46 @tz47)) (And.intro (And.intro @tz123 @tz23) (And.intro @tz26 @tz28))) (And.intro (And.intro (And.intro @tz39 @tz41) (And.intro @tz44 @tz24)) (And.intro (And.intro @tz37 @tz22) (And.intro @tz0 @tz100))))) (And.intro (And.intro (And.intro (And.intro @tz66 (And.intro @tz68 @tz78)) (And.intro (And.intro @tz103 @tz49) (And.intro @tz34 @tz36))) (And.intro (And.intro (And.intro @tz51 @tz53) (And.intro @tz55 @tz88)) (And.intro (And.intro @tz32 @tz30) (And.intro @tz61 @tz63)))) (And.intro (And.intro (And.intro (And.intro @tz90 @tz92) (And.intro @tz94 @tb3)) (And.intro (And.intro @tb4 @tb5) (And.intro @tb9 @tb42))) (And.intro (And.intro (And.intro @tb46 @tb47) (And.intro @tb123 @tb23)) (And.intro (And.intro @tb26 @tb28) (And.intro @tb39 @tb41))))))) (And.intro (And.intro (And.intro (And.intro (And.intro (And.intro @tb44 (And.intro @tb24 @tb37)) (And.intro (And.intro @tb22 @tb0) (And.intro @tb100 @tb66))) (And.intro (And.intro (And.intro @tb68 @tb78) (And.intro @tb103 @tb49)) (And.intro (And.intro @tb34 @tb36) (And.intro @tb51 @tb53)))) (And.intro (And.intro (And.intro (And.intro @tb55 @tb88) (And.intro @tb32 @tb30)) (And.intro (And.intro @tb61 @tb63) (And.intro @tb90 @tb92))) (And.intro (And.intro (And.intro @tb94 @fr8) (And.intro @fr9 @fr10)) (And.intro (And.intro @fr11 @fr13) (And.intro @fr15 @fr16))))) (And.intro (And.intro (And.intro (And.intro @fr18 (And.intro @fr19 @fr20)) (And.intro (And.intro @fr21 @fr22) (And.intro @fr23 @fr24))) (And.intro (And.intro (And.intro @fr25 @fr26) (And.intro @fr27 @fr28)) (And.intro (And.intro @fr38 @fr39) (And.intro @fr40 @fr41)))) (And.intro (And.intro (And.intro (And.intro @fr42 @fr51) (And.intro @fr52 @fr53)) (And.intro (And.intro @fr54 @bz46) (And.intro @al46 @fa46_0))) (And.intro (And.intro (And.intro @fa46_1 @bz28) (And.intro @bz26 @bz41)) (And.intro (And.intro @bz44 @al41) (And.intro @al44 @fa44_0)))))) (And.intro (And.intro (And.intro (And.intro (And.intro @fa44_1 (And.intro @fa44_2 @fa41_0)) (And.intro (And.intro @fa41_1 @fa41_2) (And.intro @fa28_0 @fa28_1))) (And.intro (And.intro (And.intro @fa28_2 @fa26_0) (And.intro @fa26_1 @fa26_2)) (And.intro (And.intro @fa26_3 @bz103) (And.intro @al68 @al103)))) (And.intro (And.intro (And.intro (And.intro @fa68_0 @fa103_0) (And.intro @fa103_1 @fa103_2)) (And.intro (And.intro @bin_weq @bin_wneq) (And.intro @bin_req @bin_rneq))) (And.intro (And.intro (And.intro @bz39 @fa39_0) (And.intro @fa39_1 @bz68)) (And.intro (And.intro @bz49 @al49) (And.intro @fa49_0 @fa49_1))))) (And.intro (And.intro (And.intro (And.intro (And.intro @fa49_2 @bz51) (And.intro @al51 @fa51_0)) (And.intro (And.intro @fa51_1 @fa51_2) (And.intro @fa51_3 @fa51_4))) (And.intro (And.intro (And.intro @fa51_5 @fa51_6) (And.intro @fa51_7 @fa51_8)) (And.intro (And.intro @fa51_9 @fa51_10) (And.intro @fa51_11 @bz36)))) (And.intro (And.intro (And.intro (And.intro @al36 @fa36_0) (And.intro @fa36_1 @oneOf_two)) (And.intro (And.intro @al24 @al90) (And.intro @bz32 @set_set))) (And.intro (And.intro (And.intro @bldL3 @bldB) (And.intro @vqB @vqE)) (And.intro (And.intro @vqA @vqC) (And.intro @vqI @vqW)))))))) := (And.intro (And.intro (And.intro (And.intro (And.intro (And.intro (And.intro @Try.underlying3 (And.intro @Try.underlying4 @Try.underlying5)) (And.intro (And.intro @Try.underlying9 @Try.underlying42) (And.intro @Try.underlying46 @Try.underlying47))) (And.intro (And.intro (And.intro @Try.underlying123 @Try.underlying23) (And.intro @Try.underlying26 @Try.underlying28)) (And.intro (And.intro @Try.underlying39 @Try.underlying41) (And.intro @Try.underlying44 @Try.underlying24)))) (And.intro (And.intro (And.intro (And.intro @Try.underlying37 @Try.underlying22) (And.intro @Try.underlying0 @Try.underlying100)) (And.intro (And.intro @Try.underlying66 @Try.underlying68) (And.intro @Try.underlying78 @Try.underlying103))) (And.intro (And.intro (And.intro @Try.underlying49 @Try.underlying34) (And.intro @Try.underlying36 @Try.underlying51)) (And.intro (And.intro @Try.underlying53 @Try.underlying55) (And.intro @Try.underlying88 @Try.underlying32))))) (And.intro (And.intro (And.intro (And.intro @Try.underlying30 (And.intro @Try.underlying61 @Try.underlying63)) (And.intro (And.intro @Try.underlying90 @Try.underlying92) (And.intro @Try.underlying94 @ts3))) (And.intro (And.intro (And.intro @ts4 @ts5) (And.intro @ts9 @ts42)) (And.intro (And.intro @ts46 @ts47) (And.intro @ts123 @ts23)))) (And.intro (And.intro (And.intro (And.intro @ts26 @ts28) (And.intro @ts39 @ts41)) (And.intro (And.intro @ts44 @ts24) (And.intro @ts37 @ts22))) (And.intro (And.intro (And.intro @ts0 @ts100) (And.intro @ts66 @ts68)) (And.intro (And.intro @ts78 @ts103) (And.intro @ts49 @ts34)))))) (And.intro (And.intro (And.intro (And.intro (And.intro @ts36 (And.intro @ts51 @ts53)) (And.intro (And.intro @ts55 @ts88) (And.intro @ts32 @ts30))) (And.intro (And.intro (And.intro @ts61 @ts63) (And.intro @ts90 @ts92)) (And.intro (And.intro @ts94 @tz3) (And.intro @tz4 @tz5)))) (And.intro (And.intro (And.intro (And.intro @tz9 @tz42) (And.intro @tz46 @tz47)) (And.intro (And.intro @tz123 @tz23) (And.intro @tz26 @tz28))) (And.intro (And.intro (And.intro @tz39 @tz41) (And.intro @tz44 @tz24)) (And.intro (And.intro @tz37 @tz22) (And.intro @tz0 @tz100))))) (And.intro (And.intro (And.intro (And.intro @tz66 (And.intro @tz68 @tz78)) (And.intro (And.intro @tz103 @tz49) (And.intro @tz34 @tz36))) (And.intro (And.intro (And.intro @tz51 @tz53) (And.intro @tz55 @tz88)) (And.intro (And.intro @tz32 @tz30) (And.intro @tz61 @tz63)))) (And.intro (And.intro (And.intro (And.intro @tz90 @tz92) (And.intro @tz94 @tb3)) (And.intro (And.intro @tb4 @tb5) (And.intro @tb9 @tb42))) (And.intro (And.intro (And.intro @tb46 @tb47) (And.intro @tb123 @tb23)) (And.intro (And.intro @tb26 @tb28) (And.intro @tb39 @tb41))))))) (And.intro (And.intro (And.intro (And.intro (And.intro (And.intro @tb44 (And.intro @tb24 @tb37)) (And.intro (And.intro @tb22 @tb0) (And.intro @tb100 @tb66))) (And.intro (And.intro (And.intro @tb68 @tb78) (And.intro @tb103 @tb49)) (And.intro (And.intro @tb34 @tb36) (And.intro @tb51 @tb53)))) (And.intro (And.intro (And.intro (And.intro @tb55 @tb88) (And.intro @tb32 @tb30)) (And.intro (And.intro @tb61 @tb63) (And.intro @tb90 @tb92))) (And.intro (And.intro (And.intro @tb94 @fr8) (And.intro @fr9 @fr10)) (And.intro (And.intro @fr11 @fr13) (And.intro @fr15 @fr16))))) (And.intro (And.intro (And.intro (And.intro @fr18 (And.intro @fr19 @fr20)) (And.intro (And.intro @fr21 @fr22) (And.intro @fr23 @fr24))) (And.intro (And.intro (And.intro @fr25 @fr26) (And.intro @fr27 @fr28)) (And.intro (And.intro @fr38 @fr39) (And.intro @fr40 @fr41)))) (And.intro (And.intro (And.intro (And.intro @fr42 @fr51) (And.intro @fr52 @fr53)) (And.intro (And.intro @fr54 @bz46) (And.intro @al46 @fa46_0))) (And.intro (And.intro (And.intro @fa46_1 @bz28) (And.intro @bz26 @bz41)) (And.intro (And.intro @bz44 @al41) (And.intro @al44 @fa44_0)))))) (And.intro (And.intro (And.intro (And.intro (And.intro @fa44_1 (And.intro @fa44_2 @fa41_0)) (And.intro (And.intro @fa41_1 @fa41_2) (And.intro @fa28_0 @fa28_1))) (And.intro (And.intro (And.intro @fa28_2 @fa26_0) (And.intro @fa26_1 @fa26_2)) (And.intro (And.intro @fa26_3 @bz103) (And.intro @al68 @al103)))) (And.intro (And.intro (And.intro (And.intro @fa68_0 @fa103_0) (And.intro @fa103_1 @fa103_2)) (And.intro (And.intro @bin_weq @bin_wneq) (And.intro @bin_req @bin_rneq))) (And.intro (And.intro (And.intro @bz39 @fa39_0) (And.intro @fa39_1 @bz68)) (And.intro (And.intro @bz49 @al49) (And.intro @fa49_0 @fa49_1))))) (And.intro (And.intro (And.intro (And.intro (And.intro @fa49_2 @bz51) (And.intro @al51 @fa51_0)) (And.intro (And.intro @fa51_1 @fa51_2) (And.intro @fa51_3 @fa51_4))) (And.intro (And.intro (And.intro @fa51_5 @fa51_6) (And.intro @fa51_7 @fa51_8)) (And.intro (And.intro @fa51_9 @fa51_10) (And.intro @fa51_11 @bz36)))) (And.intro (And.intro (And.intro (And.intro @al36 @fa36_0) (And.intro @fa36_1 @oneOf_two)) (And.intro (And.intro @al24 @al90) (And.intro @bz32 @set_set))) (And.intro (And.intro (And.intro @bldL3 @bldB) (And.intro @vqB @vqE)) (And.intro (And.intro @vqA @vqC) (And.intro @vqI @vqW))))))))
/-- What the types of a letter's parts say. -/
structure Ty (L : Let) : Prop where
  kd : 0 ≤ L.kd ∧ L.kd < 256
  et : 0 ≤ L.E.tr ∧ L.E.tr < 65536
  en : 0 ≤ L.E.nu ∧ L.E.nu < 65536
  eb : Bytes L.E.args
  ct : 0 ≤ L.C.t ∧ L.C.t < 65536
  cn : 0 ≤ L.C.n ∧ L.C.n < 65536
  cb : Bytes L.C.s
  it : 0 ≤ L.it ∧ L.it < 65536
  nn : 0 ≤ L.nn ∧ L.nn < 65536
  ab : Bytes L.A.s
theorem strOf_inj {s t : List Int} (h : Bytes s) (k : Bytes t) (e : strOf s = strOf t) : s = t := by
  have := congrArg cellsOfBytes e
  rw [cellsOf_strOf h, cellsOf_strOf k] at this
  have inj : ∀ (a b : List Int), byteCells a = byteCells b → a = b := by
    intro a
    induction a with
    | nil => intro b hb; cases b with | nil => rfl | cons _ _ => simp [byteCells] at hb
    | cons x a ih =>
      intro b hb
      cases b with
      | nil => simp [byteCells] at hb
      | cons y b =>
        simp only [byteCells, List.map_cons, List.cons.injEq, Value.int.injEq, true_and] at hb
        rw [hb.1, ih b hb.2]
  exact inj s t this
theorem bytes_nil : Bytes ([] : List Int) := by intro b h; simp at h
theorem memCk_fit {l : List Int} (h : memCk l = 0) : 1 ≤ l.length ∧ l.length ≤ 16 ∧ ∀ x ∈ l, 0 ≤ x ∧ x < 16 := by
  unfold memCk at h
  split at h
  · simp at h
  · rename_i h1
    split at h
    · rename_i h2
      refine ⟨by omega, by omega, fun x hx => ?_⟩
      obtain ⟨j, hj, rfl⟩ := List.mem_iff_getElem.1 hx
      have := List.all_eq_true.1 h2 j (List.mem_range.2 hj)
      simp only [riseAt, Bool.and_eq_true, decide_eq_true_eq, getD_at hj] at this
      exact ⟨this.1.1, this.1.2⟩
    · simp at h
theorem fit_of {E : Ent} (h : echk E = 0) (hk : 0 ≤ E.kind) (t : 0 ≤ E.tr ∧ E.tr < 65536) (n : 0 ≤ E.nu ∧ E.nu < 65536) (b : Bytes E.args) : Fit E := by
  obtain ⟨k, tr, nu, pc, args, mem⟩ := E
  simp only at hk t n b
  have h : echeckOf k tr nu pc args mem = 0 := h
  unfold echeckOf at h
  split at h
  · simp at h
  rename_i h3
  split at h
  · simp at h
  rename_i h4
  have hc0 : k ≠ 1 → tr = 0 ∧ nu = 0 ∧ pc = 0 ∧ args = [] := by
    intro h1
    have : csameB tr nu pc 0 0 0 args [] = true := by
      cases hc : csameB tr nu pc 0 0 0 args [] with
      | true => rfl
      | false => exact (h4 (.inl ⟨h1, hc⟩)).elim
    simp only [csameB, Bool.and_eq_true, decide_eq_true_eq] at this
    exact ⟨this.1.1, this.1.2, this.2.1, strOf_inj b bytes_nil this.2.2⟩
  have hc1 : k ≠ 2 → mem = [] := by
    intro h2
    refine List.eq_nil_of_length_eq_zero ?_
    refine Decidable.byContradiction fun h0 => h4 (.inr ⟨h2, by omega⟩)
  have hp : (0 ≤ pc ∧ pc < 65536) ∧ args.length ≤ 4000 := by
    by_cases h1 : k = 1
    · rw [if_pos h1] at h
      unfold ccheckOf at h
      split at h
      · simp at h
      · split at h
        · simp at h
        · exact ⟨by omega, by omega⟩
    · obtain ⟨_, _, h5, h6⟩ := hc0 h1
      rw [h5, h6]
      exact ⟨by decide, by decide⟩
  have hm : memCk mem = 0 ∨ mem = [] := by
    by_cases h2 : k = 2
    · rw [if_neg (by omega), if_pos h2] at h
      exact .inl h
    · exact .inr (hc1 h2)
  refine ⟨by show k = 0 ∨ k = 1 ∨ k = 2; omega, hc0, hc1, t, n, hp.1, b, hp.2, ?_, ?_, ?_⟩
  · show mem.length ≤ 16
    rcases hm with hm | hm
    · exact (memCk_fit hm).2.1
    · rw [hm]; decide
  · show ∀ x ∈ mem, _
    rcases hm with hm | hm
    · exact (memCk_fit hm).2.2
    · rw [hm]; intro x hx; simp at hx
  · show k = 2 → memCk mem = 0
    intro h2
    rw [if_neg (by omega), if_pos h2] at h
    exact h

def balB (r n : Int) : List Int := longB r ++ wordB n
theorem balB_length (r n : Int) : (balB r n).length = 6 := rfl
def viewB (n : Int) (l : List Int) : List Int := longB n ++ (wordB l.length ++ l.flatMap wordB)
/-- A letter's bytes, those behind its kind, from, to. -/
def bodyB (L : Let) : List Int :=
  if L.kd = 0 ∨ L.kd = 3 then longB L.pl ++ balB L.br L.bn
  else if L.kd = 1 then longB L.pl ++ (balB L.br L.bn ++ (if L.sm = true then wordB 1 ++ (balB L.wr L.wn ++ entB L.E) else wordB 0))
  else if L.kd = 2 then longB L.pl ++ (balB L.br L.bn ++ entB L.E)
  else if L.kd = 4 then longB L.pl ++ entB L.E
  else if L.kd = 5 then longB L.pl
  else if L.kd = 6 then callB L.C.t L.C.n L.C.p L.C.s
  else wordB L.it ++ (wordB L.nn ++ (viewB L.vn L.vm ++ ansB L.A.e L.A.q L.A.s))
def letB (L : Let) : List Int := wordB L.kd ++ (wordB L.fr ++ (wordB L.to ++ bodyB L))
/-- A letter that may be. -/
structure LFit (L : Let) : Prop where
  kd : 0 ≤ L.kd ∧ L.kd < 8
  fr : 0 ≤ L.fr ∧ L.fr < 16
  to : 0 ≤ L.to ∧ L.to < 16
  pl : L.kd ≤ 5 → 0 ≤ L.pl ∧ L.pl < 4294967296
  b : L.kd < 4 → (0 ≤ L.br ∧ L.br < 4294967296) ∧ 0 ≤ L.bn ∧ L.bn < 16
  w : L.kd = 1 → L.sm = true → (0 ≤ L.wr ∧ L.wr < 4294967296) ∧ 0 ≤ L.wn ∧ L.wn < 16
  E : (L.kd = 1 ∧ L.sm = true) ∨ L.kd = 2 ∨ L.kd = 4 → Fit L.E
  vn : L.kd = 7 → 0 ≤ L.vn ∧ L.vn < 4294967296
  vm : L.kd = 7 → memCk L.vm = 0
theorem right_of {r n : Int} (h : rightB r n = true) : (0 ≤ r ∧ r < 4294967296) ∧ 0 ≤ n ∧ n < 16 := by
  simp only [rightB, Bool.and_eq_true, decide_eq_true_eq] at h
  omega
theorem lfit_of {L : Let} (ok : Ok L) (ty : Ty L) (h : lck L = 0) : LFit L := by
  unfold lck at h
  split at h
  · simp at h
  rename_i h8
  split at h
  · simp at h
  rename_i hr
  split at h
  · rename_i h1; exact (h1 h).elim
  rename_i hv
  have hr : rangeB (only L) = true := by
    cases hc : rangeB (only L) with
    | true => rfl
    | false => exact (hr hc).elim
  have hv : viewE (only L) = 0 := Decidable.byContradiction hv
  simp only [rangeB, Bool.and_eq_true, decide_eq_true_eq] at hr
  obtain ⟨f0, f1, t0, t1, p0, p1, rb, rw_⟩ := hr
  have rb := right_of rb
  have rw_ := right_of rw_
  have eE := only_ok ok
  have ks := ty.kd
  have k8 : L.kd = 0 ∨ L.kd = 3 ∨ L.kd = 1 ∨ L.kd = 2 ∨ L.kd = 4 ∨ L.kd = 5 ∨ L.kd = 6 ∨ L.kd = 7 := by omega
  have fe : echk L.E = 0 → Fit L.E := fun e => fit_of e ok.ek ty.et ty.en ty.eb
  have eo := only_kd L
  rcases k8 with k | k | k | k | k | k | k | k
  · have e : only L = { zL with kd := L.kd, fr := L.fr, to := L.to, pl := L.pl, br := L.br, bn := L.bn } := by rw [only, if_pos (.inl k)]
    rw [e] at f0 f1 t0 t1 p0 p1 rb
    exact ⟨by omega, ⟨f0, f1⟩, ⟨t0, t1⟩, fun _ => ⟨p0, p1⟩, fun _ => rb, fun q => by omega, fun q => by omega, fun q => by omega, fun q => by omega⟩
  · have e : only L = { zL with kd := L.kd, fr := L.fr, to := L.to, pl := L.pl, br := L.br, bn := L.bn } := by rw [only, if_pos (.inr k)]
    rw [e] at f0 f1 t0 t1 p0 p1 rb
    exact ⟨by omega, ⟨f0, f1⟩, ⟨t0, t1⟩, fun _ => ⟨p0, p1⟩, fun _ => rb, fun q => by omega, fun q => by omega, fun q => by omega, fun q => by omega⟩
  · cases hs : L.sm with
    | true =>
      have e : only L = { zL with kd := L.kd, fr := L.fr, to := L.to, pl := L.pl, br := L.br, bn := L.bn, sm := true, wr := L.wr, wn := L.wn, E := L.E } := by rw [only, if_neg (by omega), if_pos k, if_pos hs]
      rw [e] at f0 f1 t0 t1 p0 p1 rb rw_ h
      exact ⟨by omega, ⟨f0, f1⟩, ⟨t0, t1⟩, fun _ => ⟨p0, p1⟩, fun _ => rb, fun _ _ => rw_, fun _ => fe h, fun q => by omega, fun q => by omega⟩
    | false =>
      have e : only L = { zL with kd := L.kd, fr := L.fr, to := L.to, pl := L.pl, br := L.br, bn := L.bn } := by rw [only, if_neg (by omega), if_pos k, if_neg (by rw [hs]; decide)]
      rw [e] at f0 f1 t0 t1 p0 p1 rb
      refine ⟨by omega, ⟨f0, f1⟩, ⟨t0, t1⟩, fun _ => ⟨p0, p1⟩, fun _ => rb, fun _ q => by rw [hs] at q; simp at q, fun q => ?_, fun q => by omega, fun q => by omega⟩
      rcases q with ⟨_, q⟩ | q
      · rw [hs] at q; simp at q
      · omega
  · have e : only L = { zL with kd := L.kd, fr := L.fr, to := L.to, pl := L.pl, br := L.br, bn := L.bn, E := L.E } := by rw [only, if_neg (by omega), if_neg (by omega), if_pos k]
    rw [e] at f0 f1 t0 t1 p0 p1 rb h
    exact ⟨by omega, ⟨f0, f1⟩, ⟨t0, t1⟩, fun _ => ⟨p0, p1⟩, fun _ => rb, fun q => by omega, fun _ => fe h, fun q => by omega, fun q => by omega⟩
  · have e : only L = { zL with kd := L.kd, fr := L.fr, to := L.to, pl := L.pl, E := L.E } := by rw [only, if_neg (by omega), if_neg (by omega), if_neg (by omega), if_pos k]
    rw [e] at f0 f1 t0 t1 p0 p1 h
    exact ⟨by omega, ⟨f0, f1⟩, ⟨t0, t1⟩, fun _ => ⟨p0, p1⟩, fun q => by omega, fun q => by omega, fun _ => fe h, fun q => by omega, fun q => by omega⟩
  · have e : only L = { zL with kd := L.kd, fr := L.fr, to := L.to, pl := L.pl } := by rw [only, if_neg (by omega), if_neg (by omega), if_neg (by omega), if_neg (by omega), if_pos k]
    rw [e] at f0 f1 t0 t1 p0 p1
    exact ⟨by omega, ⟨f0, f1⟩, ⟨t0, t1⟩, fun _ => ⟨p0, p1⟩, fun q => by omega, fun q => by omega, fun q => by omega, fun q => by omega, fun q => by omega⟩
  · have e : only L = { zL with kd := L.kd, fr := L.fr, to := L.to, C := L.C } := by rw [only, if_neg (by omega), if_neg (by omega), if_neg (by omega), if_neg (by omega), if_neg (by omega), if_pos k]
    rw [e] at f0 f1 t0 t1
    exact ⟨by omega, ⟨f0, f1⟩, ⟨t0, t1⟩, fun q => by omega, fun q => by omega, fun q => by omega, fun q => by omega, fun q => by omega, fun q => by omega⟩
  · have e : only L = { zL with kd := L.kd, fr := L.fr, to := L.to, it := L.it, nn := L.nn, vn := L.vn, vm := L.vm, A := L.A } := by rw [only, if_neg (by omega), if_neg (by omega), if_neg (by omega), if_neg (by omega), if_neg (by omega), if_neg (by omega), if_pos k]
    rw [e] at f0 f1 t0 t1 hv
    have hv : (if L.kd = 7 then (if 4294967296 ≤ L.vn then 2 else viewCk L.vn L.vm) else 0) = 0 := hv
    rw [if_pos k] at hv
    split at hv
    · simp at hv
    unfold viewCk at hv
    split at hv
    · simp at hv
    exact ⟨by omega, ⟨f0, f1⟩, ⟨t0, t1⟩, fun q => by omega, fun q => by omega, fun q => by omega, fun q => by omega, fun _ => by omega, fun _ => hv⟩
theorem body_len {L : Let} (f : LFit L) (ok : Ok L) : (bodyB L).length ≤ 5000 := by
  have e1 : (L.kd = 1 ∧ L.sm = true) ∨ L.kd = 2 ∨ L.kd = 4 → (entB L.E).length ≤ 4300 := fun h => entB_len (f.E h)
  unfold bodyB
  split
  · simp only [List.length_append, longB_length, balB_length]; omega
  split
  · split
    · rename_i k s
      have := e1 (.inl ⟨k, s⟩)
      simp only [List.length_append, longB_length, balB_length, wordB_length]; omega
    · simp only [List.length_append, longB_length, balB_length, wordB_length]; omega
  split
  · rename_i k
    have := e1 (.inr (.inl k))
    simp only [List.length_append, longB_length, balB_length]; omega
  split
  · rename_i k
    have := e1 (.inr (.inr k))
    simp only [List.length_append, longB_length]; omega
  split
  · simp only [longB_length]; omega
  split
  · rw [callB_length]; have := ok.cs; omega
  · have k7 : L.kd = 7 := by have := f.kd; omega
    have := (memCk_fit (f.vm k7)).2.1
    have := ok.al
    simp only [viewB, List.length_append, longB_length, wordB_length, ansB_length, words_len]; omega
theorem letB_len {L : Let} (f : LFit L) (ok : Ok L) : (letB L).length ≤ 5006 := by
  have := body_len f ok
  simp only [letB, List.length_append, wordB_length]
  omega
theorem bytes_bal {r n : Int} (h : (0 ≤ r ∧ r < 4294967296) ∧ 0 ≤ n ∧ n < 16) : Bytes (balB r n) := bytes_append (bytes_long h.1.1 h.1.2) (bytes_word h.2.1 (by omega))
theorem letB_bytes {L : Let} (f : LFit L) (ok : Ok L) (ty : Ty L) : Bytes (letB L) := by
  have k := f.kd
  refine bytes_append (bytes_word (by omega) (by omega)) (bytes_append (bytes_word f.fr.1 (by have := f.fr; omega)) (bytes_append (bytes_word f.to.1 (by have := f.to; omega)) ?_))
  unfold bodyB
  split
  · exact bytes_append (bytes_long (f.pl (by omega)).1 (f.pl (by omega)).2) (bytes_bal (f.b (by omega)))
  split
  · refine bytes_append (bytes_long (f.pl (by omega)).1 (f.pl (by omega)).2) (bytes_append (bytes_bal (f.b (by omega))) ?_)
    split
    · rename_i k1 s
      exact bytes_append (bytes_word (by decide) (by decide)) (bytes_append (bytes_bal (f.w k1 s)) (entB_bytes (f.E (.inl ⟨k1, s⟩))))
    · exact bytes_word (by decide) (by decide)
  split
  · rename_i k2
    exact bytes_append (bytes_long (f.pl (by omega)).1 (f.pl (by omega)).2) (bytes_append (bytes_bal (f.b (by omega))) (entB_bytes (f.E (.inr (.inl k2)))))
  split
  · rename_i k4
    exact bytes_append (bytes_long (f.pl (by omega)).1 (f.pl (by omega)).2) (entB_bytes (f.E (.inr (.inr k4))))
  split
  · exact bytes_long (f.pl (by omega)).1 (f.pl (by omega)).2
  split
  · exact bytes_append (bytes_word ty.ct.1 ty.ct.2) (bytes_append (bytes_word ty.cn.1 ty.cn.2) (bytes_append (bytes_word ok.cp.1 ok.cp.2) (bytes_text ty.cb (by have := ok.cs; omega))))
  · have k7 : L.kd = 7 := by omega
    have hm := memCk_fit (f.vm k7)
    have hv := f.vn k7
    refine bytes_append (bytes_word ty.it.1 ty.it.2) (bytes_append (bytes_word ty.nn.1 ty.nn.2) (bytes_append ?_ ?_))
    · exact bytes_append (bytes_long hv.1 hv.2) (bytes_append (bytes_word (by omega) (by omega)) (flat_bytes _ fun x hx => bytes_word (hm.2.2 x hx).1 (by have := (hm.2.2 x hx).2; omega)))
    · exact bytes_append (bytes_word ok.ae.1 ok.ae.2) (bytes_append (bytes_word ok.aq.1 ok.aq.2) (bytes_text ty.ab (by have := ok.al; omega)))

/-- A writer in block i, made in m0. -/
def WS (m0 : Mem) (i : Nat) (M : Mem) (bs : List Int) : Prop := ∃ r, Wri M i r bs ∧ (r = i ∨ m0.next ≤ r) ∧ Fr2 i i m0 M
theorem WS.at {m0 M : Mem} {i j : Nat} {bs : List Int} (W : WS m0 i M bs) (hj : j < m0.next) (hn : j ≠ i) : M.get j = m0.get j := by
  obtain ⟨r, w, y, f⟩ := W
  exact f.2 j hj hn hn
theorem WS.ext {m m0 M : Mem} {i : Nat} {bs : List Int} (W : WS m0 i M bs) (x : Ext m m0) (h : m.next ≤ i) : Ext m M := by
  obtain ⟨r, w, y, f⟩ := W
  exact ⟨Nat.le_trans x.1 f.1, fun j hj => (f.2 j (Nat.lt_of_lt_of_le hj x.1) (by omega) (by omega)).trans (x.2 j hj)⟩
theorem ws_step {m0 M M' : Mem} {i r r' : Nat} {bs' : List Int} (y : r = i ∨ m0.next ≤ r) (f : Fr2 i i m0 M) (w' : Wri M' i r' bs') (y' : r' = r ∨ M.next ≤ r') (f' : Fr2 i r M M') : WS m0 i M' bs' :=
  ⟨r', w', by have := f.1; omega, f.trans f' y⟩
theorem ws_word {m0 M : Mem} {i : Nat} {bs : List Int} {x : Int} (W : WS m0 i M bs) (h : 0 ≤ x ∧ x < 65536) (hl : bs.length < 2 ^ 36) {K : Value → Mem → Prop} (hK : ∀ M', WS m0 i M' (bs ++ wordB x) → K (.tuple #[]) M') : Ret Try.prog 18 [.pointer (some ⟨i, 0, none⟩), .int .u16 x] M K := by
  obtain ⟨r, w, y, f⟩ := W
  exact word_ret w h.1 h.2 (by omega) fun M' r' w' y' f' => hK _ (ws_step y f w' y' f')
theorem ws_long {m0 M : Mem} {i : Nat} {bs : List Int} {x : Int} (W : WS m0 i M bs) (h : 0 ≤ x ∧ x < 4294967296) (hl : bs.length < 2 ^ 36) {K : Value → Mem → Prop} (hK : ∀ M', WS m0 i M' (bs ++ longB x) → K (.tuple #[]) M') : Ret Try.prog 19 [.pointer (some ⟨i, 0, none⟩), .int .u32 x] M K := by
  obtain ⟨r, w, y, f⟩ := W
  exact long_ret w h.1 h.2 (by omega) fun M' r' w' y' f' => hK _ (ws_step y f w' y' f')
theorem ws_ent {m0 M : Mem} {i : Nat} {bs : List Int} {v : Value} {E : Ent} (W : WS m0 i M bs) (f : Fit E) (h : EnF M v E) (hl : bs.length < 2 ^ 36) {K : Value → Mem → Prop} (hK : ∀ M', WS m0 i M' (bs ++ entB E) → K (.tuple #[]) M') : Ret Try.prog 21 [v, .pointer (some ⟨i, 0, none⟩)] M K := by
  obtain ⟨r, w, y, g⟩ := W
  exact vput_ret f w h hl fun M' r' w' y' f' => hK _ (ws_step y g w' y' f')
theorem ws_call {m0 M : Mem} {i : Nat} {bs : List Int} {v : Value} {t n p : Int} {s : List Int} (W : WS m0 i M bs) (h : FRow M v 1 s.length (byteCells s)) (ht : 0 ≤ t ∧ t < 65536) (hn : 0 ≤ n ∧ n < 65536) (hp : 0 ≤ p ∧ p < 65536) (hs : Bytes s) (hl : bs.length < 2 ^ 36) (hl2 : s.length ≤ 4000) {K : Value → Mem → Prop} (hK : ∀ M', WS m0 i M' (bs ++ callB t n p s) → K (.tuple #[]) M') : Ret Try.prog 22 [callV t n p v, .pointer (some ⟨i, 0, none⟩)] M K := by
  obtain ⟨r, w, y, g⟩ := W
  exact call_put_ret w (fun M' y => (wri_frow w y h).shows) ht hn hp hs (by omega) (by omega) fun M' r' w' y' f' => hK _ (ws_step y g w' y' f')
theorem ws_ans {m0 M : Mem} {i : Nat} {bs : List Int} {v : Value} {e q : Int} {s : List Int} (W : WS m0 i M bs) (h : FRow M v 1 s.length (byteCells s)) (he : 0 ≤ e ∧ e < 65536) (hq : 0 ≤ q ∧ q < 65536) (hs : Bytes s) (hl : bs.length < 2 ^ 36) (hl2 : s.length ≤ 4000) {K : Value → Mem → Prop} (hK : ∀ M', WS m0 i M' (bs ++ ansB e q s) → K (.tuple #[]) M') : Ret Try.prog 23 [ansV e q v, .pointer (some ⟨i, 0, none⟩)] M K := by
  obtain ⟨r, w, y, g⟩ := W
  exact ans_put_ret w (fun M' y => (wri_frow w y h).shows) he hq hs (by omega) (by omega) fun M' r' w' y' f' => hK _ (ws_step y g w' y' f')
theorem u32_id {x : Int} (h : 0 ≤ x ∧ x < 4294967296) : IntKind.u32.wrap x = x := by rw [u32_lo]; omega
theorem u16_id {x : Int} (h : 0 ≤ x ∧ x < 65536) : IntKind.u16.wrap x = x := by rw [u16_lo]; omega
theorem ws_box {m0 M : Mem} {i : Nat} {bs : List Int} {B : Blk} (W : WS m0 i M bs) : WS m0 i (M.new B) bs := by
  obtain ⟨r, w, y, f⟩ := W
  exact ⟨r, w.ext (Ext.new _ _), y, f.trans ⟨Nat.le_succ _, fun j hj _ _ => new_get_ne _ (by omega)⟩ (.inl rfl)⟩
theorem ws_bal {m0 M : Mem} {i : Nat} {bs : List Int} {x n : Int} (W : WS m0 i M bs) (h : (0 ≤ x ∧ x < 4294967296) ∧ 0 ≤ n ∧ n < 16) (hl : bs.length < 2 ^ 35) {K : Value → Mem → Prop} (hK : ∀ M', WS m0 i M' (bs ++ balB x n) → K (.tuple #[]) M') : Ret Try.prog 20 [.pointer (some ⟨i, 0, none⟩), bal x n] M K := by
  refine ret_wp [] Try.func20 rfl (by decide) (by kernel_rfl) ?_
  have e1 := u32_id h.1
  have e2 : IntKind.u16.wrap n = n := u16_id (by omega)
  simp only [Nat.reduceAdd, reduceIte, Nat.reduceEqDiff, reduceCtorEq, opLen, Int.reduceLT, Int.reduceEq, opConvert, opIndexAddr, opLoad, Nat.reduceLT, undef, Nat.reduceLeDiff, Array.toList, wk4, wk5, wk0, fxC17l, e1]
  obtain ⟨r, w, y, f⟩ := W
  have wr := w.2.1
  have wi := w.1
  have w0 := w.ext (Ext.new M (.cells [.int .i64 x, .int .i64 n] 36 true))
  have f0 : Fr2 i i m0 (M.new (.cells [.int .i64 x, .int .i64 n] 36 true)) := f.trans ⟨Nat.le_succ _, fun j hj _ _ => new_get_ne _ (by omega)⟩ (.inl rfl)
  have g0 := new_get M (.cells [.int .i64 x, .int .i64 n] 36 true)
  refine long_ret w0 h.1.1 h.1.2 (by omega) fun M1 r1 w1 y1 f1 => ?_
  have g1 := (f1.2 M.next (by simp only [new_next]; omega) (by omega) (by omega)).trans g0
  simp only [Nat.reduceAdd, reduceIte, Nat.reduceEqDiff, reduceCtorEq, opLen, Int.reduceLT, Int.reduceEq, opConvert, opIndexAddr, opLoad, Nat.reduceLT, undef, Nat.reduceLeDiff, Array.toList, wk4, wk5, wk0, fxC17l, g1, e2]
  have hl' : (bs ++ longB x).length < 2 ^ 40 := by rw [List.length_append, longB_length]; omega
  refine word_ret w1 h.2.1 (by omega) hl' fun M2 r2 w2 y2 f2 => ?_
  simp only [Nat.reduceAdd, reduceIte, Nat.reduceEqDiff, reduceCtorEq, opLen, Int.reduceLT, Int.reduceEq, opConvert, opIndexAddr, opLoad, Nat.reduceLT, undef, Nat.reduceLeDiff, Array.toList, wk4, wk5, wk0, fxC17l]
  rw [List.append_assoc] at w2
  have fm := f0.1
  simp only [new_next] at y1
  exact hK _ (ws_step (r := r1) (by simp only [new_next] at fm; have := f.1; omega) (f0.trans f1 y) w2 y2 f2)
end Go.Proofs.Ytejgoooanapjbaa

/- Letters: put, simp only [Nat.reduceAdd, reduceIte, Nat.reduceEqDiff, reduceCtorEq, opLen, Int.reduceLT, Int.reduceEq, opConvert, opIndexAddr, opLoad, Nat.reduceLT, undef, Nat.reduceLeDiff, Array.toList, wk4, wk5, wk0, fxC17p]ed. -/
set_option maxRecDepth 100000
set_option maxHeartbeats 4000000
namespace Go.Proofs.Ytejgoooanapjbaa
open Go Go.AM Go.AM.Crc Go.AM.Wire
theorem fxC17p : type_of% (And.intro (And.intro (And.intro (And.intro (And.intro (And.intro (And.intro @Try.underlying3 (And.intro @Try.underlying4 @Try.underlying5)) (And.intro (And.intro @Try.underlying9 @Try.underlying42) (And.intro @Try.underlying46 @Try.underlying47))) (And.intro (And.intro (And.intro @Try.underlying123 @Try.underlying23) (And.intro @Try.underlying26 @Try.underlying28)) (And.intro (And.intro @Try.underlying39 @Try.underlying41) (And.intro @Try.underlying44 @Try.underlying24)))) (And.intro (And.intro (And.intro (And.intro @Try.underlying37 @Try.underlying22) (And.intro @Try.underlying0 @Try.underlying100)) (And.intro (And.intro @Try.underlying66 @Try.underlying68) (And.intro @Try.underlying78 @Try.underlying103))) (And.intro (And.intro (And.intro @Try.underlying49 @Try.underlying34) (And.intro @Try.underlying36 @Try.underlying51)) (And.intro (And.intro @Try.underlying53 @Try.underlying55) (And.intro @Try.underlying88 @Try.underlying32))))) (And.intro (And.intro (And.intro (And.intro @Try.underlying30 (And.intro @Try.underlying61 @Try.underlying63)) (And.intro (And.intro @Try.underlying90 @Try.underlying92) (And.intro @Try.underlying94 @ts3))) (And.intro (And.intro (And.intro @ts4 @ts5) (And.intro @ts9 @ts42)) (And.intro (And.intro @ts46 @ts47) (And.intro @ts123 @ts23)))) (And.intro (And.intro (And.intro (And.intro @ts26 @ts28) (And.intro @ts39 @ts41)) (And.intro (And.intro @ts44 @ts24) (And.intro @ts37 @ts22))) (And.intro (And.intro (And.intro @ts0 @ts100) (And.intro @ts66 @ts68)) (And.intro (And.intro @ts78 @ts103) (And.intro @ts49 @ts34)))))) (And.intro (And.intro (And.intro (And.intro (And.intro @ts36 (And.intro @ts51 @ts53)) (And.intro (And.intro @ts55 @ts88) (And.intro @ts32 @ts30))) (And.intro (And.intro (And.intro @ts61 @ts63) (And.intro @ts90 @ts92)) (And.intro (And.intro @ts94 @tz3) (And.intro @tz4 @tz5)))) (And.intro (And.intro (And.intro (And.intro @tz9 @tz42) (And.intro @tz46 @tz47)) (And.intro (And.intro @tz123 @tz23) (And.intro @tz26 @tz28))) (And.intro (And.intro (And.intro @tz39 @tz41) (And.intro @tz44 @tz24)) (And.intro (And.intro @tz37 @tz22) (And.intro @tz0 @tz100))))) (And.intro (And.intro (And.intro (And.intro @tz66 (And.intro @tz68 @tz78)) (And.intro (And.intro @tz103 @tz49) (And.intro @tz34 @tz36))) (And.intro (And.intro (And.intro @tz51 @tz53) (And.intro @tz55 @tz88)) (And.intro (And.intro @tz32 @tz30) (And.intro @tz61 @tz63)))) (And.intro (And.intro (And.intro (And.intro @tz90 @tz92) (And.intro @tz94 @tb3)) (And.intro (And.intro @tb4 @tb5) (And.intro @tb9 @tb42))) (And.intro (And.intro (And.intro @tb46 @tb47) (And.intro @tb123 @tb23)) (And.intro (And.intro @tb26 @tb28) (And.intro @tb39 @tb41))))))) (And.intro (And.intro (And.intro (And.intro (And.intro (And.intro @tb44 (And.intro @tb24 @tb37)) (And.intro (And.intro @tb22 @tb0) (And.intro @tb100 @tb66))) (And.intro (And.intro (And.intro @tb68 @tb78) (And.intro @tb103 @tb49)) (And.intro (And.intro @tb34 @tb36) (And.intro @tb51 @tb53)))) (And.intro (And.intro (And.intro (And.intro @tb55 @tb88) (And.intro @tb32 @tb30)) (And.intro (And.intro @tb61 @tb63) (And.intro @tb90 @tb92))) (And.intro (And.intro (And.intro @tb94 @fr8) (And.intro @fr9 @fr10)) (And.intro (And.intro @fr11 @fr13) (And.intro @fr15 @fr16))))) (And.intro (And.intro (And.intro (And.intro @fr18 (And.intro @fr19 @fr20)) (And.intro (And.intro @fr21 @fr22) (And.intro @fr23 @fr24))) (And.intro (And.intro (And.intro @fr25 @fr26) (And.intro @fr27 @fr28)) (And.intro (And.intro @fr38 @fr39) (And.intro @fr40 @fr41)))) (And.intro (And.intro (And.intro (And.intro @fr42 @fr51) (And.intro @fr52 @fr53)) (And.intro (And.intro @fr54 @bz46) (And.intro @al46 @fa46_0))) (And.intro (And.intro (And.intro @fa46_1 @bz28) (And.intro @bz26 @bz41)) (And.intro (And.intro @bz44 @al41) (And.intro @al44 @fa44_0)))))) (And.intro (And.intro (And.intro (And.intro (And.intro @fa44_1 (And.intro @fa44_2 @fa41_0)) (And.intro (And.intro @fa41_1 @fa41_2) (And.intro @fa28_0 @fa28_1))) (And.intro (And.intro (And.intro @fa28_2 @fa26_0) (And.intro @fa26_1 @fa26_2)) (And.intro (And.intro @fa26_3 @bz103) (And.intro @al68 @al103)))) (And.intro (And.intro (And.intro (And.intro @fa68_0 @fa103_0) (And.intro @fa103_1 @fa103_2)) (And.intro (And.intro @bin_weq @bin_wneq) (And.intro @bin_req @bin_rneq))) (And.intro (And.intro (And.intro @bz39 @fa39_0) (And.intro @fa39_1 @bz68)) (And.intro (And.intro @bz49 @al49) (And.intro @fa49_0 @fa49_1))))) (And.intro (And.intro (And.intro (And.intro (And.intro @fa49_2 @bz51) (And.intro @al51 @fa51_0)) (And.intro (And.intro @fa51_1 @fa51_2) (And.intro @fa51_3 @fa51_4))) (And.intro (And.intro (And.intro @fa51_5 @fa51_6) (And.intro @fa51_7 @fa51_8)) (And.intro (And.intro @fa51_9 @fa51_10) (And.intro @fa51_11 @bz36)))) (And.intro (And.intro (And.intro (And.intro @al36 @fa36_0) (And.intro @fa36_1 @oneOf_two)) (And.intro (And.intro @al24 @al90) (And.intro @bz32 @set_set))) (And.intro (And.intro (And.intro @bldL3 @bldB) (And.intro @vqB @vqE)) (And.intro (And.intro @vqA @vqC) (And.intro @vqI @vqW)))))))) := (And.intro (And.intro (And.intro (And.intro (And.intro (And.intro (And.intro @Try.underlying3 (And.intro @Try.underlying4 @Try.underlying5)) (And.intro (And.intro @Try.underlying9 @Try.underlying42) (And.intro @Try.underlying46 @Try.underlying47))) (And.intro (And.intro (And.intro @Try.underlying123 @Try.underlying23) (And.intro @Try.underlying26 @Try.underlying28)) (And.intro (And.intro @Try.underlying39 @Try.underlying41) (And.intro @Try.underlying44 @Try.underlying24)))) (And.intro (And.intro (And.intro (And.intro @Try.underlying37 @Try.underlying22) (And.intro @Try.underlying0 @Try.underlying100)) (And.intro (And.intro @Try.underlying66 @Try.underlying68) (And.intro @Try.underlying78 @Try.underlying103))) (And.intro (And.intro (And.intro @Try.underlying49 @Try.underlying34) (And.intro @Try.underlying36 @Try.underlying51)) (And.intro (And.intro @Try.underlying53 @Try.underlying55) (And.intro @Try.underlying88 @Try.underlying32))))) (And.intro (And.intro (And.intro (And.intro @Try.underlying30 (And.intro @Try.underlying61 @Try.underlying63)) (And.intro (And.intro @Try.underlying90 @Try.underlying92) (And.intro @Try.underlying94 @ts3))) (And.intro (And.intro (And.intro @ts4 @ts5) (And.intro @ts9 @ts42)) (And.intro (And.intro @ts46 @ts47) (And.intro @ts123 @ts23)))) (And.intro (And.intro (And.intro (And.intro @ts26 @ts28) (And.intro @ts39 @ts41)) (And.intro (And.intro @ts44 @ts24) (And.intro @ts37 @ts22))) (And.intro (And.intro (And.intro @ts0 @ts100) (And.intro @ts66 @ts68)) (And.intro (And.intro @ts78 @ts103) (And.intro @ts49 @ts34)))))) (And.intro (And.intro (And.intro (And.intro (And.intro @ts36 (And.intro @ts51 @ts53)) (And.intro (And.intro @ts55 @ts88) (And.intro @ts32 @ts30))) (And.intro (And.intro (And.intro @ts61 @ts63) (And.intro @ts90 @ts92)) (And.intro (And.intro @ts94 @tz3) (And.intro @tz4 @tz5)))) (And.intro (And.intro (And.intro (And.intro @tz9 @tz42) (And.intro @tz46 @tz47)) (And.intro (And.intro @tz123 @tz23) (And.intro @tz26 @tz28))) (And.intro (And.intro (And.intro @tz39 @tz41) (And.intro @tz44 @tz24)) (And.intro (And.intro @tz37 @tz22) (And.intro @tz0 @tz100))))) (And.intro (And.intro (And.intro (And.intro @tz66 (And.intro @tz68 @tz78)) (And.intro (And.intro @tz103 @tz49) (And.intro @tz34 @tz36))) (And.intro (And.intro (And.intro @tz51 @tz53) (And.intro @tz55 @tz88)) (And.intro (And.intro @tz32 @tz30) (And.intro @tz61 @tz63)))) (And.intro (And.intro (And.intro (And.intro @tz90 @tz92) (And.intro @tz94 @tb3)) (And.intro (And.intro @tb4 @tb5) (And.intro @tb9 @tb42))) (And.intro (And.intro (And.intro @tb46 @tb47) (And.intro @tb123 @tb23)) (And.intro (And.intro @tb26 @tb28) (And.intro @tb39 @tb41))))))) (And.intro (And.intro (And.intro (And.intro (And.intro (And.intro @tb44 (And.intro @tb24 @tb37)) (And.intro (And.intro @tb22 @tb0) (And.intro @tb100 @tb66))) (And.intro (And.intro (And.intro @tb68 @tb78) (And.intro @tb103 @tb49)) (And.intro (And.intro @tb34 @tb36) (And.intro @tb51 @tb53)))) (And.intro (And.intro (And.intro (And.intro @tb55 @tb88) (And.intro @tb32 @tb30)) (And.intro (And.intro @tb61 @tb63) (And.intro @tb90 @tb92))) (And.intro (And.intro (And.intro @tb94 @fr8) (And.intro @fr9 @fr10)) (And.intro (And.intro @fr11 @fr13) (And.intro @fr15 @fr16))))) (And.intro (And.intro (And.intro (And.intro @fr18 (And.intro @fr19 @fr20)) (And.intro (And.intro @fr21 @fr22) (And.intro @fr23 @fr24))) (And.intro (And.intro (And.intro @fr25 @fr26) (And.intro @fr27 @fr28)) (And.intro (And.intro @fr38 @fr39) (And.intro @fr40 @fr41)))) (And.intro (And.intro (And.intro (And.intro @fr42 @fr51) (And.intro @fr52 @fr53)) (And.intro (And.intro @fr54 @bz46) (And.intro @al46 @fa46_0))) (And.intro (And.intro (And.intro @fa46_1 @bz28) (And.intro @bz26 @bz41)) (And.intro (And.intro @bz44 @al41) (And.intro @al44 @fa44_0)))))) (And.intro (And.intro (And.intro (And.intro (And.intro @fa44_1 (And.intro @fa44_2 @fa41_0)) (And.intro (And.intro @fa41_1 @fa41_2) (And.intro @fa28_0 @fa28_1))) (And.intro (And.intro (And.intro @fa28_2 @fa26_0) (And.intro @fa26_1 @fa26_2)) (And.intro (And.intro @fa26_3 @bz103) (And.intro @al68 @al103)))) (And.intro (And.intro (And.intro (And.intro @fa68_0 @fa103_0) (And.intro @fa103_1 @fa103_2)) (And.intro (And.intro @bin_weq @bin_wneq) (And.intro @bin_req @bin_rneq))) (And.intro (And.intro (And.intro @bz39 @fa39_0) (And.intro @fa39_1 @bz68)) (And.intro (And.intro @bz49 @al49) (And.intro @fa49_0 @fa49_1))))) (And.intro (And.intro (And.intro (And.intro (And.intro @fa49_2 @bz51) (And.intro @al51 @fa51_0)) (And.intro (And.intro @fa51_1 @fa51_2) (And.intro @fa51_3 @fa51_4))) (And.intro (And.intro (And.intro @fa51_5 @fa51_6) (And.intro @fa51_7 @fa51_8)) (And.intro (And.intro @fa51_9 @fa51_10) (And.intro @fa51_11 @bz36)))) (And.intro (And.intro (And.intro (And.intro @al36 @fa36_0) (And.intro @fa36_1 @oneOf_two)) (And.intro (And.intro @al24 @al90) (And.intro @bz32 @set_set))) (And.intro (And.intro (And.intro @bldL3 @bldB) (And.intro @vqB @vqE)) (And.intro (And.intro @vqA @vqC) (And.intro @vqI @vqW))))))))
theorem lput_ret {m : Mem} {v : Value} {L : Let} (h : LetF m v L) (ok : Ok L) (ty : Ty L) {K : Value → Mem → Prop} (hK0 : lck L ≠ 0 → ∀ m', Ext m m' → K (.tuple #[.slice none 0 0, .int .i64 (lck L)]) m')
    (hK1 : lck L = 0 → ∀ m' r', Ext m m' → m.next ≤ r' → r' < m'.next → m'.get r' = some (.cells (byteCells (letB L)) 5 true) → K (.tuple #[.slice (some ⟨r', 0, none⟩) (letB L).length 1, .int .i64 0]) m') : Ret Try.prog 10 [v] m K := by
  obtain ⟨ea, em, vm, ca, aa, rfl, h⟩ := h
  obtain ⟨a1, z1, rfl⟩ := h.ea.is
  obtain ⟨a2, z2, rfl⟩ := h.em.is
  obtain ⟨a3, z3, rfl⟩ := h.vm.is
  obtain ⟨a4, z4, rfl⟩ := h.ca.is
  obtain ⟨a5, z5, rfl⟩ := h.aa.is
  refine ret_wp [] Try.func10 rfl (by decide) (by kernel_rfl) ?_
  simp only [Nat.reduceAdd, reduceIte, Nat.reduceEqDiff, reduceCtorEq, opLen, Int.reduceLT, Int.reduceEq, opConvert, opIndexAddr, opLoad, Nat.reduceLT, undef, Nat.reduceLeDiff, Array.toList, wk4, wk5, wk0, fxC17p]
  obtain ⟨Z, hZ⟩ : ∃ Z, Z = letC L (.slice a1 L.E.args.length z1) (.slice a2 L.E.mem.length z2) (.slice a3 L.vm.length z3) (.slice a4 L.C.s.length z4) (.slice a5 L.A.s.length z5) := ⟨_, rfl⟩
  obtain ⟨m0, hm0⟩ : ∃ m0, m0 = m.new (.cells Z 51 true) := ⟨_, rfl⟩
  have x0 : Ext m m0 := by rw [hm0]; exact Ext.new _ _
  have g0 : m0.get m.next = some (.cells Z 51 true) := by rw [hm0, new_get]
  have n0 : m0.next = m.next + 1 := by rw [hm0]; rfl
  rw [hZ] at hm0
  rw [← hm0]
  clear hm0
  refine lcheck_ret ⟨_, _, _, _, _, rfl, h.pz x0.pz⟩ ok fun m1 x1 => ?_
  have X1 := x0.trans x1
  have g1 := (x1.2 m.next (by omega)).trans g0
  have n1 := x1.1
  by_cases e : lck L = 0
  · have F := lfit_of ok ty e
    rw [e] at hK1 ⊢
    obtain ⟨ck, cf, ct, cp, cb, cw, cE, cvn, cvm⟩ := id F
    have hne : ¬ m.next = m1.next := by omega
    have ek := u16_id (x := L.kd) (by omega)
    rw [hZ] at g1
    simp only [Nat.reduceAdd, reduceIte, Nat.reduceEqDiff, reduceCtorEq, opLen, Int.reduceLT, Int.reduceEq, opConvert, opIndexAddr, opLoad, Nat.reduceLT, undef, Nat.reduceLeDiff, Array.toList, wk4, wk5, wk0, fxC17p, g1, hne, ek]
    obtain ⟨i, hi0⟩ : ∃ i, i = m1.next := ⟨_, rfl⟩
    obtain ⟨m2, hm2⟩ : ∃ m2, m2 = m1.new (.cells [.slice none 0 0] 68 true) := ⟨_, rfl⟩
    have W : WS m2 i m2 [] := by rw [hm2, hi0]; exact ⟨m1.next, Wr.made, .inl rfl, Fr2.refl⟩
    have x2 : Ext m1 m2 := by rw [hm2]; exact Ext.new _ _
    have g2 : m2.get m.next = some (.cells Z 51 true) := (x2.2 m.next (by omega)).trans (by rw [hZ]; exact g1)
    have xm := X1.trans x2
    have hi : m.next ≤ i := by omega
    have n2 : m.next < m2.next := by have := x2.1; omega
    rw [← hm2, ← hi0]
    clear hm2
    have G : ∀ {M bs}, WS m2 i M bs → M.get m.next = some (.cells Z 51 true) := fun W => (W.at n2 (by omega)).trans g2
    have H : ∀ {M bs}, WS m2 i M bs → Ext m M := fun W => W.ext xm hi
    rw [hZ] at G
    have ef := u16_id (x := L.fr) (by omega)
    have et := u16_id (x := L.to) (by omega)
    refine ws_word W (by omega) (by simp) fun M W => ?_
    have g := G W
    simp only [Nat.reduceAdd, reduceIte, Nat.reduceEqDiff, reduceCtorEq, opLen, Int.reduceLT, Int.reduceEq, opConvert, opIndexAddr, opLoad, Nat.reduceLT, undef, Nat.reduceLeDiff, Array.toList, wk4, wk5, wk0, fxC17p, g, ef]
    refine ws_word W (by omega) (by simp [wordB_length]) fun M W => ?_
    have g := G W
    simp only [Nat.reduceAdd, reduceIte, Nat.reduceEqDiff, reduceCtorEq, opLen, Int.reduceLT, Int.reduceEq, opConvert, opIndexAddr, opLoad, Nat.reduceLT, undef, Nat.reduceLeDiff, Array.toList, wk4, wk5, wk0, fxC17p, g, et]
    refine ws_word W (by omega) (by simp [wordB_length]) fun M W => ?_
    have g := G W
    have e0 : letB L = [] ++ wordB L.kd ++ wordB L.fr ++ wordB L.to ++ bodyB L := by simp only [letB, List.append_assoc, List.nil_append]
    have k8 : L.kd = 0 ∨ L.kd = 3 ∨ L.kd = 1 ∨ L.kd = 2 ∨ L.kd = 4 ∨ L.kd = 5 ∨ L.kd = 6 ∨ L.kd = 7 := by omega
    obtain ⟨B, hB⟩ : ∃ B, B = [] ++ wordB L.kd ++ wordB L.fr ++ wordB L.to := ⟨_, rfl⟩
    have hBl : B.length = 6 := by rw [hB]; rfl
    rw [← hB] at W e0
    clear hB
    unfold bodyB at e0
    rcases k8 with k | k | k | k | k | k | k | k
    · rw [if_pos (.inl k)] at e0
      have ep := u32_id (cp (by omega))
      simp only [Nat.reduceAdd, reduceIte, Nat.reduceEqDiff, reduceCtorEq, opLen, Int.reduceLT, Int.reduceEq, opConvert, opIndexAddr, opLoad, Nat.reduceLT, undef, Nat.reduceLeDiff, Array.toList, wk4, wk5, wk0, fxC17p, g, k, ep]
      refine ws_long W (cp (by omega)) (by omega) fun M W => ?_
      have g := G W
      simp only [Nat.reduceAdd, reduceIte, Nat.reduceEqDiff, reduceCtorEq, opLen, Int.reduceLT, Int.reduceEq, opConvert, opIndexAddr, opLoad, Nat.reduceLT, undef, Nat.reduceLeDiff, Array.toList, wk4, wk5, wk0, fxC17p, g]
      refine ws_bal W (cb (by omega)) (by simp only [List.length_append, longB_length]; omega) fun M W => ?_
      simp only [Nat.reduceAdd, reduceIte, Nat.reduceEqDiff, reduceCtorEq, opLen, Int.reduceLT, Int.reduceEq, opConvert, opIndexAddr, opLoad, Nat.reduceLT, undef, Nat.reduceLeDiff, Array.toList, wk4, wk5, wk0, fxC17p]
      have eB : letB L = B ++ longB L.pl ++ balB L.br L.bn := by rw [e0]; simp only [List.append_assoc]
      obtain ⟨r, w, y, f⟩ := W
      have X := WS.ext ⟨r, w, y, f⟩ xm hi
      refine bytes_ret w (by have := letB_len F ok; rw [eB] at this; omega) fun M' r' x' y' z' g' => ?_
      rw [← eB] at g' ⊢
      simp only [Nat.reduceAdd, reduceIte, Nat.reduceEqDiff, reduceCtorEq, opLen, Int.reduceLT, Int.reduceEq, opConvert, opIndexAddr, opLoad, Nat.reduceLT, undef, Nat.reduceLeDiff, Array.toList, wk4, wk5, wk0, fxC17p]
      exact hK1 rfl _ r' (X.trans x') (Nat.le_trans X.1 y') z' g'
    · rw [if_pos (.inr k)] at e0
      have ep := u32_id (cp (by omega))
      simp only [Nat.reduceAdd, reduceIte, Nat.reduceEqDiff, reduceCtorEq, opLen, Int.reduceLT, Int.reduceEq, opConvert, opIndexAddr, opLoad, Nat.reduceLT, undef, Nat.reduceLeDiff, Array.toList, wk4, wk5, wk0, fxC17p, g, k, ep]
      refine ws_long W (cp (by omega)) (by omega) fun M W => ?_
      have g := G W
      simp only [Nat.reduceAdd, reduceIte, Nat.reduceEqDiff, reduceCtorEq, opLen, Int.reduceLT, Int.reduceEq, opConvert, opIndexAddr, opLoad, Nat.reduceLT, undef, Nat.reduceLeDiff, Array.toList, wk4, wk5, wk0, fxC17p, g]
      refine ws_bal W (cb (by omega)) (by simp only [List.length_append, longB_length]; omega) fun M W => ?_
      simp only [Nat.reduceAdd, reduceIte, Nat.reduceEqDiff, reduceCtorEq, opLen, Int.reduceLT, Int.reduceEq, opConvert, opIndexAddr, opLoad, Nat.reduceLT, undef, Nat.reduceLeDiff, Array.toList, wk4, wk5, wk0, fxC17p]
      have eB : letB L = B ++ longB L.pl ++ balB L.br L.bn := by rw [e0]; simp only [List.append_assoc]
      obtain ⟨r, w, y, f⟩ := W
      have X := WS.ext ⟨r, w, y, f⟩ xm hi
      refine bytes_ret w (by have := letB_len F ok; rw [eB] at this; omega) fun M' r' x' y' z' g' => ?_
      rw [← eB] at g' ⊢
      simp only [Nat.reduceAdd, reduceIte, Nat.reduceEqDiff, reduceCtorEq, opLen, Int.reduceLT, Int.reduceEq, opConvert, opIndexAddr, opLoad, Nat.reduceLT, undef, Nat.reduceLeDiff, Array.toList, wk4, wk5, wk0, fxC17p]
      exact hK1 rfl _ r' (X.trans x') (Nat.le_trans X.1 y') z' g'
    · rw [if_neg (by omega), if_pos k] at e0
      have ep := u32_id (cp (by omega))
      simp only [Nat.reduceAdd, reduceIte, Nat.reduceEqDiff, reduceCtorEq, opLen, Int.reduceLT, Int.reduceEq, opConvert, opIndexAddr, opLoad, Nat.reduceLT, undef, Nat.reduceLeDiff, Array.toList, wk4, wk5, wk0, fxC17p, g, k, ep]
      refine ws_long W (cp (by omega)) (by omega) fun M W => ?_
      have g := G W
      simp only [Nat.reduceAdd, reduceIte, Nat.reduceEqDiff, reduceCtorEq, opLen, Int.reduceLT, Int.reduceEq, opConvert, opIndexAddr, opLoad, Nat.reduceLT, undef, Nat.reduceLeDiff, Array.toList, wk4, wk5, wk0, fxC17p, g]
      refine ws_bal W (cb (by omega)) (by simp only [List.length_append, longB_length]; omega) fun M W => ?_
      have g := G W
      cases hs : L.sm with
      | false =>
        rw [if_neg (by rw [hs]; decide)] at e0
        simp only [Nat.reduceAdd, reduceIte, Nat.reduceEqDiff, reduceCtorEq, opLen, Int.reduceLT, Int.reduceEq, opConvert, opIndexAddr, opLoad, Nat.reduceLT, undef, Nat.reduceLeDiff, Array.toList, wk4, wk5, wk0, fxC17p, g, hs]
        refine ws_word W (by omega) (by simp only [List.length_append, longB_length, balB_length]; omega) fun M W => ?_
        simp only [Nat.reduceAdd, reduceIte, Nat.reduceEqDiff, reduceCtorEq, opLen, Int.reduceLT, Int.reduceEq, opConvert, opIndexAddr, opLoad, Nat.reduceLT, undef, Nat.reduceLeDiff, Array.toList, wk4, wk5, wk0, fxC17p]
        have eB : letB L = B ++ longB L.pl ++ balB L.br L.bn ++ wordB 0 := by rw [e0]; simp only [List.append_assoc]
        obtain ⟨r, w, y, f⟩ := W
        have X := WS.ext ⟨r, w, y, f⟩ xm hi
        refine bytes_ret w (by have := letB_len F ok; rw [eB] at this; omega) fun M' r' x' y' z' g' => ?_
        rw [← eB] at g' ⊢
        simp only [Nat.reduceAdd, reduceIte, Nat.reduceEqDiff, reduceCtorEq, opLen, Int.reduceLT, Int.reduceEq, opConvert, opIndexAddr, opLoad, Nat.reduceLT, undef, Nat.reduceLeDiff, Array.toList, wk4, wk5, wk0, fxC17p]
        exact hK1 rfl _ r' (X.trans x') (Nat.le_trans X.1 y') z' g'
      | true =>
        rw [if_pos hs] at e0
        simp only [Nat.reduceAdd, reduceIte, Nat.reduceEqDiff, reduceCtorEq, opLen, Int.reduceLT, Int.reduceEq, opConvert, opIndexAddr, opLoad, Nat.reduceLT, undef, Nat.reduceLeDiff, Array.toList, wk4, wk5, wk0, fxC17p, g, hs]
        refine ws_word W (by omega) (by simp only [List.length_append, longB_length, balB_length]; omega) fun M W => ?_
        have g := G W
        simp only [Nat.reduceAdd, reduceIte, Nat.reduceEqDiff, reduceCtorEq, opLen, Int.reduceLT, Int.reduceEq, opConvert, opIndexAddr, opLoad, Nat.reduceLT, undef, Nat.reduceLeDiff, Array.toList, wk4, wk5, wk0, fxC17p, g]
        refine ws_bal W (cw k hs) (by simp only [List.length_append, longB_length, balB_length, wordB_length]; omega) fun M W => ?_
        have g := G W
        simp only [Nat.reduceAdd, reduceIte, Nat.reduceEqDiff, reduceCtorEq, opLen, Int.reduceLT, Int.reduceEq, opConvert, opIndexAddr, opLoad, Nat.reduceLT, undef, Nat.reduceLeDiff, Array.toList, wk4, wk5, wk0, fxC17p, g]
        refine ws_ent W (cE (.inl ⟨k, hs⟩)) ⟨_, _, rfl, h.ea.pz (H W).pz, h.em.pz (H W).pz⟩ (by simp only [List.length_append, longB_length, balB_length, wordB_length]; omega) fun M W => ?_
        simp only [Nat.reduceAdd, reduceIte, Nat.reduceEqDiff, reduceCtorEq, opLen, Int.reduceLT, Int.reduceEq, opConvert, opIndexAddr, opLoad, Nat.reduceLT, undef, Nat.reduceLeDiff, Array.toList, wk4, wk5, wk0, fxC17p]
        have eB : letB L = B ++ longB L.pl ++ balB L.br L.bn ++ wordB 1 ++ balB L.wr L.wn ++ entB L.E := by rw [e0]; simp only [List.append_assoc]
        obtain ⟨r, w, y, f⟩ := W
        have X := WS.ext ⟨r, w, y, f⟩ xm hi
        refine bytes_ret w (by have := letB_len F ok; rw [eB] at this; omega) fun M' r' x' y' z' g' => ?_
        rw [← eB] at g' ⊢
        simp only [Nat.reduceAdd, reduceIte, Nat.reduceEqDiff, reduceCtorEq, opLen, Int.reduceLT, Int.reduceEq, opConvert, opIndexAddr, opLoad, Nat.reduceLT, undef, Nat.reduceLeDiff, Array.toList, wk4, wk5, wk0, fxC17p]
        exact hK1 rfl _ r' (X.trans x') (Nat.le_trans X.1 y') z' g'
    · rw [if_neg (by omega), if_neg (by omega), if_pos k] at e0
      have ep := u32_id (cp (by omega))
      simp only [Nat.reduceAdd, reduceIte, Nat.reduceEqDiff, reduceCtorEq, opLen, Int.reduceLT, Int.reduceEq, opConvert, opIndexAddr, opLoad, Nat.reduceLT, undef, Nat.reduceLeDiff, Array.toList, wk4, wk5, wk0, fxC17p, g, k, ep]
      refine ws_long W (cp (by omega)) (by omega) fun M W => ?_
      have g := G W
      simp only [Nat.reduceAdd, reduceIte, Nat.reduceEqDiff, reduceCtorEq, opLen, Int.reduceLT, Int.reduceEq, opConvert, opIndexAddr, opLoad, Nat.reduceLT, undef, Nat.reduceLeDiff, Array.toList, wk4, wk5, wk0, fxC17p, g]
      refine ws_bal W (cb (by omega)) (by simp only [List.length_append, longB_length]; omega) fun M W => ?_
      have g := G W
      simp only [Nat.reduceAdd, reduceIte, Nat.reduceEqDiff, reduceCtorEq, opLen, Int.reduceLT, Int.reduceEq, opConvert, opIndexAddr, opLoad, Nat.reduceLT, undef, Nat.reduceLeDiff, Array.toList, wk4, wk5, wk0, fxC17p, g]
      refine ws_ent W (cE (.inr (.inl k))) ⟨_, _, rfl, h.ea.pz (H W).pz, h.em.pz (H W).pz⟩ (by simp only [List.length_append, longB_length, balB_length, wordB_length]; omega) fun M W => ?_
      simp only [Nat.reduceAdd, reduceIte, Nat.reduceEqDiff, reduceCtorEq, opLen, Int.reduceLT, Int.reduceEq, opConvert, opIndexAddr, opLoad, Nat.reduceLT, undef, Nat.reduceLeDiff, Array.toList, wk4, wk5, wk0, fxC17p]
      have eB : letB L = B ++ longB L.pl ++ balB L.br L.bn ++ entB L.E := by rw [e0]; simp only [List.append_assoc]
      obtain ⟨r, w, y, f⟩ := W
      have X := WS.ext ⟨r, w, y, f⟩ xm hi
      refine bytes_ret w (by have := letB_len F ok; rw [eB] at this; omega) fun M' r' x' y' z' g' => ?_
      rw [← eB] at g' ⊢
      simp only [Nat.reduceAdd, reduceIte, Nat.reduceEqDiff, reduceCtorEq, opLen, Int.reduceLT, Int.reduceEq, opConvert, opIndexAddr, opLoad, Nat.reduceLT, undef, Nat.reduceLeDiff, Array.toList, wk4, wk5, wk0, fxC17p]
      exact hK1 rfl _ r' (X.trans x') (Nat.le_trans X.1 y') z' g'
    · rw [if_neg (by omega), if_neg (by omega), if_neg (by omega), if_pos k] at e0
      have ep := u32_id (cp (by omega))
      simp only [Nat.reduceAdd, reduceIte, Nat.reduceEqDiff, reduceCtorEq, opLen, Int.reduceLT, Int.reduceEq, opConvert, opIndexAddr, opLoad, Nat.reduceLT, undef, Nat.reduceLeDiff, Array.toList, wk4, wk5, wk0, fxC17p, g, k, ep]
      refine ws_long W (cp (by omega)) (by omega) fun M W => ?_
      have g := G W
      simp only [Nat.reduceAdd, reduceIte, Nat.reduceEqDiff, reduceCtorEq, opLen, Int.reduceLT, Int.reduceEq, opConvert, opIndexAddr, opLoad, Nat.reduceLT, undef, Nat.reduceLeDiff, Array.toList, wk4, wk5, wk0, fxC17p, g]
      refine ws_ent W (cE (.inr (.inr k))) ⟨_, _, rfl, h.ea.pz (H W).pz, h.em.pz (H W).pz⟩ (by simp only [List.length_append, longB_length, balB_length, wordB_length]; omega) fun M W => ?_
      simp only [Nat.reduceAdd, reduceIte, Nat.reduceEqDiff, reduceCtorEq, opLen, Int.reduceLT, Int.reduceEq, opConvert, opIndexAddr, opLoad, Nat.reduceLT, undef, Nat.reduceLeDiff, Array.toList, wk4, wk5, wk0, fxC17p]
      have eB : letB L = B ++ longB L.pl ++ entB L.E := by rw [e0]; simp only [List.append_assoc]
      obtain ⟨r, w, y, f⟩ := W
      have X := WS.ext ⟨r, w, y, f⟩ xm hi
      refine bytes_ret w (by have := letB_len F ok; rw [eB] at this; omega) fun M' r' x' y' z' g' => ?_
      rw [← eB] at g' ⊢
      simp only [Nat.reduceAdd, reduceIte, Nat.reduceEqDiff, reduceCtorEq, opLen, Int.reduceLT, Int.reduceEq, opConvert, opIndexAddr, opLoad, Nat.reduceLT, undef, Nat.reduceLeDiff, Array.toList, wk4, wk5, wk0, fxC17p]
      exact hK1 rfl _ r' (X.trans x') (Nat.le_trans X.1 y') z' g'
    · rw [if_neg (by omega), if_neg (by omega), if_neg (by omega), if_neg (by omega), if_pos k] at e0
      have ep := u32_id (cp (by omega))
      simp only [Nat.reduceAdd, reduceIte, Nat.reduceEqDiff, reduceCtorEq, opLen, Int.reduceLT, Int.reduceEq, opConvert, opIndexAddr, opLoad, Nat.reduceLT, undef, Nat.reduceLeDiff, Array.toList, wk4, wk5, wk0, fxC17p, g, k, ep]
      refine ws_long W (cp (by omega)) (by omega) fun M W => ?_
      simp only [Nat.reduceAdd, reduceIte, Nat.reduceEqDiff, reduceCtorEq, opLen, Int.reduceLT, Int.reduceEq, opConvert, opIndexAddr, opLoad, Nat.reduceLT, undef, Nat.reduceLeDiff, Array.toList, wk4, wk5, wk0, fxC17p]
      have eB : letB L = B ++ longB L.pl := by rw [e0]
      obtain ⟨r, w, y, f⟩ := W
      have X := WS.ext ⟨r, w, y, f⟩ xm hi
      refine bytes_ret w (by have := letB_len F ok; rw [eB] at this; omega) fun M' r' x' y' z' g' => ?_
      rw [← eB] at g' ⊢
      simp only [Nat.reduceAdd, reduceIte, Nat.reduceEqDiff, reduceCtorEq, opLen, Int.reduceLT, Int.reduceEq, opConvert, opIndexAddr, opLoad, Nat.reduceLT, undef, Nat.reduceLeDiff, Array.toList, wk4, wk5, wk0, fxC17p]
      exact hK1 rfl _ r' (X.trans x') (Nat.le_trans X.1 y') z' g'
    · rw [if_neg (by omega), if_neg (by omega), if_neg (by omega), if_neg (by omega), if_neg (by omega), if_pos k] at e0
      simp only [Nat.reduceAdd, reduceIte, Nat.reduceEqDiff, reduceCtorEq, opLen, Int.reduceLT, Int.reduceEq, opConvert, opIndexAddr, opLoad, Nat.reduceLT, undef, Nat.reduceLeDiff, Array.toList, wk4, wk5, wk0, fxC17p, g, k]
      refine ws_call W (h.ca.pz (H W).pz) ty.ct ty.cn ok.cp ty.cb (by omega) ok.cs fun M W => ?_
      simp only [Nat.reduceAdd, reduceIte, Nat.reduceEqDiff, reduceCtorEq, opLen, Int.reduceLT, Int.reduceEq, opConvert, opIndexAddr, opLoad, Nat.reduceLT, undef, Nat.reduceLeDiff, Array.toList, wk4, wk5, wk0, fxC17p]
      have eB : letB L = B ++ callB L.C.t L.C.n L.C.p L.C.s := by rw [e0]
      obtain ⟨r, w, y, f⟩ := W
      have X := WS.ext ⟨r, w, y, f⟩ xm hi
      refine bytes_ret w (by have := letB_len F ok; rw [eB] at this; omega) fun M' r' x' y' z' g' => ?_
      rw [← eB] at g' ⊢
      simp only [Nat.reduceAdd, reduceIte, Nat.reduceEqDiff, reduceCtorEq, opLen, Int.reduceLT, Int.reduceEq, opConvert, opIndexAddr, opLoad, Nat.reduceLT, undef, Nat.reduceLeDiff, Array.toList, wk4, wk5, wk0, fxC17p]
      exact hK1 rfl _ r' (X.trans x') (Nat.le_trans X.1 y') z' g'
    · rw [if_neg (by omega), if_neg (by omega), if_neg (by omega), if_neg (by omega), if_neg (by omega), if_neg (by omega)] at e0
      have hm := memCk_fit (cvm k)
      have ev := u32_id (cvn k)
      have el : IntKind.u16.wrap (L.vm.length : Int) = L.vm.length := u16_id (by omega)
      simp only [Nat.reduceAdd, reduceIte, Nat.reduceEqDiff, reduceCtorEq, opLen, Int.reduceLT, Int.reduceEq, opConvert, opIndexAddr, opLoad, Nat.reduceLT, undef, Nat.reduceLeDiff, Array.toList, wk4, wk5, wk0, fxC17p, g, k]
      refine ws_word W ty.it (by omega) fun M W => ?_
      have g := G W
      simp only [Nat.reduceAdd, reduceIte, Nat.reduceEqDiff, reduceCtorEq, opLen, Int.reduceLT, Int.reduceEq, opConvert, opIndexAddr, opLoad, Nat.reduceLT, undef, Nat.reduceLeDiff, Array.toList, wk4, wk5, wk0, fxC17p, g]
      refine ws_word W ty.nn (by simp only [List.length_append, wordB_length]; omega) fun M W => ?_
      have g := G W
      simp only [Nat.reduceAdd, reduceIte, Nat.reduceEqDiff, reduceCtorEq, opLen, Int.reduceLT, Int.reduceEq, opConvert, opIndexAddr, opLoad, Nat.reduceLT, undef, Nat.reduceLeDiff, Array.toList, wk4, wk5, wk0, fxC17p, g, ev]
      refine ws_long W (cvn k) (by simp only [List.length_append, wordB_length]; omega) fun M W => ?_
      have g := G W
      have lv : opLen Try.prog (some 42) (.slice a3 L.vm.length z3) = some (.int .i64 L.vm.length) := h.vm.len Try.underlying42
      simp only [Nat.reduceAdd, reduceIte, Nat.reduceEqDiff, reduceCtorEq, Int.reduceLT, Int.reduceEq, opConvert, opIndexAddr, opLoad, Nat.reduceLT, undef, Nat.reduceLeDiff, Array.toList, wk4, wk5, wk0, fxC17p, g, lv, el]
      refine ws_word W (by omega) (by simp only [List.length_append, wordB_length, longB_length]; omega) fun M W => ?_
      have g := G W
      simp only [Nat.reduceAdd, reduceIte, Nat.reduceEqDiff, reduceCtorEq, Int.reduceLT, Int.reduceEq, opConvert, opIndexAddr, opLoad, Nat.reduceLT, undef, Nat.reduceLeDiff, Array.toList, wk4, wk5, wk0, fxC17p, g, lv]
      obtain ⟨C, hC⟩ : ∃ C, C = B ++ wordB L.it ++ wordB L.nn ++ longB L.vn ++ wordB L.vm.length := ⟨_, rfl⟩
      have hCl : C.length = 16 := by rw [hC]; simp only [List.length_append, wordB_length, longB_length]; omega
      rw [← hC] at W
      refine loop_wp [] (by kernel_rfl) (fun k env μ => ∃ (j : Nat) (bs : List Int), k + j = L.vm.length ∧ bs = C ++ (L.vm.take j).flatMap wordB ∧ bs.length = C.length + j * 2 ∧ WS m2 i μ bs ∧ env 1 = some (.pointer (some ⟨m.next, 0, none⟩)) ∧ env 5 = some (.pointer (some ⟨i, 0, none⟩)) ∧ env 136 = some (.slice a3 L.vm.length z3) ∧ env 137 = some (.int .i64 L.vm.length) ∧ env 138 = some (.int .i64 j)) ?_ L.vm.length
        ⟨0, C, rfl, by simp, by omega, W, rfl, rfl, rfl, rfl, rfl⟩
      rintro k env μ ⟨j, bs, hk, hbs, hbl, W, e1, e5, e136, e137, e138⟩
      simp only [Nat.reduceAdd, reduceIte, Nat.reduceEqDiff, reduceCtorEq, opLen, Int.reduceLT, Int.reduceEq, opConvert, opIndexAddr, opLoad, Nat.reduceLT, undef, Nat.reduceLeDiff, Array.toList, wk4, wk5, wk0, fxC17p, e137, e138]
      refine cond_by (fun hlt => ?_) (fun hge => ?_)
      · have hj' : j < L.vm.length := by omega
        have hj : j < (intCells L.vm).length := by simp only [intCells, List.length_map]; omega
        obtain ⟨p1, q1, s1, _⟩ := ((h.vm.pz (H W).pz).shows).at (P := Try.prog) Try.underlying42 ts3 (by simp only [aggOf, Try.underlying3]) hj
        have ev : (intCells L.vm)[j] = .int .i64 L.vm[j] := by simp only [intCells, List.getElem_map]
        rw [ev] at s1
        have hx := hm.2.2 L.vm[j] (List.getElem_mem _)
        have e16 : IntKind.u16.wrap L.vm[j] = L.vm[j] := u16_id (by omega)
        simp only [Nat.reduceAdd, reduceIte, Nat.reduceEqDiff, reduceCtorEq, opLen, Int.reduceLT, Int.reduceEq, opConvert, Nat.reduceLT, undef, Nat.reduceLeDiff, Array.toList, wk4, wk5, wk0, fxC17p, e1, e5, e136, e137, e138, q1, s1, e16]
        refine ws_word W (by omega) (by omega) fun M W => ?_
        have hw1 : IntKind.i64.wrap ((j : Int) + 1) = ((j + 1 : Nat) : Int) := by rw [wrap_i64 (by omega) (by omega)]; rfl
        simp only [Nat.reduceAdd, reduceIte, Nat.reduceEqDiff, reduceCtorEq, opLen, Int.reduceLT, Int.reduceEq, opConvert, Nat.reduceLT, undef, Nat.reduceLeDiff, Array.toList, wk4, wk5, wk0, fxC17p, e1, e5, e136, e137, e138, hw1]
        exact ⟨k - 1, by omega, j + 1, _, by omega, by rw [flat_succ _ hj', ← List.append_assoc, ← hbs], by rw [List.length_append, wordB_length]; omega, W, rfl⟩
      · have hj : j = L.vm.length := by omega
        subst hj
        have g := G W
        simp only [Nat.reduceAdd, reduceIte, Nat.reduceEqDiff, reduceCtorEq, opLen, Int.reduceLT, Int.reduceEq, opConvert, opIndexAddr, opLoad, Nat.reduceLT, undef, Nat.reduceLeDiff, Array.toList, wk4, wk5, wk0, fxC17p, e1, e5, e137, e138, g]
        rw [List.take_length] at hbs
        refine ws_ans W (h.aa.pz (H W).pz) ok.ae ok.aq ty.ab (by omega) ok.al fun M W => ?_
        simp only [Nat.reduceAdd, reduceIte, Nat.reduceEqDiff, reduceCtorEq, opLen, Int.reduceLT, Int.reduceEq, opConvert, opIndexAddr, opLoad, Nat.reduceLT, undef, Nat.reduceLeDiff, Array.toList, wk4, wk5, wk0, fxC17p, e5]
        have eB : letB L = bs ++ ansB L.A.e L.A.q L.A.s := by rw [e0, hbs, hC, viewB]; simp only [List.append_assoc]
        obtain ⟨r, w, y, f⟩ := W
        have X := WS.ext ⟨r, w, y, f⟩ xm hi
        refine bytes_ret w (by have := letB_len F ok; rw [eB] at this; omega) fun M' r' x' y' z' g' => ?_
        rw [← eB] at g' ⊢
        simp only [Nat.reduceAdd, reduceIte, Nat.reduceEqDiff, reduceCtorEq, opLen, Int.reduceLT, Int.reduceEq, opConvert, opIndexAddr, opLoad, Nat.reduceLT, undef, Nat.reduceLeDiff, Array.toList, wk4, wk5, wk0, fxC17p]
        exact hK1 rfl _ r' (X.trans x') (Nat.le_trans X.1 y') z' g'
  · simp only [Nat.reduceAdd, reduceIte, Nat.reduceEqDiff, reduceCtorEq, opLen, Int.reduceLT, Int.reduceEq, opConvert, opIndexAddr, opLoad, Nat.reduceLT, undef, Nat.reduceLeDiff, Array.toList, wk4, wk5, wk0, fxC17p, e]
    exact hK0 e _ X1
end Go.Proofs.Ytejgoooanapjbaa
