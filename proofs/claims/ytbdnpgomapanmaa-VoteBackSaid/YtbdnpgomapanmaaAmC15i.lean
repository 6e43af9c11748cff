/- Entries: the plain law: which may be, and that bytes tell them apart. -/
import Derived.Test.YtbdnpgomapanmaaAmC15h
set_option linter.unusedSimpArgs false
set_option linter.unusedVariables false
set_option maxRecDepth 100000
namespace Go.Proofs.Ytbdnpgomapanmaa
open Go Go.AM Go.AM.Crc Go.AM.Wire

theorem EntI.newer {Q R : Nat → Prop} {m M : Mem} {v : Value} {E : Ent} (h : EntI Q m v E) (x : Ext m M) (hq : ∀ j, R j → m.next ≤ j) : EntI R M v E := by
  obtain ⟨_, _, _, _, _, _, rfl, s1, u1, s2, u2, _, _⟩ := h
  exact ⟨_, _, _, _, _, _, rfl, s1.ext u1 x, u1.mono x.1, s2.ext u2 x, u2.mono x.1, fun i off sp n z he hr => by have := u1 i off sp n z he; have := hq i hr; omega, fun i off sp n z he hr => by have := u2 i off sp n z he; have := hq i hr; omega⟩

theorem memAcc_lt (n : Int) : ∀ k, ∀ x ∈ memAcc n k, 0 ≤ x ∧ x < (k : Int)
  | 0, x, h => by simp [memAcc] at h
  | k + 1, x, h => by
    rw [memAcc] at h
    split at h
    · rcases List.mem_append.1 h with h | h
      · have := memAcc_lt n k x h; omega
      · simp at h; omega
    · have := memAcc_lt n k x h; omega
/-- Rising. -/
def Rising (l : List Int) : Prop := ∀ i, i + 1 < l.length → l.getD i 0 < l.getD (i + 1) 0
theorem rising_snoc {l : List Int} {a : Int} (h : Rising l) (hl : ∀ x ∈ l, x < a) : Rising (l ++ [a]) := by
  intro i hi
  simp only [List.length_append, List.length_cons, List.length_nil] at hi
  simp only [List.getD_eq_getElem?_getD]
  rw [List.getElem?_append_left (by omega)]
  by_cases h1 : i + 1 < l.length
  · rw [List.getElem?_append_left h1]
    have := h i h1
    simpa only [List.getD_eq_getElem?_getD] using this
  · rw [List.getElem?_append_right (by omega), show i + 1 - l.length = 0 by omega, List.getElem?_cons_zero, List.getElem?_eq_getElem (by omega)]
    exact hl _ (List.getElem_mem _)
theorem memAcc_rising (n : Int) : ∀ k, Rising (memAcc n k)
  | 0 => fun i hi => by simp [memAcc] at hi
  | k + 1 => by
    rw [memAcc]
    split
    · exact rising_snoc (memAcc_rising n k) fun x hx => (memAcc_lt n k x hx).2
    · exact memAcc_rising n k
theorem okTo_rising {l : List Int} (h : Rising l) (hx : ∀ x ∈ l, 0 ≤ x ∧ x < 16) : ∀ j, j ≤ l.length → okTo l j = true
  | 0, _ => rfl
  | j + 1, hj => by
    rw [okTo, okTo_rising h hx j (by omega), Bool.true_and, decide_eq_false, Bool.not_false]
    have hm := hx _ (List.getElem_mem (show j < l.length by omega))
    have e : l.getD j 0 = l[j] := by rw [List.getD_eq_getElem?_getD, List.getElem?_eq_getElem (by omega)]; rfl
    rintro (hb | hb | ⟨h0, hb⟩)
    · omega
    · omega
    · have := h (j - 1) (by omega)
      rw [show j - 1 + 1 = j by omega] at this
      omega
theorem members_fit (n : Int) : (membersOf n).length ≤ 16 ∧ (∀ x ∈ membersOf n, 0 ≤ x ∧ x < 16) ∧ memCheck (membersOf n) = 0 := by
  unfold membersOf
  split
  · exact ⟨by decide, by intro x hx; simp at hx; omega, by decide⟩
  · rename_i h
    have hl := memAcc_length n 16
    have hx : ∀ x ∈ memAcc n 16, 0 ≤ x ∧ x < 16 := memAcc_lt n 16
    refine ⟨hl, hx, ?_⟩
    rw [memCheck, if_neg (by omega), okTo_rising (memAcc_rising n 16) hx _ (Nat.le_refl _), if_pos rfl]
theorem fit_ent {S : Sm} (hk : 0 ≤ S.k) (ht : 0 ≤ S.t ∧ S.t < 65536) (hn : 0 ≤ S.n ∧ S.n < 65536) (hp : 0 ≤ S.p ∧ S.p < 65536) (hb : Bytes S.args) (hl : S.args.length ≤ 100) : Fit S.ent := by
  have nob : Bytes ([] : List Int) := by intro b h; simp at h
  have z : (0 : Int) ≤ 0 ∧ (0 : Int) < 65536 := by decide
  have ep : IntKind.i64.wrap S.p = S.p := wrap_i64 (by omega) (by omega)
  rw [Sm.ent]
  split
  · rw [ep]
    exact ⟨.inr (.inl rfl), fun h => (h rfl).elim, fun _ => rfl, ht, hn, hp, hb, hl, by simp, by simp, fun h => by simp at h⟩
  · split
    · obtain ⟨a, b, c⟩ := members_fit S.mm
      exact ⟨.inr (.inr rfl), fun _ => ⟨rfl, rfl, rfl, rfl⟩, fun h => (h rfl).elim, z, z, z, nob, by simp, a, b, fun _ => c⟩
    · exact ⟨.inl rfl, fun _ => ⟨rfl, rfl, rfl, rfl⟩, fun _ => rfl, z, z, z, nob, by simp, by simp, by simp, fun h => by simp at h⟩

theorem wordB_inj {a b : Int} (h : wordB a = wordB b) : a = b := by
  simp only [wordB, List.cons.injEq, and_true] at h
  omega
theorem words_inj : ∀ {l k : List Int}, l.flatMap wordB = k.flatMap wordB → l = k
  | [], [], _ => rfl
  | [], b :: k, h => by have := congrArg List.length h; simp [wordB] at this
  | a :: l, [], h => by have := congrArg List.length h; simp [wordB] at this
  | a :: l, b :: k, h => by
    rw [List.flatMap_cons, List.flatMap_cons] at h
    obtain ⟨h1, h2⟩ := List.append_inj h rfl
    rw [wordB_inj h1, words_inj h2]
theorem entB_inj {E F : Ent} (f : Fit E) (g : Fit F) (h : entB E = entB F) : E.kind = F.kind ∧ E.tr = F.tr ∧ E.nu = F.nu ∧ E.pc = F.pc ∧ E.args = F.args ∧ E.mem = F.mem := by
  obtain ⟨h1, h2⟩ := List.append_inj (show wordB E.kind ++ _ = wordB F.kind ++ _ from h) rfl
  have hk := wordB_inj h1
  rcases f.kd with e | e | e
  · have e' : F.kind = 0 := hk ▸ e
    obtain ⟨a1, a2, a3, a4⟩ := f.c0 (by omega)
    obtain ⟨b1, b2, b3, b4⟩ := g.c0 (by omega)
    exact ⟨hk, by rw [a1, b1], by rw [a2, b2], by rw [a3, b3], by rw [a4, b4], by rw [f.c1 (by omega), g.c1 (by omega)]⟩
  · have e' : F.kind = 1 := hk ▸ e
    rw [e, e', if_pos rfl, if_pos rfl] at h2
    have c1 := callS_mid (t := E.tr) (n := E.nu) (p := E.pc) (s := E.args) [] [] (by have := f.al; omega)
    have c2 := callS_mid (t := F.tr) (n := F.nu) (p := F.pc) (s := F.args) [] [] (by have := g.al; omega)
    rw [h2, c2] at c1
    have c3 := (Prod.mk.inj c1).1
    simp only [CallR.mk.injEq] at c3
    exact ⟨hk, c3.1.symm, c3.2.1.symm, c3.2.2.1.symm, c3.2.2.2.symm, by rw [f.c1 (by omega), g.c1 (by omega)]⟩
  · have e' : F.kind = 2 := hk ▸ e
    rw [e, e', if_neg (by decide), if_pos rfl, if_neg (by decide), if_pos rfl] at h2
    obtain ⟨h3, h4⟩ := List.append_inj h2 rfl
    obtain ⟨a1, a2, a3, a4⟩ := f.c0 (by omega)
    obtain ⟨b1, b2, b3, b4⟩ := g.c0 (by omega)
    exact ⟨hk, by rw [a1, b1], by rw [a2, b2], by rw [a3, b3], by rw [a4, b4], words_inj h4⟩
theorem same_bytes {E F : Ent} (f : Fit E) (g : Fit F) : sameE E F = decide (strOf (entB E) = strOf (entB F)) := by
  by_cases h : strOf (entB E) = strOf (entB F)
  · have h1 := strOf_inj (entB_bytes f) (entB_bytes g) h
    obtain ⟨h2, h3, h4, h5, h6, h7⟩ := entB_inj f g h1
    rw [decide_eq_true h, sameE, h2, h3, h4, h5, h6, h7]
    simp
  · rw [decide_eq_false h]
    cases hs : sameE E F with
    | false => rfl
    | true =>
      exfalso
      refine h ?_
      simp only [sameE, Bool.and_eq_true, decide_eq_true_eq] at hs
      obtain ⟨h1, ⟨⟨h2, h3⟩, h4, h5⟩, h6⟩ := hs
      have h7 := strOf_inj f.by_ g.by_ h5
      have : entB E = entB F := by rw [entB, entB, h1, h2, h3, h4, h7, h6]
      rw [this]
theorem sameE_self (E : Ent) : sameE E E = true := by simp [sameE]
theorem check_fit {E : Ent} (f : Fit E) : echeckOf E.kind E.tr E.nu E.pc E.args E.mem = 0 := by
  have cz : csameOf 0 0 0 0 0 0 [] [] = true := by simp [csameOf]
  rcases f.kd with e | e | e
  · obtain ⟨a1, a2, a3, a4⟩ := f.c0 (by omega)
    rw [e, a1, a2, a3, a4, f.c1 (by omega), echeckOf, if_neg (by omega), cz, if_neg (by simp)]; rfl
  · have := f.p
    have := f.al
    rw [e, f.c1 (by omega), echeckOf, if_neg (by omega), if_neg (by simp), if_pos rfl, ccheckOf, if_neg (by omega), if_neg (by omega)]
  · obtain ⟨a1, a2, a3, a4⟩ := f.c0 (by omega)
    rw [e, a1, a2, a3, a4, echeckOf, if_neg (by omega), cz, if_neg (by simp)]
    exact f.mc e
end Go.Proofs.Ytbdnpgomapanmaa
