/- Six voters and six chairs are made. -/
import Derived.Test.YtgecmpgpinihhaaAmC16s
set_option linter.unusedSimpArgs false
set_option linter.unusedVariables false
set_option maxRecDepth 100000
set_option maxHeartbeats 4000000
namespace Go.Proofs.Ytgecmpgpinihhaa
open Go Go.AM Go.AM.Crc Go.AM.Wire
def pp (p : Int → Nat) (k i : Int) : Value := if i < k then ptr (p i) else .pointer none
abbrev part6 (p : Int → Nat) (k : Int) : List Value := [pp p k 0, pp p k 1, pp p k 2, pp p k 3, pp p k 4, pp p k 5]
theorem part6_zero (p : Int → Nat) : part6 p 0 = [.pointer none, .pointer none, .pointer none, .pointer none, .pointer none, .pointer none] := rfl
theorem part6_full (p : Int → Nat) : part6 p 6 = ptrs p := rfl
theorem part6_set (p : Int → Nat) {k : Nat} (hk : k < 6) (i : Nat) : (part6 p k).set k (ptr i) = part6 (upd p k i) ((k : Int) + 1) := by
  have : k = 0 ∨ k = 1 ∨ k = 2 ∨ k = 3 ∨ k = 4 ∨ k = 5 := by omega
  rcases this with rfl | rfl | rfl | rfl | rfl | rfl <;> rfl
theorem ix58 (b : Nat) {k : Int} (hk : 0 ≤ k ∧ k < 6) : opIndexAddr Try.prog 58 (ptr b) (.int .i64 k) = some (.pointer (some ⟨b, k.toNat, none⟩)) := by
  have h : 0 ≤ k ∧ k < ((6 : Nat) : Int) := hk
  have s : tsize Try.prog 57 = some 1 := ts57
  simp only [opIndexAddr, Try.underlying58, s, h, and_self, if_true, Nat.zero_add, Nat.mul_one]
theorem ix59 (b : Nat) {k : Int} (hk : 0 ≤ k ∧ k < 6) : opIndexAddr Try.prog 59 (ptr b) (.int .i64 k) = some (.pointer (some ⟨b, k.toNat, none⟩)) := by
  have h : 0 ≤ k ∧ k < ((6 : Nat) : Int) := hk
  have s : tsize Try.prog 34 = some 1 := ts34
  simp only [opIndexAddr, Try.underlying59, s, h, and_self, if_true, Nat.zero_add, Nat.mul_one]
structure Ini (m : Mem) (ow : Nat → Nat) (pv pc : Int → Nat) (bV bC : Nat) (M : List Int) (k : Nat) : Prop where
  vo : ∀ n, 0 ≤ n → n < (k : Int) → VoAt m (pv n) Vo.zero
  ch : ∀ n, 0 ≤ n → n < (k : Int) → ChAt m (pc n) (pc n) (Ch.new M)
  bv : m.get bV = some (.cells (part6 pv k) 58 true)
  bc : m.get bC = some (.cells (part6 pc k) 59 true)
  lv : bV < m.next
  lc : bC < m.next
  tv : ∀ n, 0 ≤ n → n < (k : Int) → ow (pv n) = 10 + n.toNat
  tc : ∀ n, 0 ≤ n → n < (k : Int) → ow (pc n) = 1 + n.toNat
  tbv : ow bV = 20
  tbc : ow bC = 21
theorem Ini.step {m m' : Mem} {ow : Nat → Nat} {pv pc : Int → Nat} {bV bC : Nat} {M : List Int} {k : Nat} (h : Ini m ow pv pc bV bC M k) (hk : k < 6) {i j : Nat} (hi : m.next ≤ i) (hj : m.next ≤ j) (hij : i ≠ j) (z : Pz m m') (fr : ∀ q, q < m.next → q ≠ bV → q ≠ bC → m'.get q = m.get q)
    (v : VoAt m' i Vo.zero) (c : ChAt m' j j (Ch.new M)) (gv : m'.get bV = some (.cells (part6 (upd pv k i) ((k : Int) + 1)) 58 true)) (gc : m'.get bC = some (.cells (part6 (upd pc k j) ((k : Int) + 1)) 59 true)) :
    Ini m' (tag (tag ow i (10 + k)) j (1 + k)) (upd pv k i) (upd pc k j) bV bC M (k + 1) := by
  have tg : ∀ q, q < m.next → tag (tag ow i (10 + k)) j (1 + k) q = ow q := fun q l => (tag_ne _ _ (by omega)).trans (tag_ne _ _ (by omega))
  have ne : ∀ q, ow q ≠ 20 → ow q ≠ 21 → q ≠ bV ∧ q ≠ bC := fun q a b => ⟨fun e => a (by rw [e]; exact h.tbv), fun e => b (by rw [e]; exact h.tbc)⟩
  have kk : ∀ q, q < m.next → ow q ≠ 20 → ow q ≠ 21 → m'.get q = m.get q := fun q l a b => fr q l (ne q a b).1 (ne q a b).2
  refine ⟨fun n a b => ?_, fun n a b => ?_, gv, gc, Nat.lt_of_lt_of_le h.lv z.1, Nat.lt_of_lt_of_le h.lc z.1, fun n a b => ?_, fun n a b => ?_, (tg _ h.lv).trans h.tbv, (tg _ h.lc).trans h.tbc⟩
  · by_cases e : n = k
    · rw [e, upd_at]; exact v
    · rw [upd_ne _ _ e]
      have t := h.tv n a (by omega)
      exact (h.vo n a (by omega)).keep z fun l => kk _ l (by omega) (by omega)
  · by_cases e : n = k
    · rw [e, upd_at]; exact c
    · rw [upd_ne _ _ e]
      have t := h.tc n a (by omega)
      have w := h.ch n a (by omega)
      exact w.keep z (fun l => kk _ l (by omega) (by omega)) fun l => kk _ l (by omega) (by omega)
  · by_cases e : n = k
    · subst e
      rw [upd_at, tag_ne _ _ hij, tag_at]; omega
    · rw [upd_ne _ _ e, tg _ (h.vo n a (by omega)).li]; exact h.tv n a (by omega)
  · by_cases e : n = k
    · subst e
      rw [upd_at, tag_at]; omega
    · rw [upd_ne _ _ e, tg _ (h.ch n a (by omega)).li.1]; exact h.tc n a (by omega)
theorem Ini.sys {m : Mem} {ow : Nat → Nat} {pv pc : Int → Nat} {bV bC : Nat} {M : List Int} (h : Ini m ow pv pc bV bC M 6) : Sys m ow pv pc pc bV bC 0 (fun _ => Vo.zero) (fun _ => Ch.new M) (.slice none 0 0) [] [] :=
  ⟨h.vo, h.ch, h.bv, h.bc, h.lv, h.lc, OwnI.nil, rfl, h.tv, h.tc, h.tc, h.tbv, h.tbc, fun h => absurd rfl h⟩
end Go.Proofs.Ytgecmpgpinihhaa
