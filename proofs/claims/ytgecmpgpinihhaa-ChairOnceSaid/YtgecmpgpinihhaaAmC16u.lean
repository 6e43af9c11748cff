/- The law's loop: what holds between two moves. -/
import Derived.Test.YtgecmpgpinihhaaAmC16i
set_option linter.unusedSimpArgs false
set_option linter.unusedVariables false
set_option maxRecDepth 100000
set_option maxHeartbeats 4000000
namespace Go.Proofs.Ytgecmpgpinihhaa
open Go Go.AM Go.AM.Crc Go.AM.Wire
theorem Sys.retag {m : Mem} {ow : Nat → Nat} {pv pc rc : Int → Nat} {bV bC rw : Nat} {V : Int → Vo} {C : Int → Ch} {vw : Value} {W : List Fl} {cs : List Value} (h : Sys m ow pv pc rc bV bC rw V C vw W cs) {ow' : Nat → Nat} (e : ∀ j, j < m.next → ow' j = ow j) (hw : vw = .slice none 0 0) : Sys m ow' pv pc rc bV bC rw V C vw W cs :=
  ⟨h.vo, h.ch, h.bv, h.bc, h.lv, h.lc, h.way, h.fl, fun n a b => (e _ (h.vo n a b).li).trans (h.tv n a b), fun n a b => (e _ (h.ch n a b).li.1).trans (h.tc n a b), fun n a b => (e _ (h.ch n a b).li.2).trans (h.tr n a b), (e _ h.lv).trans h.tbv, (e _ h.lc).trans h.tbc, fun h => absurd hw h⟩
structure Lp (m : Mem) (b4 b9 b14 bV bC : Nat) (pv pc : Int → Nat) (M : List Int) (ec : List Value) (w9 : Value) (ow : Nat → Nat) (rc : Int → Nat) (rw : Nat) (V : Int → Vo) (C : Int → Ch) (vw : Value) (W : List Fl) (cs : List Value) (g : Gh) (t rd : Int) (sm : Bool) (X : Ent) (va vm : Value) : Prop where
  sy : Sys m ow pv pc rc bV bC rw V C vw W cs
  g4 : m.get b4 = some (.cells ec 55 true)
  g9 : m.get b9 = some (.cells [.int .i64 0, w9] 33 true)
  g14 : m.get b14 = some (.cells [.int .u8 X.kind, .int .u16 X.tr, .int .u16 X.nu, .int .i64 X.pc, va, vm] 45 true)
  f1 : FRow m va 1 X.args.length (byteCells X.args)
  f2 : FRow m vm 1 X.mem.length (ints X.mem)
  o4 : ow b4 = 23
  o9 : ow b9 = 24
  o14 : ow b14 = 25
  l4 : b4 < m.next
  l9 : b9 < m.next
  l14 : b14 < m.next
  iv : Inv M V C W t (rd / 2 + 1) g
  won : sm = true → ∃ b, Won M g b X
  rl : 0 ≤ rd ∧ rd ≤ t
theorem Sys.lrw {m : Mem} {ow : Nat → Nat} {pv pc rc : Int → Nat} {bV bC rw : Nat} {V : Int → Vo} {C : Int → Ch} {vw : Value} {W : List Fl} {cs : List Value} (h : Sys m ow pv pc rc bV bC rw V C vw W cs) (hn : vw ≠ .slice none 0 0) : rw < m.next := by
  rcases h.way.2 with ⟨_, h1⟩ | ⟨h1, _, _⟩
  · exact absurd h1 hn
  · exact h1
section
variable {m m' : Mem} {b4 b9 b14 bV bC : Nat} {pv pc : Int → Nat} {M : List Int} {ec : List Value} {w9 : Value} {ow : Nat → Nat} {rc : Int → Nat} {rw : Nat} {V : Int → Vo} {C : Int → Ch} {vw : Value} {W : List Fl} {cs : List Value} {g : Gh} {t rd : Int} {sm : Bool} {X : Ent} {va vm : Value}
theorem Lp.ext (h : Lp m b4 b9 b14 bV bC pv pc M ec w9 ow rc rw V C vw W cs g t rd sm X va vm) (x : Ext m m') : Lp m' b4 b9 b14 bV bC pv pc M ec w9 ow rc rw V C vw W cs g t rd sm X va vm :=
  ⟨h.sy.ext x, (x.2 _ h.l4).trans h.g4, (x.2 _ h.l9).trans h.g9, (x.2 _ h.l14).trans h.g14, h.f1.pz x.pz, h.f2.pz x.pz, h.o4, h.o9, h.o14, Nat.lt_of_lt_of_le h.l4 x.1, Nat.lt_of_lt_of_le h.l9 x.1, Nat.lt_of_lt_of_le h.l14 x.1, h.iv, h.won, h.rl⟩
/-- A move did nothing. -/
theorem Lp.tick (h : Lp m b4 b9 b14 bV bC pv pc M ec w9 ow rc rw V C vw W cs g t rd sm X va vm) {t' : Int} (ht : t ≤ t') : Lp m b4 b9 b14 bV bC pv pc M ec w9 ow rc rw V C vw W cs g t' rd sm X va vm :=
  ⟨h.sy, h.g4, h.g9, h.g14, h.f1, h.f2, h.o4, h.o9, h.o14, h.l4, h.l9, h.l14, h.iv.drop (fun _ h => h) ht (Int.le_refl _), h.won, h.rl.1, Int.le_trans h.rl.2 ht⟩
/-- A round is over that did nothing. -/
theorem Lp.round (h : Lp m b4 b9 b14 bV bC pv pc M ec w9 ow rc rw V C vw W cs g t rd sm X va vm) {t' rd' : Int} (ht : t ≤ t') (hr : rd ≤ rd') (hl : rd' ≤ t') : Lp m b4 b9 b14 bV bC pv pc M ec w9 ow rc rw V C vw W cs g t' rd' sm X va vm :=
  ⟨h.sy, h.g4, h.g9, h.g14, h.f1, h.f2, h.o4, h.o9, h.o14, h.l4, h.l9, h.l14, h.iv.drop (fun _ h => h) ht (by omega), h.won, Int.le_trans h.rl.1 hr, hl⟩
/-- A letter is taken out. -/
theorem Lp.cut (h : Lp m b4 b9 b14 bV bC pv pc M ec w9 ow rc rw V C vw W cs g t rd sm X va vm) {r : Nat} {w : Value} {W' : List Fl} {ds : List Value} (hs : Sys m' (tag ow r 22) pv pc rc bV bC r V C w W' ds) (hr : m.next ≤ r) (x : Ext m m') (hW : ∀ f ∈ W', f ∈ W) : Lp m' b4 b9 b14 bV bC pv pc M ec w9 (tag ow r 22) rc r V C w W' ds g t rd sm X va vm :=
  have l4 := h.l4; have l9 := h.l9; have l14 := h.l14
  ⟨hs, (x.2 _ h.l4).trans h.g4, (x.2 _ h.l9).trans h.g9, (x.2 _ h.l14).trans h.g14, h.f1.pz x.pz, h.f2.pz x.pz, (tag_ne _ _ (by omega)).trans h.o4, (tag_ne _ _ (by omega)).trans h.o9, (tag_ne _ _ (by omega)).trans h.o14, Nat.lt_of_lt_of_le h.l4 x.1, Nat.lt_of_lt_of_le h.l9 x.1, Nat.lt_of_lt_of_le h.l14 x.1, h.iv.drop hW (Int.le_refl _) (Int.le_refl _), h.won, h.rl⟩
/-- A letter is sent: its memory. -/
theorem Lp.send (h : Lp m b4 b9 b14 bV bC pv pc M ec w9 ow rc rw V C vw W cs g t rd sm X va vm) {r : Nat} {w : Value} {f : Fl} {ds : List Value} (hs : Sys m' (tag ow r 22) pv pc rc bV bC r V C w (W ++ [f]) ds) (hr : m.next ≤ r) (z : Pz m m') (k : ∀ j, j < m.next → (j = rw → vw = .slice none 0 0) → m'.get j = m.get j) (hf : FlOk M V g f) : Lp m' b4 b9 b14 bV bC pv pc M ec w9 (tag ow r 22) rc r V C w (W ++ [f]) ds g t rd sm X va vm := by
  have l4 := h.l4; have l9 := h.l9; have l14 := h.l14
  have ne : ∀ j, ow j ≠ 22 → j = rw → vw = .slice none 0 0 := fun j hj e => by
    by_cases q : vw = .slice none 0 0
    · exact q
    · exact absurd (e ▸ h.sy.tw q) hj
  exact ⟨hs, (k _ l4 (ne _ (by rw [h.o4]; decide))).trans h.g4, (k _ l9 (ne _ (by rw [h.o9]; decide))).trans h.g9, (k _ l14 (ne _ (by rw [h.o14]; decide))).trans h.g14, h.f1.pz z, h.f2.pz z, (tag_ne _ _ (by omega)).trans h.o4, (tag_ne _ _ (by omega)).trans h.o9, (tag_ne _ _ (by omega)).trans h.o14, Nat.lt_of_lt_of_le l4 z.1, Nat.lt_of_lt_of_le l9 z.1, Nat.lt_of_lt_of_le l14 z.1, h.iv.more (by intro e he; rw [List.mem_singleton.1 he]; exact hf), h.won, h.rl⟩
/-- A voter is another one now. -/
theorem Lp.voter (h : Lp m b4 b9 b14 bV bC pv pc M ec w9 ow rc rw V C vw W cs g t rd sm X va vm) {n : Int} (hn : 0 ≤ n ∧ n < 6) {v : Vo} (hv : VoAt m' (pv n) v) (z : Pz m m') (k : ∀ j, j < m.next → j ≠ pv n → m'.get j = m.get j) {g' : Gh} (hi : Inv M (upd V n v) C W t (rd / 2 + 1) g') (hw : ∀ b x, Won M g b x → Won M g' b x) : Lp m' b4 b9 b14 bV bC pv pc M ec w9 ow rc rw (upd V n v) C vw W cs g' t rd sm X va vm := by
  have t1 := h.sy.tv n hn.1 hn.2
  have ne : ∀ j, 23 ≤ ow j → j ≠ pv n := fun j hj e => by rw [e, t1] at hj; omega
  exact ⟨h.sy.voter hn hv z k, (k _ h.l4 (ne _ (by rw [h.o4]; decide))).trans h.g4, (k _ h.l9 (ne _ (by rw [h.o9]; decide))).trans h.g9, (k _ h.l14 (ne _ (by rw [h.o14]; decide))).trans h.g14, h.f1.pz z, h.f2.pz z, h.o4, h.o9, h.o14, Nat.lt_of_lt_of_le h.l4 z.1, Nat.lt_of_lt_of_le h.l9 z.1, Nat.lt_of_lt_of_le h.l14 z.1, hi, fun e => (h.won e).imp fun b hb => hw b X hb, h.rl⟩
/-- A chair is another one now. -/
theorem Lp.chair (h : Lp m b4 b9 b14 bV bC pv pc M ec w9 ow rc rw V C vw W cs g t rd sm X va vm) {n : Int} (hn : 0 ≤ n ∧ n < 6) {r : Nat} {c : Ch} (hc : ChAt m' (pc n) r c) (z : Pz m m') (k : ∀ j, j < m.next → j ≠ pc n → j ≠ rc n → m'.get j = m.get j) (hr : r = pc n ∨ m.next ≤ r) {g' : Gh} {t' rd' : Int} (hrl : 0 ≤ rd' ∧ rd' ≤ t') (hi : Inv M V (upd C n c) W t' (rd' / 2 + 1) g') (hw : ∀ b x, Won M g b x → Won M g' b x) : Lp m' b4 b9 b14 bV bC pv pc M ec w9 (tag ow r (1 + n.toNat)) (upd rc n r) rw V (upd C n c) vw W cs g' t' rd' sm X va vm := by
  have t1 := h.sy.tc n hn.1 hn.2
  have t2 := h.sy.tr n hn.1 hn.2
  have l4 := h.l4; have l9 := h.l9; have l14 := h.l14
  have ne : ∀ j, 23 ≤ ow j → j ≠ pc n ∧ j ≠ rc n := fun j hj => ⟨fun e => by rw [e, t1] at hj; omega, fun e => by rw [e, t2] at hj; omega⟩
  have nr : ∀ j, j < m.next → 23 ≤ ow j → tag ow r (1 + n.toNat) j = ow j := fun j l hj => tag_ne _ _ (by
    rcases hr with hr | hr
    · rw [hr]; exact (ne j hj).1
    · omega)
  have kk : ∀ j, j < m.next → 23 ≤ ow j → m'.get j = m.get j := fun j l hj => k j l (ne j hj).1 (ne j hj).2
  have a4 : 23 ≤ ow b4 := by rw [h.o4]; decide
  have a9 : 23 ≤ ow b9 := by rw [h.o9]; decide
  have a14 : 23 ≤ ow b14 := by rw [h.o14]; decide
  exact ⟨h.sy.chair hn hc z k hr h.sy.lrw, (kk _ l4 a4).trans h.g4, (kk _ l9 a9).trans h.g9, (kk _ l14 a14).trans h.g14, h.f1.pz z, h.f2.pz z, (nr _ l4 a4).trans h.o4, (nr _ l9 a9).trans h.o9, (nr _ l14 a14).trans h.o14, Nat.lt_of_lt_of_le l4 z.1, Nat.lt_of_lt_of_le l9 z.1, Nat.lt_of_lt_of_le l14 z.1, hi, fun e => (h.won e).imp fun b hb => hw b X hb, hrl⟩
/-- An entry is chosen. -/
theorem Lp.chosen (h : Lp m b4 b9 b14 bV bC pv pc M ec w9 ow rc rw V C vw W cs g t rd sm X va vm) {Y : Ent} {ua um : Value} (f1 : FRow m ua 1 Y.args.length (byteCells Y.args)) (f2 : FRow m um 1 Y.mem.length (ints Y.mem)) (hY : ∃ b, Won M g b Y) : Lp (m.set b14 (.cells [.int .u8 Y.kind, .int .u16 Y.tr, .int .u16 Y.nu, .int .i64 Y.pc, ua, um] 45 true)) b4 b9 b14 bV bC pv pc M ec w9 ow rc rw V C vw W cs g t rd true Y ua um := by
  have z : Pz m (m.set b14 (.cells [.int .u8 Y.kind, .int .u16 Y.tr, .int .u16 Y.nu, .int .i64 Y.pc, ua, um] 45 true)) := Pz.set h.g14 _
  have ne : ∀ j, ow j ≠ 25 → j ≠ b14 := fun j hj e => hj (by rw [e]; exact h.o14)
  refine ⟨h.sy.keep z fun j hj hc => set_get_ne _ (ne j ?_), (set_get_ne _ (ne _ (by rw [h.o4]; decide))).trans h.g4, (set_get_ne _ (ne _ (by rw [h.o9]; decide))).trans h.g9, set_get _ _ _, f1.pz z, f2.pz z, h.o4, h.o9, h.o14, h.l4, h.l9, h.l14, h.iv, fun _ => hY, h.rl⟩
  rcases hc with hc | ⟨rfl, hc⟩
  · omega
  · rw [h.sy.tw hc]; decide
end
end Go.Proofs.Ytgecmpgpinihhaa
