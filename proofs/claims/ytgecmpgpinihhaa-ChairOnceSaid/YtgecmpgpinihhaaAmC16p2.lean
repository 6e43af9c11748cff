/- Paxos: the plain law of chairs. -/
import Derived.Test.YtgecmpgpinihhaaAmC16p
set_option linter.unusedSimpArgs false
set_option linter.unusedVariables false
set_option maxRecDepth 100000
set_option maxHeartbeats 4000000
namespace Go.Proofs.Ytgecmpgpinihhaa
open Go Go.AM Go.AM.Crc Go.AM.Wire
theorem Inv.chair {M : List Int} {V : Int → Vo} {C : Int → Ch} {W : List Fl} {t R : Int} {g : Gh} (h : Inv M V C W t R g) {n : Int} {c : Ch} {t' : Int} (ht : t ≤ t') (hc : ChOk M V g t' R n c) : Inv M V (upd C n c) W t' R g :=
  ⟨h.vo, fun k hk => by
    by_cases e : k = n
    · subst e; rw [upd_at]; exact hc
    · rw [upd_ne _ _ e]; exact (h.ch k hk).lat Lat.rfl' ht (Int.le_refl _) fun _ => rfl, h.fl, h.sf, h.pl⟩
/-- A chair is opened. -/
theorem Inv.open {M : List Int} {V : Int → Vo} {C : Int → Ch} {W : List Fl} {t R : Int} {g : Gh} (h : Inv M V C W t R g) {n r t' : Int} {O : Ent} (hM : ∀ k ∈ M, bOk k) (hn : n ∈ M) (hr : 1 ≤ r) (hR : R ≤ r) (ht : t ≤ t') (ht0 : 0 ≤ t') (hne : ¬ ((C n).br = r ∧ (C n).bn = n)) (hO : O.mem.length ≤ 16) :
    Inv M V (upd C n ((C n).open r n O)) (W ++ M.map fun k => ⟨0, n, k, r, n, 0, 0, false, zE⟩) t' r g := by
  have h' := h.drop (W' := W) (fun _ h => h) ht hR
  have c := h.ch n hn
  have lt : (C n).br < r := by
    have := c.hi
    by_cases e : (C n).br = r
    · by_cases p : (C n).ph = 0
      · have := c.zr p; omega
      · exact absurd ⟨e, c.own p⟩ hne
    · omega
  refine Inv.more (h'.chair (Int.le_refl _) ⟨c.mem, hM n hn, ⟨Int.le_refl _, show (0 : Int) < 16 by decide⟩, fun _ => rfl, fun k => absurd (show (1 : Int) = 0 from k) (by decide), show 0 ≤ r by omega, Int.le_refl _, fun q hq => Int.le_of_lt (Int.lt_of_le_of_lt (c.once q hq) lt), ht0, fun _ => ⟨?_, (fun i hi => absurd (show i ∈ ([] : List Int) from hi) List.not_mem_nil), (fun hs => absurd (show false = true from hs) (by decide))⟩, fun k => absurd (show (2 : Int) ≤ 1 from k) (by decide), hO⟩) fun f hf => ?_
  · cases e : g.prop (key r n) with
    | none => exact e
    | some x => have := c.once r (by rw [e]; exact (fun h => nomatch h)); omega
  · obtain ⟨k, hk, rfl⟩ := List.mem_map.1 hf
    exact ⟨hn, hk, hM n hn, ⟨Int.le_refl _, show (0 : Int) < 16 by decide⟩, fun k => absurd (show (0 : Int) = 1 from k) (by decide), fun k => absurd (show (0 : Int) = 2 from k) (by decide), fun k => absurd rfl k⟩
/-- A chair hears a promise. -/
theorem ChOk.hears {M : List Int} {V : Int → Vo} {g : Gh} {t R n : Int} {c : Ch} (h : ChOk M V g t R n c) {f : Fl} (hf : FlOk M V g f) (k1 : f.kd = 1) (c1 : c.ph = 1) (c2 : f.br = c.br ∧ f.bn = c.bn) :
    ChOk M V g (t + 1) R n ((c.hear f.fr).take f.s f.wr f.wn f.x) ∧ ((c.hear f.fr).take f.s f.wr f.wn f.x).ph = 1 ∧ ((c.hear f.fr).take f.s f.wr f.wn f.x).br = c.br ∧ ((c.hear f.fr).take f.s f.wr f.wn f.x).bn = c.bn := by
  obtain ⟨a1, a2, a3⟩ := h.ask c1
  obtain ⟨b1, b2, b3⟩ := hf.k1 k1
  have hb : f.b = key c.br c.bn := by rw [Fl.b, c2.1, c2.2]
  rw [hb] at b1 b2 b3
  have hl : ((c.heard ++ [f.fr]).length : Int) ≤ t + 1 := by have := h.hl; rw [List.length_append, List.length_singleton]; omega
  have lk : lessB (c.hear f.fr).xr (c.hear f.fr).xn f.wr f.wn = decide (key c.xr c.xn < f.w) := less_key h.xn hf.wn
  rw [Ch.take, lk]
  by_cases e : (f.s && (!(c.hear f.fr).s || decide (key c.xr c.xn < f.w))) = true
  · rw [if_pos e]
    rw [Bool.and_eq_true, Bool.or_eq_true, Bool.not_eq_true', decide_eq_true_eq] at e
    have e2 : c.s = false ∨ key c.xr c.xn < f.w := e.2
    refine ⟨⟨h.mem, h.bn, hf.wn, h.own, h.zr, h.lo, h.hi, h.once, hl, fun _ => ⟨a1, fun i hi => ?_, fun _ => b3 e.1⟩, fun k => absurd (show (2 : Int) ≤ 1 from c1 ▸ k) (by decide), h.sl⟩, c1, rfl, rfl⟩
    rcases List.mem_append.1 hi with hi | hi
    · refine ⟨(a2 i hi).1, fun d hd hlt => ⟨rfl, ?_⟩⟩
      have := (a2 i hi).2 d hd hlt
      rcases e2 with e2 | e2
      · rw [e2] at this; exact absurd this.1 (by decide)
      · exact Int.le_trans this.2 (Int.le_of_lt e2)
    · rw [List.mem_singleton.1 hi]
      exact ⟨b1, fun d hd hlt => ⟨rfl, (b2 d hd hlt).2⟩⟩
  · rw [if_neg e]
    refine ⟨⟨h.mem, h.bn, h.xn, h.own, h.zr, h.lo, h.hi, h.once, hl, fun _ => ⟨a1, fun i hi => ?_, a3⟩, fun k => absurd (show (2 : Int) ≤ 1 from c1 ▸ k) (by decide), h.sl⟩, c1, rfl, rfl⟩
    rcases List.mem_append.1 hi with hi | hi
    · exact a2 i hi
    · rw [List.mem_singleton.1 hi]
      refine ⟨b1, fun d hd hlt => ?_⟩
      have := b2 d hd hlt
      rw [Bool.and_eq_true, Bool.or_eq_true, Bool.not_eq_true', decide_eq_true_eq] at e
      have e2 : ¬ (c.s = false ∨ key c.xr c.xn < f.w) := fun h => e ⟨this.1, h⟩
      have e3 : c.s = true := by cases hs : c.s <;> simp_all
      have e4 : ¬ key c.xr c.xn < f.w := fun h => e2 (.inr h)
      exact ⟨e3, show d ≤ key c.xr c.xn by omega⟩
/-- An entry is put to the vote. -/
def Gh.set (g : Gh) (b : Int) (x : Ent) : Gh := ⟨fun c => if c = b then some x else g.prop c, g.votes⟩
theorem Inv.put {M : List Int} {V : Int → Vo} {C : Int → Ch} {W : List Fl} {t R : Int} {g : Gh} (h : Inv M V C W t R g) {n : Int} {c : Ch} {t' : Int} (hM : ∀ k ∈ M, bOk k) (hn : n ∈ M) (ht : t ≤ t') (ht0 : 0 ≤ t') (hc : ChOk M V g t' R n c) (c1 : c.ph = 1) (hm : c.most = true) :
    Inv M V (upd C n c.put) (W ++ M.map fun k => ⟨2, n, k, c.br, c.bn, 0, 0, false, c.put.ent⟩) t' R (g.set (key c.br c.bn) c.put.ent) ∧ ∀ b x, Won M g b x → Won M (g.set (key c.br c.bn) c.put.ent) b x := by
  obtain ⟨a1, a2, a3⟩ := hc.ask c1
  have cn : c.bn = n := hc.own (by omega)
  have l : Lat V V g (g.set (key c.br c.bn) c.put.ent) := ⟨fun _ => Int.le_refl _, fun _ _ h => h, fun _ _ h => .inl h, fun b x hb => by
    by_cases e : b = key c.br c.bn
    · rw [e, a1] at hb; exact nomatch hb
    · exact (if_neg e).trans hb⟩
  have self : (g.set (key c.br c.bn) c.put.ent).prop (key c.br c.bn) = some c.put.ent := if_pos rfl
  have maj : Maj M c.heard := by
    have := of_decide_eq_true hm
    rw [hc.mem] at this
    exact this
  refine ⟨Inv.more ⟨fun i hi => ?_, fun k hk => ?_, fun f hf => (h.fl f hf).lat l, fun b x hb => ?_, fun b x hb => ?_⟩ fun f hf => ?_, fun b x hw => hw.lat l⟩
  · have v := h.vo i hi
    exact ⟨v.pn, v.bn, v.le, fun hs => ⟨(v.sm hs).1, l.prop _ _ (v.sm hs).2⟩⟩
  · by_cases e : k = n
    · subst e; rw [upd_at]
      refine ⟨hc.mem, hc.bn, hc.xn, fun _ => cn, fun k => absurd (show (2 : Int) = 0 from k) (by decide), hc.lo, hc.hi, fun r hr => ?_, ht0, fun k => absurd (show (2 : Int) = 1 from k) (by decide), fun _ => ⟨self, fun i hi => absurd (show i ∈ ([] : List Int) from hi) List.not_mem_nil⟩, hc.sl⟩
      by_cases e : key r k = key c.br c.bn
      · have := (key_inj (hM k hn) hc.bn e).1; exact Int.le_of_eq this
      · exact hc.once r (by have := hr; rw [show (g.set (key c.br c.bn) c.put.ent).prop (key r k) = g.prop (key r k) from if_neg e] at this; exact this)
    · rw [upd_ne _ _ e]
      refine (h.ch k hk).lat l ht (Int.le_refl _) fun r => if_neg fun h => e ?_
      have := (key_inj (hM k hk) hc.bn h).2
      omega
  · by_cases e : b = key c.br c.bn
    · subst e
      have hx : some c.put.ent = some x := self.symm.trans hb
      have hx := Option.some.inj hx
      have := hc.lo; have := hc.bn.1
      refine ⟨by simp only [key]; omega, c.heard, c.s, key c.xr c.xn, maj, fun i hi => ⟨(a2 i hi).1, (a2 i hi).2.lat l (a2 i hi).1⟩, fun hs => ⟨(a3 hs).1, ?_⟩⟩
      rw [← hx]
      have : c.put.ent = c.found := if_pos hs
      exact (l.prop _ _ (a3 hs).2).trans (congrArg some this.symm)
    · have hb' : g.prop b = some x := (if_neg e).symm.trans hb
      exact ⟨(h.sf b x hb').1, (h.sf b x hb').2.lat l⟩
  · by_cases e : b = key c.br c.bn
    · subst e
      have hx : some c.put.ent = some x := self.symm.trans hb
      rw [← Option.some.inj hx]
      show (if c.s = true then c.found else c.own).mem.length ≤ 16
      by_cases hs : c.s = true
      · rw [if_pos hs]; exact h.pl _ _ (a3 hs).2
      · rw [if_neg hs]; exact hc.sl
    · exact h.pl b x ((if_neg e).symm.trans hb)
  · obtain ⟨k, hk, rfl⟩ := List.mem_map.1 hf
    exact ⟨hn, hk, hc.bn, ⟨Int.le_refl _, show (0 : Int) < 16 by decide⟩, fun k => absurd (show (2 : Int) = 1 from k) (by decide), fun _ => self, fun _ _ k => absurd rfl k⟩
/-- A chair hears a vote. -/
theorem ChOk.voted {M : List Int} {V : Int → Vo} {g : Gh} {t R n : Int} {c : Ch} (h : ChOk M V g t R n c) {f : Fl} (hf : FlOk M V g f) (k0 : f.kd ≠ 0) (k1 : f.kd ≠ 1) (k2 : f.kd ≠ 2) (c1 : c.ph = 2) (c2 : f.br = c.br ∧ f.bn = c.bn) :
    ChOk M V g (t + 1) R n (c.hear f.fr).acc ∧ ((c.hear f.fr).most = true → Won M g (key c.br c.bn) (c.hear f.fr).acc.ent) := by
  obtain ⟨a1, a2⟩ := h.put (by omega)
  have b := hf.k3 k0 k1 k2
  rw [Fl.b, c2.1, c2.2] at b
  have hl : ((c.heard ++ [f.fr]).length : Int) ≤ t + 1 := by have := h.hl; rw [List.length_append, List.length_singleton]; omega
  have hv : ∀ i ∈ c.heard ++ [f.fr], g.votes i (key c.br c.bn) := fun i hi => (List.mem_append.1 hi).elim (a2 i) fun h => by rw [List.mem_singleton.1 h]; exact b
  by_cases e : (c.hear f.fr).most = true
  · rw [Ch.acc, if_pos e]
    refine ⟨⟨h.mem, h.bn, h.xn, fun _ => h.own (by omega), fun k => absurd (show (3 : Int) = 0 from k) (by decide), h.lo, h.hi, h.once, hl, fun k => absurd (show (3 : Int) = 1 from k) (by decide), fun _ => ⟨a1, hv⟩, h.sl⟩, fun _ => ⟨a1, _, ?_, hv⟩⟩
    have := of_decide_eq_true e
    rw [show (c.hear f.fr).mem = M from h.mem] at this
    exact this
  · rw [Ch.acc, if_neg e]
    exact ⟨⟨h.mem, h.bn, h.xn, h.own, h.zr, h.lo, h.hi, h.once, hl, fun k => absurd (show c.ph = 1 from k) (by omega), fun _ => ⟨a1, hv⟩, h.sl⟩, fun h => absurd h e⟩
/-- At first. -/
theorem Inv.zero {M : List Int} (R : Int) (hR : 0 ≤ R) : Inv M (fun _ => Vo.zero) (fun _ => Ch.new M) [] 0 R ⟨fun _ => none, fun _ _ => False⟩ :=
  have z : bOk 0 := ⟨Int.le_refl _, by decide⟩
  ⟨fun _ _ => ⟨z, z, fun _ h => h.elim, (fun h => nomatch h)⟩, fun _ _ => ⟨rfl, z, z, fun h => absurd rfl h, fun _ => rfl, Int.le_refl _, hR, fun _ h => absurd rfl h, Int.le_refl _, fun k => absurd (show (0 : Int) = 1 from k) (by decide), fun k => absurd (show (2 : Int) ≤ 0 from k) (by decide), Nat.zero_le _⟩, (fun _ h => nomatch h), (fun _ _ h => nomatch h), (fun _ _ h => nomatch h)⟩
end Go.Proofs.Ytgecmpgpinihhaa
