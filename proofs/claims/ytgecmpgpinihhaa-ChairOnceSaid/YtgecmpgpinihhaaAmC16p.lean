/- Paxos: the plain law of voters, chairs, and letters between them. -/
import Derived.Test.YtgecmpgpinihhaaAmC16f
set_option linter.unusedSimpArgs false
set_option linter.unusedVariables false
set_option maxRecDepth 100000
set_option maxHeartbeats 4000000
namespace Go.Proofs.Ytgecmpgpinihhaa
open Go Go.AM Go.AM.Crc Go.AM.Wire
/-- A ballot, as one number. -/
abbrev key (r n : Int) : Int := 16 * r + n
def bOk (n : Int) : Prop := 0 ≤ n ∧ n < 16
theorem less_key {ar an br bn : Int} (ha : bOk an) (hb : bOk bn) : lessB ar an br bn = decide (key ar an < key br bn) := by
  have h1 := ha.1; have h2 := ha.2; have h3 := hb.1; have h4 := hb.2
  simp only [lessB, key]
  by_cases h : 16 * ar + an < 16 * br + bn
  · rw [decide_eq_true h]
    by_cases g : ar < br
    · simp [g]
    · have : ar = br ∧ an < bn := by omega
      simp [this.1, this.2]
  · rw [decide_eq_false h]
    have g : ¬ ar < br := by omega
    have g2 : ¬ (ar = br ∧ an < bn) := by omega
    simp only [Bool.or_eq_false_iff, Bool.and_eq_false_iff, decide_eq_false_iff_not]
    exact ⟨g, by by_cases e : ar = br <;> simp_all⟩
theorem key_inj {ar an br bn : Int} (ha : bOk an) (hb : bOk bn) (h : key ar an = key br bn) : ar = br ∧ an = bn := by
  have h1 := ha.1; have h2 := ha.2; have h3 := hb.1; have h4 := hb.2
  simp only [key] at h
  omega
/-- A voter, as it is meant. -/
structure Vo where
  pr : Int
  pn : Int
  s : Bool
  br : Int
  bn : Int
  x : Ent
abbrev Vo.P (v : Vo) : Int := key v.pr v.pn
abbrev Vo.b (v : Vo) : Int := key v.br v.bn
def Vo.zero : Vo := ⟨0, 0, false, 0, 0, zE⟩
/-- A letter, as it is meant. -/
structure Fl where
  kd : Int
  fr : Int
  to : Int
  br : Int
  bn : Int
  wr : Int
  wn : Int
  s : Bool
  x : Ent
abbrev Fl.b (f : Fl) : Int := key f.br f.bn
abbrev Fl.w (f : Fl) : Int := key f.wr f.wn
/-- What was put to the vote by which ballot, and who voted for which ballot. -/
structure Gh where
  prop : Int → Option Ent
  votes : Int → Int → Prop
def Maj (M Q : List Int) : Prop := M.length < 2 * manyIn M Q
theorem many_apart {M A B : List Int} (h : ∀ i ∈ M, ¬ (i ∈ A ∧ i ∈ B)) : manyIn M A + manyIn M B ≤ M.length := by
  induction M with
  | nil => simp [manyIn]
  | cons y M ih =>
    have := ih fun i hi => h i (List.mem_cons_of_mem _ hi)
    have hy := h y (List.mem_cons_self ..)
    simp only [manyIn, List.countP_cons, List.length_cons, decide_eq_true_eq] at this ⊢
    by_cases h1 : y ∈ A <;> by_cases h2 : y ∈ B <;> simp only [h1, h2, if_true, if_false] <;> first | omega | exact absurd ⟨h1, h2⟩ hy
theorem maj_meet {M A B : List Int} (ha : Maj M A) (hb : Maj M B) : ∃ i, i ∈ M ∧ i ∈ A ∧ i ∈ B := by
  refine Classical.byContradiction fun h => ?_
  have := many_apart (M := M) (A := A) (B := B) fun i hi hh => h ⟨i, hi, hh.1, hh.2⟩
  simp only [Maj] at ha hb
  omega
def Low (g : Gh) (i b : Int) (s : Bool) (w : Int) : Prop := ∀ c, g.votes i c → c < b → s = true ∧ c ≤ w
def Safe (M : List Int) (V : Int → Vo) (g : Gh) (b : Int) (x : Ent) : Prop :=
  ∃ Q s w, Maj M Q ∧ (∀ i ∈ Q, b ≤ (V i).P ∧ Low g i b s w) ∧ (s = true → w < b ∧ g.prop w = some x)
structure VoOk (g : Gh) (i : Int) (v : Vo) : Prop where
  pn : bOk v.pn
  bn : bOk v.bn
  le : ∀ c, g.votes i c → c ≤ v.P ∧ v.s = true ∧ c ≤ v.b
  sm : v.s = true → v.b ≤ v.P ∧ g.prop v.b = some v.x
structure FlOk (M : List Int) (V : Int → Vo) (g : Gh) (f : Fl) : Prop where
  fr : f.fr ∈ M
  to : f.to ∈ M
  bn : bOk f.bn
  wn : bOk f.wn
  k1 : f.kd = 1 → f.b ≤ (V f.fr).P ∧ Low g f.fr f.b f.s f.w ∧ (f.s = true → f.w < f.b ∧ g.prop f.w = some f.x)
  k2 : f.kd = 2 → g.prop f.b = some f.x
  k3 : f.kd ≠ 0 → f.kd ≠ 1 → f.kd ≠ 2 → g.votes f.fr f.b
structure ChOk (M : List Int) (V : Int → Vo) (g : Gh) (t R n : Int) (c : Ch) : Prop where
  mem : c.mem = M
  bn : bOk c.bn
  xn : bOk c.xn
  own : c.ph ≠ 0 → c.bn = n
  zr : c.ph = 0 → c.br = 0
  lo : 0 ≤ c.br
  hi : c.br ≤ R
  once : ∀ r, g.prop (key r n) ≠ none → r ≤ c.br
  hl : (c.heard.length : Int) ≤ t
  ask : c.ph = 1 → g.prop (key c.br c.bn) = none ∧ (∀ i ∈ c.heard, key c.br c.bn ≤ (V i).P ∧ Low g i (key c.br c.bn) c.s (key c.xr c.xn)) ∧ (c.s = true → key c.xr c.xn < key c.br c.bn ∧ g.prop (key c.xr c.xn) = some c.found)
  put : 2 ≤ c.ph → g.prop (key c.br c.bn) = some c.ent ∧ ∀ i ∈ c.heard, g.votes i (key c.br c.bn)
  sl : c.own.mem.length ≤ 16
/-- All is well. -/
structure Inv (M : List Int) (V : Int → Vo) (C : Int → Ch) (W : List Fl) (t R : Int) (g : Gh) : Prop where
  vo : ∀ i ∈ M, VoOk g i (V i)
  ch : ∀ n ∈ M, ChOk M V g t R n (C n)
  fl : ∀ f ∈ W, FlOk M V g f
  sf : ∀ b x, g.prop b = some x → 0 ≤ b ∧ Safe M V g b x
  pl : ∀ b x, g.prop b = some x → x.mem.length ≤ 16
def Won (M : List Int) (g : Gh) (b : Int) (x : Ent) : Prop := g.prop b = some x ∧ ∃ Q, Maj M Q ∧ ∀ i ∈ Q, g.votes i b
/-- What is put to the vote by a greater ballot than that by which one was chosen is the same. -/
theorem won_up {M : List Int} {V : Int → Vo} {g : Gh} (sf : ∀ b x, g.prop b = some x → 0 ≤ b ∧ Safe M V g b x) {b : Int} {x : Ent} (hw : Won M g b x) : ∀ (k : Nat) (c : Int) (y : Ent), (c - b).toNat = k → b ≤ c → g.prop c = some y → y = x := by
  intro k
  induction k using Nat.strongRecOn with
  | ind k ih =>
    intro c y hk hc hp
    by_cases he : c = b
    · subst he; have := hp.symm.trans hw.1; exact Option.some.inj this
    · obtain ⟨_, Q, s, w, hQ, hall, hs⟩ := sf c y hp
      obtain ⟨Q', hQ', hv⟩ := hw.2
      obtain ⟨i, _, h1, h2⟩ := maj_meet hQ hQ'
      have := (hall i h1).2 b (hv i h2) (by omega)
      have h3 := hs this.1
      exact ih (w - b).toNat (by omega) w y rfl this.2 h3.2
theorem won_same {M : List Int} {V : Int → Vo} {g : Gh} (sf : ∀ b x, g.prop b = some x → 0 ≤ b ∧ Safe M V g b x) {b c : Int} {x y : Ent} (h1 : Won M g b x) (h2 : Won M g c y) : x = y := by
  by_cases h : b ≤ c
  · exact (won_up sf h1 _ c y rfl h h2.1).symm
  · exact won_up sf h2 _ b x rfl (by omega) h1.1
/-- What comes later. -/
structure Lat (V V' : Int → Vo) (g g' : Gh) : Prop where
  P : ∀ i, (V i).P ≤ (V' i).P
  old : ∀ i c, g.votes i c → g'.votes i c
  new : ∀ i c, g'.votes i c → g.votes i c ∨ (V i).P ≤ c
  prop : ∀ b x, g.prop b = some x → g'.prop b = some x
theorem Low.lat {V V' : Int → Vo} {g g' : Gh} (l : Lat V V' g g') {i b : Int} {s : Bool} {w : Int} (hb : b ≤ (V i).P) (h : Low g i b s w) : Low g' i b s w := by
  intro c hc hlt
  rcases l.new i c hc with h' | h'
  · exact h c h' hlt
  · omega
theorem Safe.lat {M : List Int} {V V' : Int → Vo} {g g' : Gh} (l : Lat V V' g g') {b : Int} {x : Ent} (h : Safe M V g b x) : Safe M V' g' b x := by
  obtain ⟨Q, s, w, h1, h2, h3⟩ := h
  exact ⟨Q, s, w, h1, fun i hi => ⟨Int.le_trans (h2 i hi).1 (l.P i), (h2 i hi).2.lat l (h2 i hi).1⟩, fun hs => ⟨(h3 hs).1, l.prop _ _ (h3 hs).2⟩⟩
theorem FlOk.lat {M : List Int} {V V' : Int → Vo} {g g' : Gh} (l : Lat V V' g g') {f : Fl} (h : FlOk M V g f) : FlOk M V' g' f :=
  ⟨h.fr, h.to, h.bn, h.wn, fun k => ⟨Int.le_trans (h.k1 k).1 (l.P _), (h.k1 k).2.1.lat l (h.k1 k).1, fun hs => ⟨((h.k1 k).2.2 hs).1, l.prop _ _ ((h.k1 k).2.2 hs).2⟩⟩, fun k => l.prop _ _ (h.k2 k), fun a b c => l.old _ _ (h.k3 a b c)⟩
theorem Won.lat {M : List Int} {V V' : Int → Vo} {g g' : Gh} (l : Lat V V' g g') {b : Int} {x : Ent} (h : Won M g b x) : Won M g' b x := by
  obtain ⟨h1, Q, h2, h3⟩ := h
  exact ⟨l.prop _ _ h1, Q, h2, fun i hi => l.old _ _ (h3 i hi)⟩
/-- A chair that does nothing meanwhile. -/
theorem ChOk.lat {M : List Int} {V V' : Int → Vo} {g g' : Gh} (l : Lat V V' g g') {t t' R R' n : Int} {c : Ch} (h : ChOk M V g t R n c) (ht : t ≤ t') (hR : R ≤ R') (hp : ∀ r, g'.prop (key r n) = g.prop (key r n)) : ChOk M V' g' t' R' n c :=
  ⟨h.mem, h.bn, h.xn, h.own, h.zr, h.lo, Int.le_trans h.hi hR, fun r hr => h.once r (by rw [← hp]; exact hr), Int.le_trans h.hl ht,
   fun k => ⟨by have := h.own (by omega); rw [this, hp, ← this]; exact (h.ask k).1, fun i hi => ⟨Int.le_trans ((h.ask k).2.1 i hi).1 (l.P i), ((h.ask k).2.1 i hi).2.lat l ((h.ask k).2.1 i hi).1⟩, fun hs => ⟨((h.ask k).2.2 hs).1, l.prop _ _ ((h.ask k).2.2 hs).2⟩⟩,
   fun k => ⟨l.prop _ _ (h.put k).1, fun i hi => l.old _ _ ((h.put k).2 i hi)⟩, h.sl⟩
/-- One thing of a table is another now. -/
def upd {α : Type} (V : Int → α) (n : Int) (v : α) (k : Int) : α := if k = n then v else V k
theorem upd_at {α : Type} (V : Int → α) (n : Int) (v : α) : upd V n v n = v := if_pos rfl
theorem upd_ne {α : Type} (V : Int → α) {n k : Int} (v : α) (h : k ≠ n) : upd V n v k = V k := if_neg h
theorem Lat.rfl' {V : Int → Vo} {g : Gh} : Lat V V g g := ⟨fun _ => Int.le_refl _, fun _ _ h => h, fun _ _ h => .inl h, fun _ _ h => h⟩
/-- Letters are lost, or come twice. -/
theorem Inv.drop {M : List Int} {V : Int → Vo} {C : Int → Ch} {W W' : List Fl} {t t' R R' : Int} {g : Gh} (h : Inv M V C W t R g) (hW : ∀ f ∈ W', f ∈ W) (ht : t ≤ t') (hR : R ≤ R') : Inv M V C W' t' R' g :=
  ⟨h.vo, fun n hn => (h.ch n hn).lat Lat.rfl' ht hR fun _ => rfl, fun f hf => h.fl f (hW f hf), h.sf, h.pl⟩
theorem Inv.more {M : List Int} {V : Int → Vo} {C : Int → Ch} {W F : List Fl} {t R : Int} {g : Gh} (h : Inv M V C W t R g) (hF : ∀ f ∈ F, FlOk M V g f) : Inv M V C (W ++ F) t R g :=
  ⟨h.vo, h.ch, fun f hf => (List.mem_append.1 hf).elim (h.fl f) (hF f), h.sf, h.pl⟩
/-- A voter promises. -/
def Vo.prom (v : Vo) (r n : Int) : Vo := { v with pr := r, pn := n }
theorem lat_prom {V : Int → Vo} {g : Gh} {i r n : Int} (h : (V i).P ≤ key r n) : Lat V (upd V i ((V i).prom r n)) g g :=
  ⟨fun k => by by_cases e : k = i
               · subst e; rw [upd_at]; exact h
               · rw [upd_ne _ _ e]; exact Int.le_refl _, fun _ _ h => h, fun _ _ h => .inl h, fun _ _ h => h⟩
theorem Inv.prom {M : List Int} {V : Int → Vo} {C : Int → Ch} {W : List Fl} {t R : Int} {g : Gh} (h : Inv M V C W t R g) {f : Fl} (hf : FlOk M V g f) (hl : (V f.to).P < f.b) :
    Inv M (upd V f.to ((V f.to).prom f.br f.bn)) C (W ++ [⟨1, f.to, f.fr, f.br, f.bn, (V f.to).br, (V f.to).bn, (V f.to).s, (V f.to).x⟩]) t R g := by
  have l := lat_prom (V := V) (g := g) (i := f.to) (r := f.br) (n := f.bn) (Int.le_of_lt hl)
  have v := h.vo _ hf.to
  refine Inv.more ⟨fun i hi => ?_, fun n hn => (h.ch n hn).lat l (Int.le_refl _) (Int.le_refl _) fun _ => rfl, fun f hf => (h.fl f hf).lat l, fun b x hb => ⟨(h.sf b x hb).1, (h.sf b x hb).2.lat l⟩, h.pl⟩ fun e he => ?_
  · by_cases e : i = f.to
    · subst e; rw [upd_at]
      exact ⟨hf.bn, v.bn, fun c hc => ⟨Int.le_trans (v.le c hc).1 (Int.le_of_lt hl), (v.le c hc).2⟩, fun hs => ⟨Int.le_trans (v.sm hs).1 (Int.le_of_lt hl), (v.sm hs).2⟩⟩
    · rw [upd_ne _ _ e]; exact h.vo i hi
  · rw [List.mem_singleton.1 he]
    refine ⟨hf.to, hf.fr, hf.bn, v.bn, fun _ => ⟨?_, fun c hc _ => (v.le c hc).2, fun hs => ⟨Int.lt_of_le_of_lt (v.sm hs).1 hl, (v.sm hs).2⟩⟩, fun k => absurd (show (1 : Int) = 2 from k) (by decide), fun _ k => absurd rfl k⟩
    show _ ≤ (upd V f.to _ f.to).P
    rw [upd_at]; exact Int.le_refl _
/-- A voter accepts. -/
def Vo.acc (r n : Int) (x : Ent) : Vo := ⟨r, n, true, r, n, x⟩
def Gh.vote (g : Gh) (i b : Int) : Gh := ⟨g.prop, fun j c => g.votes j c ∨ (j = i ∧ c = b)⟩
theorem lat_acc {V : Int → Vo} {g : Gh} {i r n : Int} {x : Ent} (h : (V i).P ≤ key r n) : Lat V (upd V i (Vo.acc r n x)) g (g.vote i (key r n)) :=
  ⟨fun k => by by_cases e : k = i
               · subst e; rw [upd_at]; exact h
               · rw [upd_ne _ _ e]; exact Int.le_refl _, fun _ _ h => .inl h, fun j c hc => hc.elim .inl fun ⟨a, b⟩ => .inr (by rw [a, b]; exact h), fun _ _ h => h⟩
theorem Inv.acc {M : List Int} {V : Int → Vo} {C : Int → Ch} {W : List Fl} {t R : Int} {g : Gh} (h : Inv M V C W t R g) {f : Fl} (hf : FlOk M V g f) (k2 : f.kd = 2) (hl : (V f.to).P ≤ f.b) :
    Inv M (upd V f.to (Vo.acc f.br f.bn f.x)) C (W ++ [⟨3, f.to, f.fr, f.br, f.bn, 0, 0, false, zE⟩]) t R (g.vote f.to f.b) := by
  have l := lat_acc (V := V) (g := g) (i := f.to) (r := f.br) (n := f.bn) (x := f.x) hl
  refine Inv.more ⟨fun i hi => ?_, fun n hn => (h.ch n hn).lat l (Int.le_refl _) (Int.le_refl _) fun _ => rfl, fun f hf => (h.fl f hf).lat l, fun b x hb => ⟨(h.sf b x hb).1, (h.sf b x hb).2.lat l⟩, h.pl⟩ fun e he => ?_
  · have v := h.vo i hi
    by_cases e : i = f.to
    · subst e; rw [upd_at]
      refine ⟨hf.bn, hf.bn, fun c hc => ?_, fun _ => ⟨Int.le_refl _, hf.k2 k2⟩⟩
      have : c ≤ f.b := by
        rcases hc with hc | ⟨_, hc⟩
        · have := (v.le c hc).1; omega
        · omega
      exact ⟨this, rfl, this⟩
    · rw [upd_ne _ _ e]
      exact ⟨v.pn, v.bn, fun c hc => v.le c (hc.elim id fun hc => absurd hc.1 e), v.sm⟩
  · rw [List.mem_singleton.1 he]
    exact ⟨hf.to, hf.fr, hf.bn, ⟨Int.le_refl _, show (0 : Int) < 16 by decide⟩, fun k => absurd (show (3 : Int) = 1 from k) (by decide), fun k => absurd (show (3 : Int) = 2 from k) (by decide), fun _ _ _ => .inr ⟨rfl, rfl⟩⟩
end Go.Proofs.Ytgecmpgpinihhaa
