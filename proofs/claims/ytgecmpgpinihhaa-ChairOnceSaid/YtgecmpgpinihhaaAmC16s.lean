/- The law's own memory: six voters, six chairs, the letters under way. -/
import Derived.Test.YtgecmpgpinihhaaAmC16w
import Derived.Test.YtgecmpgpinihhaaAmC16p2
set_option linter.unusedSimpArgs false
set_option linter.unusedVariables false
set_option maxRecDepth 100000
set_option maxHeartbeats 4000000
namespace Go.Proofs.Ytgecmpgpinihhaa
open Go Go.AM Go.AM.Crc Go.AM.Wire
abbrev flC (f : Fl) (va vm : Value) : List Value := [.int .i64 f.kd, .int .i64 f.fr, .int .i64 f.to, .int .i64 f.br, .int .i64 f.bn, .int .i64 f.wr, .int .i64 f.wn, .bool f.s, .int .u8 f.x.kind, .int .u16 f.x.tr, .int .u16 f.x.nu, .int .i64 f.x.pc, va, vm]
def flR (m : Mem) (f : Fl) (c : List Value) : Prop := ∃ va vm, c = flC f va vm ∧ FRow m va 1 f.x.args.length (byteCells f.x.args) ∧ FRow m vm 1 f.x.mem.length (ints f.x.mem)
theorem flR_size {m : Mem} (f : Fl) (c : List Value) (h : flR m f c) : c.length = 14 := by
  obtain ⟨va, vm, rfl, _, _⟩ := h
  rfl
theorem flR_pz {m m' : Mem} (z : Pz m m') (f : Fl) (c : List Value) (h : flR m f c) : flR m' f c := by
  obtain ⟨va, vm, rfl, h1, h2⟩ := h
  exact ⟨va, vm, rfl, h1.pz z, h2.pz z⟩
abbrev ptr (i : Nat) : Value := .pointer (some ⟨i, 0, none⟩)
abbrev ptrs (p : Int → Nat) : List Value := [ptr (p 0), ptr (p 1), ptr (p 2), ptr (p 3), ptr (p 4), ptr (p 5)]
theorem ptrs_at (p : Int → Nat) {n : Int} (h : 0 ≤ n ∧ n < 6) : (ptrs p)[n.toNat]? = some (ptr (p n)) := by
  have : n = 0 ∨ n = 1 ∨ n = 2 ∨ n = 3 ∨ n = 4 ∨ n = 5 := by omega
  rcases this with rfl | rfl | rfl | rfl | rfl | rfl <;> rfl
/-- Six of each, and what is under way; ow tells whose a block is. -/
structure Sys (m : Mem) (ow : Nat → Nat) (pv pc rc : Int → Nat) (bV bC rw : Nat) (V : Int → Vo) (C : Int → Ch) (vw : Value) (W : List Fl) (cs : List Value) : Prop where
  vo : ∀ n, 0 ≤ n → n < 6 → VoAt m (pv n) (V n)
  ch : ∀ n, 0 ≤ n → n < 6 → ChAt m (pc n) (rc n) (C n)
  bv : m.get bV = some (.cells (ptrs pv) 58 true)
  bc : m.get bC = some (.cells (ptrs pc) 59 true)
  lv : bV < m.next
  lc : bC < m.next
  way : OwnI rw 68 14 m vw W.length cs
  fl : RowsOf (flR m) W cs
  tv : ∀ n, 0 ≤ n → n < 6 → ow (pv n) = 10 + n.toNat
  tc : ∀ n, 0 ≤ n → n < 6 → ow (pc n) = 1 + n.toNat
  tr : ∀ n, 0 ≤ n → n < 6 → ow (rc n) = 1 + n.toNat
  tbv : ow bV = 20
  tbc : ow bC = 21
  tw : vw ≠ .slice none 0 0 → ow rw = 22
theorem ChAt.li {m : Mem} {i r : Nat} {C : Ch} (h : ChAt m i r C) : i < m.next ∧ r < m.next := by
  obtain ⟨_, _, _, _, _, _, _, _, H⟩ := h
  exact ⟨H.li, H.lr⟩
theorem ChAt.keep {m m' : Mem} {i r : Nat} {C : Ch} (h : ChAt m i r C) (z : Pz m m') (hi : i < m.next → m'.get i = m.get i) (hr : r < m.next → m'.get r = m.get r) : ChAt m' i r C := by
  obtain ⟨_, _, _, _, _, _, _, _, H⟩ := h
  exact ⟨_, _, _, _, _, _, _, _, H.keep z (hi H.li) hr⟩
theorem VoAt.li {m : Mem} {i : Nat} {V : Vo} (h : VoAt m i V) : i < m.next := by
  obtain ⟨_, _, H⟩ := h
  exact H.li
section
variable {m m' : Mem} {ow : Nat → Nat} {pv pc rc : Int → Nat} {bV bC rw : Nat} {V : Int → Vo} {C : Int → Ch} {vw : Value} {W : List Fl} {cs : List Value}
theorem Sys.keep (h : Sys m ow pv pc rc bV bC rw V C vw W cs) (z : Pz m m') (k : ∀ j, j < m.next → (1 ≤ ow j ∧ ow j ≤ 21 ∨ j = rw ∧ vw ≠ .slice none 0 0) → m'.get j = m.get j) : Sys m' ow pv pc rc bV bC rw V C vw W cs :=
  ⟨fun n a b => (h.vo n a b).keep z fun l => k _ l (.inl (by rw [h.tv n a b]; omega)),
   fun n a b => (h.ch n a b).keep z (fun l => k _ l (.inl (by rw [h.tc n a b]; omega))) fun l => k _ l (.inl (by rw [h.tr n a b]; omega)),
   (k _ h.lv (.inl (by rw [h.tbv]; omega))).trans h.bv, (k _ h.lc (.inl (by rw [h.tbc]; omega))).trans h.bc, Nat.lt_of_lt_of_le h.lv z.1, Nat.lt_of_lt_of_le h.lc z.1,
   h.way.keepN z.1 fun hn l => k _ l (.inr ⟨rfl, hn⟩), h.fl.mono (flR_pz z), h.tv, h.tc, h.tr, h.tbv, h.tbc, h.tw⟩
theorem Sys.ext (h : Sys m ow pv pc rc bV bC rw V C vw W cs) (x : Ext m m') : Sys m' ow pv pc rc bV bC rw V C vw W cs := h.keep x.pz fun j hj _ => x.2 j hj
/-- A voter is another one now. -/
theorem Sys.voter (h : Sys m ow pv pc rc bV bC rw V C vw W cs) {n : Int} (hn : 0 ≤ n ∧ n < 6) {v : Vo} (hv : VoAt m' (pv n) v) (z : Pz m m') (k : ∀ j, j < m.next → j ≠ pv n → m'.get j = m.get j) : Sys m' ow pv pc rc bV bC rw (upd V n v) C vw W cs := by
  have t := h.tv n hn.1 hn.2
  have ne : ∀ j, ow j ≠ 10 + n.toNat → j ≠ pv n := fun j hj e => hj (by rw [e]; exact t)
  refine ⟨fun q a b => ?_, fun q a b => (h.ch q a b).keep z (fun l => k _ l (ne _ (by rw [h.tc q a b]; omega))) fun l => k _ l (ne _ (by rw [h.tr q a b]; omega)),
    (k _ h.lv (ne _ (by rw [h.tbv]; omega))).trans h.bv, (k _ h.lc (ne _ (by rw [h.tbc]; omega))).trans h.bc, Nat.lt_of_lt_of_le h.lv z.1, Nat.lt_of_lt_of_le h.lc z.1,
    h.way.keepN z.1 fun hw l => k _ l (ne _ (by rw [h.tw hw]; omega)), h.fl.mono (flR_pz z), h.tv, h.tc, h.tr, h.tbv, h.tbc, h.tw⟩
  by_cases e : q = n
  · rw [e, upd_at]; exact hv
  · rw [upd_ne _ _ e]
    exact (h.vo q a b).keep z fun l => k _ l (ne _ (by rw [h.tv q a b]; omega))
/-- A block is somebody's now. -/
def tag (ow : Nat → Nat) (r k : Nat) (j : Nat) : Nat := if j = r then k else ow j
theorem tag_at (ow : Nat → Nat) (r k : Nat) : tag ow r k r = k := if_pos rfl
theorem tag_ne (ow : Nat → Nat) {r j : Nat} (k : Nat) (h : j ≠ r) : tag ow r k j = ow j := if_neg h
/-- A chair is another one now. -/
theorem Sys.chair (h : Sys m ow pv pc rc bV bC rw V C vw W cs) {n : Int} (hn : 0 ≤ n ∧ n < 6) {r : Nat} {c : Ch} (hc : ChAt m' (pc n) r c) (z : Pz m m') (k : ∀ j, j < m.next → j ≠ pc n → j ≠ rc n → m'.get j = m.get j) (hr : r = pc n ∨ m.next ≤ r) (hlw : vw ≠ .slice none 0 0 → rw < m.next) : Sys m' (tag ow r (1 + n.toNat)) pv pc (upd rc n r) bV bC rw V (upd C n c) vw W cs := by
  have t1 := h.tc n hn.1 hn.2
  have t2 := h.tr n hn.1 hn.2
  have ne : ∀ j, ow j ≠ 1 + n.toNat → j ≠ pc n ∧ j ≠ rc n := fun j hj => ⟨fun e => hj (by rw [e]; exact t1), fun e => hj (by rw [e]; exact t2)⟩
  have kk : ∀ j, j < m.next → ow j ≠ 1 + n.toNat → m'.get j = m.get j := fun j l hj => k j l (ne j hj).1 (ne j hj).2
  have tg : ∀ j, j < m.next → tag ow r (1 + n.toNat) j = ow j := fun j l => by
    by_cases e : j = r
    · rw [e, tag_at]
      rcases hr with hr | hr
      · rw [hr]; exact t1.symm
      · omega
    · exact tag_ne _ _ e
  refine ⟨fun q a b => (h.vo q a b).keep z fun l => kk _ l (by rw [h.tv q a b]; omega), fun q a b => ?_,
    (kk _ h.lv (by rw [h.tbv]; omega)).trans h.bv, (kk _ h.lc (by rw [h.tbc]; omega)).trans h.bc, Nat.lt_of_lt_of_le h.lv z.1, Nat.lt_of_lt_of_le h.lc z.1,
    h.way.keepN z.1 fun hw l => kk _ l (by rw [h.tw hw]; omega), h.fl.mono (flR_pz z), fun q a b => (tg _ (h.vo q a b).li).trans (h.tv q a b), fun q a b => (tg _ (h.ch q a b).li.1).trans (h.tc q a b), fun q a b => ?_,
    (tg _ h.lv).trans h.tbv, (tg _ h.lc).trans h.tbc, fun hw => (tg _ (hlw hw)).trans (h.tw hw)⟩
  · by_cases e : q = n
    · rw [e, upd_at, upd_at]; exact hc
    · rw [upd_ne _ _ e, upd_ne _ _ e]
      exact (h.ch q a b).keep z (fun l => kk _ l (by rw [h.tc q a b]; omega)) fun l => kk _ l (by rw [h.tr q a b]; omega)
  · by_cases e : q = n
    · rw [e, upd_at, tag_at]
    · rw [upd_ne _ _ e]
      exact (tg _ (h.ch q a b).li.2).trans (h.tr q a b)
/-- Other letters are under way now. -/
theorem Sys.letters (h : Sys m ow pv pc rc bV bC rw V C vw W cs) {r : Nat} {w : Value} {X : List Fl} {ds : List Value} (hw : OwnI r 68 14 m' w X.length ds) (hX : RowsOf (flR m') X ds) (z : Pz m m') (k : ∀ j, j < m.next → 1 ≤ ow j ∧ ow j ≤ 21 → m'.get j = m.get j) (hr : m.next ≤ r) : Sys m' (tag ow r 22) pv pc rc bV bC r V C w X ds := by
  have tg : ∀ j, j < m.next → tag ow r 22 j = ow j := fun j l => tag_ne _ _ (by omega)
  exact ⟨fun n a b => (h.vo n a b).keep z fun l => k _ l (by rw [h.tv n a b]; omega),
   fun n a b => (h.ch n a b).keep z (fun l => k _ l (by rw [h.tc n a b]; omega)) fun l => k _ l (by rw [h.tr n a b]; omega),
   (k _ h.lv (by rw [h.tbv]; omega)).trans h.bv, (k _ h.lc (by rw [h.tbc]; omega)).trans h.bc, Nat.lt_of_lt_of_le h.lv z.1, Nat.lt_of_lt_of_le h.lc z.1,
   hw, hX, fun q a b => (tg _ (h.vo q a b).li).trans (h.tv q a b), fun q a b => (tg _ (h.ch q a b).li.1).trans (h.tc q a b), fun q a b => (tg _ (h.ch q a b).li.2).trans (h.tr q a b), (tg _ h.lv).trans h.tbv, (tg _ h.lc).trans h.tbc, fun _ => tag_at _ _ _⟩
/-- A letter is sent. -/
theorem Sys.push (h : Sys m ow pv pc rc bV bC rw V C vw W cs) (hW : W.length < 1000000) {f : Fl} {va vm : Value} (f1 : FRow m va 1 f.x.args.length (byteCells f.x.args)) (f2 : FRow m vm 1 f.x.mem.length (ints f.x.mem)) :
    ∃ a q m2 r, opAppend Try.prog [62, 62] [vw, .slice (some ⟨m.next, 0, none⟩) 1 14] (m.new (.cells (flC f va vm) 68 true)) = some (.slice a (W.length + 1) q, m2) ∧
      Sys m2 (tag ow r 22) pv pc rc bV bC r V C (.slice a (W.length + 1) q) (W ++ [f]) (cs ++ flC f va vm) ∧ m.next < r ∧ r < m2.next ∧ Pz m m2 ∧ ∀ j, j < m.next → (j = rw → vw = .slice none 0 0) → m2.get j = m.get j := by
  have sn : ShowsR 14 (m.new (.cells (flC f va vm) 68 true)) (.slice (some ⟨m.next, 0, none⟩) 1 14) 1 (flC f va vm) := ⟨_, _, rfl, by simp [shown, new_get], rfl⟩
  obtain ⟨a', q', m2, r', p1, p2, p3, p4, p5⟩ := (h.way.ext (Ext.new m (.cells (flC f va vm) 68 true))).push (P := Try.prog) (tx := 62) Try.underlying62 ⟨_, Try.underlying62⟩ ts68 (by decide) tz68 tb68 (by decide) rfl rfl sn (by omega)
  simp only [new_next] at p3 p4 p5
  have fr : ∀ j, j < m.next → (j = rw → vw = .slice none 0 0) → m2.get j = m.get j := fun j hj hn => by rw [p5 j (by omega) hn, new_get_ne _ (by omega)]
  have hpz : Pz m m2 := by
    refine ⟨by omega, fun j cs e hj g => ?_⟩
    rw [fr j hj fun h' => ?_, g]
    rcases h.way.2 with ⟨_, h1⟩ | ⟨h1, h2, h3⟩
    · exact h1
    · rw [h', h3] at g
      simp at g
  refine ⟨a', q', m2, r', p1, h.letters (by rw [List.length_append]; exact p2) ((h.fl.mono (flR_pz hpz)).append (RowsOf.one ⟨va, vm, rfl, f1.pz hpz, f2.pz hpz⟩)) hpz (fun j hj ht => fr j hj fun e => ?_) (by omega), by omega, by omega, hpz, fr⟩
  by_cases g : vw = .slice none 0 0
  · exact g
  · have := h.tw g
    rw [← e] at this
    omega
/-- A letter is taken out. -/
theorem Sys.cut (h : Sys m ow pv pc rc bV bC rw V C vw W cs) (hW : W.length < 1000000) {j : Nat} (hj : j < W.length) :
    ∃ a1 q1 a2 q2 a3 q3 m2 a4 q4 m3 r, opSlice Try.prog 62 vw none (some (.int .i64 j)) = some (.slice a1 j q1) ∧ opSlice Try.prog 62 vw (some (.int .i64 ((j + 1 : Nat) : Int))) none = some (.slice a2 (W.length - (j + 1)) q2) ∧
      opAppend Try.prog [62, 62] [.slice (some ⟨m.next, 0, none⟩) 0 14, .slice a1 j q1] (m.new (.cells [] 68 true)) = some (.slice a3 j q3, m2) ∧ opAppend Try.prog [62, 62] [.slice a3 j q3, .slice a2 (W.length - (j + 1)) q2] m2 = some (.slice a4 (W.length - 1) q4, m3) ∧
      Sys m3 (tag ow r 22) pv pc rc bV bC r V C (.slice a4 (W.length - 1) q4) (W.take j ++ W.drop (j + 1)) (cs.take (j * 14) ++ cs.drop ((j + 1) * 14)) ∧ m.next ≤ r ∧ Ext m m2 ∧ Ext m m3 := by
  have hr := (h.way.row (by omega)).1
  obtain ⟨a1, q1, a2, q2, a3, q3, m2, a4, q4, m3, r', p1, p2, p3, p4, p5, p6, p7, x2, x3⟩ := h.way.cut_out (P := Try.prog) hr Try.underlying62 ts68 (by decide) tz68 tb68 (by decide) rfl rfl (by omega) hj
  have hl : (W.take j ++ W.drop (j + 1)).length = W.length - 1 := by rw [List.length_append, List.length_take, List.length_drop]; omega
  exact ⟨a1, q1, a2, q2, a3, q3, m2, a4, q4, m3, r', p1, p2, p3, p4, h.letters (by rw [hl]; exact p5) (((h.fl.take flR_size j).append (h.fl.drop flR_size (j + 1))).mono (flR_pz x3.pz)) x3.pz (fun j hj _ => x3.2 j hj) p6, p6, x2, x3⟩
theorem one_fl (m : Mem) (a b c d e f g : Int) (s : Bool) (k t n p : Int) (x y : Option Addr) (lx zx ly zy : Nat) : opBuildSlice Try.prog 62 1 [(0, .agg #[.int .i64 a, .int .i64 b, .int .i64 c, .int .i64 d, .int .i64 e, .int .i64 f, .int .i64 g, .bool s, .int .u8 k, .int .u16 t, .int .u16 n, .int .i64 p, .slice x lx zx, .slice y ly zy])] m = some (.slice (some ⟨m.next, 0, none⟩) 1 14, m.new (.cells [.int .i64 a, .int .i64 b, .int .i64 c, .int .i64 d, .int .i64 e, .int .i64 f, .int .i64 g, .bool s, .int .u8 k, .int .u16 t, .int .u16 n, .int .i64 p, .slice x lx zx, .slice y ly zy] 68 true)) := by kernel_rfl
theorem bld68a (k a b r n : Int) : opBuild Try.prog 68 [(0, .int .i64 k), (1, .int .i64 a), (2, .int .i64 b), (3, bal r n)] = some (.agg #[.int .i64 k, .int .i64 a, .int .i64 b, .int .i64 r, .int .i64 n, .int .i64 0, .int .i64 0, .bool false, .int .u8 0, .int .u16 0, .int .u16 0, .int .i64 0, .slice none 0 0, .slice none 0 0]) := by kernel_rfl
theorem bld68b (k a b r n wr wn : Int) (s : Bool) (x1 x2 x3 x4 : Int) (x y : Option Addr) (lx zx ly zy : Nat) : opBuild Try.prog 68 [(0, .int .i64 k), (1, .int .i64 a), (2, .int .i64 b), (3, bal r n), (4, bal wr wn), (5, .bool s), (6, entW x1 x2 x3 x4 (.slice x lx zx) (.slice y ly zy))] = some (.agg #[.int .i64 k, .int .i64 a, .int .i64 b, .int .i64 r, .int .i64 n, .int .i64 wr, .int .i64 wn, .bool s, .int .u8 x1, .int .u16 x2, .int .u16 x3, .int .i64 x4, .slice x lx zx, .slice y ly zy]) := by kernel_rfl
theorem bld68c (k a b r n : Int) (x1 x2 x3 x4 : Int) (x y : Option Addr) (lx zx ly zy : Nat) : opBuild Try.prog 68 [(0, .int .i64 k), (1, .int .i64 a), (2, .int .i64 b), (3, bal r n), (6, entW x1 x2 x3 x4 (.slice x lx zx) (.slice y ly zy))] = some (.agg #[.int .i64 k, .int .i64 a, .int .i64 b, .int .i64 r, .int .i64 n, .int .i64 0, .int .i64 0, .bool false, .int .u8 x1, .int .u16 x2, .int .u16 x3, .int .i64 x4, .slice x lx zx, .slice y ly zy]) := by kernel_rfl
end
end Go.Proofs.Ytgecmpgpinihhaa
