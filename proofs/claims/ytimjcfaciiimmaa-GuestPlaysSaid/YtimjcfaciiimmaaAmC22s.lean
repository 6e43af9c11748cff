/- A guest with its tables: blocks are told apart by tags. -/
import Derived.Test.YtimjcfaciiimmaaAmC22x
import Derived.Test.YtimjcfaciiimmaaAmC22c
import Derived.Test.YtimjcfaciiimmaaAmBun
set_option linter.unusedSimpArgs false
set_option linter.unusedVariables false
set_option maxRecDepth 100000
set_option maxHeartbeats 4000000
namespace Go.Proofs.Ytimjcfaciiimmaa
open Go Go.AM Go.AM.Crc Go.AM.Wire
/-- New blocks are k's. -/
def tagr (ow : Nat → Nat) (m m' : Mem) (k j : Nat) : Nat := if m.next ≤ j ∧ j < m'.next then k else ow j
theorem tagr_old (ow : Nat → Nat) {m m' : Mem} (k : Nat) {j : Nat} (h : j < m.next) : tagr ow m m' k j = ow j := if_neg (by omega)
theorem tagr_new (ow : Nat → Nat) {m m' : Mem} (k : Nat) {j : Nat} (h : m.next ≤ j) (h' : j < m'.next) : tagr ow m m' k j = k := if_pos ⟨h, h'⟩
theorem tagr_out (ow : Nat → Nat) {m m' : Mem} (k : Nat) {j : Nat} (h : m'.next ≤ j) : tagr ow m m' k j = ow j := if_neg (by omega)
/-- A table, all of whose blocks are k's. -/
def Tb (m : Mem) (ow : Nat → Nat) (k i : Nat) (C : Tc) : Prop := ∃ mv nv av rn ra cs, TcIs m 0 i C mv nv av rn ra cs ∧ ow i = k ∧ (nv ≠ .slice none 0 0 → ow rn = k) ∧ (av ≠ .slice none 0 0 → ow ra = k)
theorem oi_lt {r : Nat} {e sz n : Nat} {m : Mem} {v : Value} {cs : List Value} (h : OwnI r e sz m v n cs) (hv : v ≠ .slice none 0 0) : r < m.next := by
  obtain ⟨_, ⟨_, h'⟩ | ⟨h', _⟩⟩ := h
  · exact (hv h').elim
  · exact h'
theorem Tb.keep {m m' : Mem} {ow ow' : Nat → Nat} {k i : Nat} {C : Tc} (h : Tb m ow k i C) (z : Pz m m') (a : ∀ j, j < m.next → ow' j = ow j) (f : ∀ j, j < m.next → ow j = k → m'.get j = m.get j) : Tb m' ow' k i C := by
  obtain ⟨mv, nv, av, rn, ra, cs, h, t1, t2, t3⟩ := h
  exact ⟨mv, nv, av, rn, ra, cs, h.keepN z (f i h.li.2 t1) (fun hv hl => f rn hl (t2 hv)) (fun hv hl => f ra hl (t3 hv)), (a i h.li.2).trans t1, fun hv => (a rn (oi_lt h.on hv)).trans (t2 hv), fun hv => (a ra (oi_lt h.oa hv)).trans (t3 hv)⟩
theorem Tb.at {m : Mem} {ow : Nat → Nat} {k i : Nat} {C : Tc} (h : Tb m ow k i C) : TcAt m 0 i C := by
  obtain ⟨mv, nv, av, rn, ra, cs, h, _⟩ := h
  exact ⟨mv, nv, av, rn, ra, cs, h⟩
theorem Tb.li {m : Mem} {ow : Nat → Nat} {k i : Nat} {C : Tc} (h : Tb m ow k i C) : i < m.next ∧ ow i = k ∧ ∃ x, m.get i = some (.cells x 103 true) := by
  obtain ⟨mv, nv, av, rn, ra, cs, h, t, _⟩ := h
  exact ⟨h.li.2, t, _, h.gi⟩
theorem cput_tb {m : Mem} {ow : Nat → Nat} {k i : Nat} {C : Tc} {n vn : Int} {l : List Int} {v : Value} {a : Ans} {w : Value} (H : Tb m ow k i C) (fv : FRow m v 1 l.length (ints l)) (fw : FRow m w 1 a.s.length (byteCells a.s)) (hl : l.length < 2 ^ 40) (hn : C.nodes.length < 2 ^ 30) (hm : C.mem.length < 2 ^ 40) (hs : a.s.length < 2 ^ 46) {K : Value → Mem → Prop}
    (hK1 : ∀ m', Ext m m' → putOk C n vn l = false → K (.bool false) m')
    (hK2 : ∀ m', Tb m' (tagr ow m m' k) k i (putC C n vn l a) → Pz m m' → (∀ j, j < m.next → ow j ≠ k → m'.get j = m.get j) → putOk C n vn l = true → K (.bool true) m') : Ret Try.prog 21 [.pointer (some ⟨i, 0, none⟩), .int .i64 n, viewV vn v, ansV a.e a.q w] m K := by
  obtain ⟨mv, nv, av, rn, ra, cs, H, t1, t2, t3⟩ := H
  refine cput_is H fv fw hl hn hm hs hK1 fun m' mv' nv' av' rn' ra' cs' H' h1 h2 z f ok => ?_
  refine hK2 m' ⟨mv', nv', av', rn', ra', cs', H', (tagr_old ow k H.li.2).trans t1, fun hv => tagr_new ow k h1 (oi_lt H'.on hv), fun hv => tagr_new ow k h2 (oi_lt H'.oa hv)⟩ z (fun j hj hk => f j hj (fun e => hk (e ▸ t1)) (fun e => ?_) (fun e => ?_)) ok
  · by_cases q : nv = .slice none 0 0
    · exact q
    · exact (hk (e ▸ t2 q)).elim
  · by_cases q : av = .slice none 0 0
    · exact q
    · exact (hk (e ▸ t3 q)).elim
/-- What waits for answers. -/
structure Pg where
  b : Nat
  tb : Nat
  left : Int
  C : Tc
  pr : Int
  s : List Int
structure Sg where
  time : Int
  opn : List (Int × Pg)
  res : List (Int × Ans)
  order : List Int
structure Pe (m : Mem) (ow : Nat → Nat) (n : Int) (p : Pg) : Prop where
  n6 : 0 ≤ n ∧ n < 6
  gb : ∃ av, m.get p.b = some (.cells [.int .u16 2, .int .u16 n, .int .i64 p.pr, av, .pointer (some ⟨p.tb, 0, none⟩), .int .i64 p.left] 98 true) ∧ FRow m av 1 p.s.length (byteCells p.s)
  lb : p.b < m.next
  ob : ow p.b = 8 + n.toNat
  tb : Tb m ow (2 + n.toNat) p.tb p.C
theorem Pe.keep {m m' : Mem} {ow ow' : Nat → Nat} {n : Int} {p : Pg} (h : Pe m ow n p) (z : Pz m m') (a : ∀ j, j < m.next → ow' j = ow j) (f : ∀ j, j < m.next → ow j = 2 + n.toNat ∨ ow j = 8 + n.toNat → m'.get j = m.get j) : Pe m' ow' n p := by
  obtain ⟨h1, ⟨av, h2, h3⟩, h4, h5, h6⟩ := h
  exact ⟨h1, ⟨av, (f _ h4 (.inr h5)).trans h2, h3.pz z⟩, Nat.lt_of_lt_of_le h4 z.1, (a _ h4).trans h5, h6.keep z a fun j hj e => f j hj (.inl e)⟩
abbrev gsv : List Int := [0, 1, 4]
abbrev gC (pv sv : Value) (ob rb : Nat) (ov : Value) : List Value := [.int .i64 9, .int .u16 2, .string ⟨#[102, 97, 99, 101]⟩, .int .i64 0, .int .i64 0, .slice none 0 0, .slice none 0 0, pv, sv, .map (some ob), .map (some rb), ov]
def PgR (x : Value) (p : Pg) : Prop := x = .pointer (some ⟨p.b, 0, none⟩)
structure Gu (m : Mem) (ow : Nat → Nat) (g ob rb r : Nat) (pv sv ov : Value) (S : Sg) : Prop where
  gg : m.get g = some (.cells (gC pv sv ob rb ov) 85 true)
  fp : FRow m pv 12 3 (procsC S.time 3)
  fs : FRow m sv 1 3 (ints gsv)
  mo : MapIs m ob keyU PgR S.opn
  mr : MapIs m rb keyU (AnsR m) S.res
  oo : OwnI r 22 1 m ov S.order.length (nums S.order)
  lg : g < m.next
  lo : ob < m.next
  lr : rb < m.next
  ne : ob ≠ rb
  rg : r ≠ g
  ro : r ≠ ob
  rr : r ≠ rb
  tg : ow g = 1
  to : ow ob = 1
  tr : ow rb = 1
  tv : ov ≠ .slice none 0 0 → ow r = 1
  pe : ∀ q ∈ S.opn, Pe m ow q.1 q.2
  nd : (S.opn.map (·.1)).Nodup
section
variable {m m' : Mem} {ow ow' : Nat → Nat} {g ob rb r : Nat} {pv sv ov : Value} {S : Sg}
theorem Gu.keep (h : Gu m ow g ob rb r pv sv ov S) (z : Pz m m') (a : ∀ j, j < m.next → ow' j = ow j) (f : ∀ j, j < m.next → 1 ≤ ow j → ow j ≤ 13 → m'.get j = m.get j) : Gu m' ow' g ob rb r pv sv ov S := by
  have zn := z.1
  have f1 : ∀ j, j < m.next → ow j = 1 → m'.get j = m.get j := fun j hj e => f j hj (by omega) (by omega)
  exact ⟨(f1 g h.lg h.tg).trans h.gg, h.fp.pz z, h.fs.pz z, h.mo.keep (f1 ob h.lo h.to), (h.mr.keep (f1 rb h.lr h.tr)).mono (AnsR.pz z), h.oo.keepN zn (fun hv hl => f1 r hl (h.tv hv)), Nat.lt_of_lt_of_le h.lg zn, Nat.lt_of_lt_of_le h.lo zn, Nat.lt_of_lt_of_le h.lr zn, h.ne, h.rg, h.ro, h.rr, (a g h.lg).trans h.tg, (a ob h.lo).trans h.to, (a rb h.lr).trans h.tr, fun hv => (a r (oi_lt h.oo hv)).trans (h.tv hv), fun q hq => (h.pe q hq).keep z a fun j hj e => f j hj (by omega) (by have := (h.pe q hq).n6; omega), h.nd⟩
theorem Gu.ext (h : Gu m ow g ob rb r pv sv ov S) (x : Ext m m') : Gu m' ow g ob rb r pv sv ov S := h.keep x.pz (fun _ _ => rfl) fun j hj _ _ => x.2 j hj
theorem pw_old : ∀ {l : List (Int × Value)} {s : List (Int × Pg)}, Pw PgR l s → Pw PtrR l (s.map fun q => (q.1, (q.2.b, q.2.left)))
  | [], [], _ => trivial
  | _ :: _, _ :: _, ⟨h1, h2, h3⟩ => ⟨h1, h2, pw_old h3⟩
  | [], _ :: _, h => h.elim
  | _ :: _, [], h => h.elim
def Sg.old (S : Sg) : Gs := ⟨9, 2, S.time, gsv, S.opn.map fun q => (q.1, (q.2.b, q.2.left)), S.res, S.order⟩
theorem Gu.gis (h : Gu m ow g ob rb r pv sv ov S) : GIs m g S.old ob rb r pv sv ov := by
  obtain ⟨l, h1, h2⟩ := h.mo
  refine ⟨h.gg, h.fp, h.fs, ⟨l, h1, pw_old h2⟩, h.mr, h.oo, fun p hp => ?_, h.lg, h.lo, h.lr, h.ne, h.rg, h.ro, h.rr⟩
  obtain ⟨q, hq, rfl⟩ := List.mem_map.1 hp
  have e := h.pe q hq
  obtain ⟨av, g1, g2⟩ := e.gb
  obtain ⟨aa, az, rfl⟩ := g2.is
  exact ⟨e.lb, _, _, _, _, _, _, _, g1⟩
theorem Gu.gat (h : Gu m ow g ob rb r pv sv ov S) : GAt m g S.old := ⟨_, _, _, _, _, _, h.gis⟩
theorem mget_old (l : List (Int × Pg)) (n : Int) : mget (l.map fun q => (q.1, (q.2.b, q.2.left))) n = (mget l n).map fun p => (p.b, p.left) := by
  induction l with
  | nil => rfl
  | cons x r ih =>
    simp only [List.map_cons, mget]
    split
    · rfl
    · exact ih
/-- What is in a table of keys behind a put. -/
theorem mput_in {α : Type} {l : List (Int × α)} {k : Int} {v : α} (nd : (l.map (·.1)).Nodup) : ∀ q ∈ mput l k v, q = (k, v) ∨ (q ∈ l ∧ q.1 ≠ k) := by
  induction l with
  | nil => intro q hq; exact .inl (List.mem_singleton.1 hq)
  | cons x r ih =>
    intro q hq
    have nd' := List.nodup_cons.1 nd
    simp only [mput] at hq
    split at hq
    · rename_i e
      rcases List.mem_cons.1 hq with h | h
      · exact .inl h
      · refine .inr ⟨List.mem_cons_of_mem _ h, fun e' => nd'.1 ?_⟩
        show x.1 ∈ _
        rw [show x.1 = q.1 from e.symm.trans e'.symm]
        exact List.mem_map.2 ⟨q, h, rfl⟩
    · rename_i e
      rcases List.mem_cons.1 hq with h | h
      · exact .inr ⟨by rw [h]; exact List.mem_cons_self .., by rw [h]; exact fun e' => e e'.symm⟩
      · rcases ih nd'.2 q h with h | h
        · exact .inl h
        · exact .inr ⟨List.mem_cons_of_mem _ h.1, h.2⟩
theorem mdel_in {α : Type} {l : List (Int × α)} {k : Int} (nd : (l.map (·.1)).Nodup) : ∀ q ∈ mdel l k, q ∈ l ∧ q.1 ≠ k := by
  induction l with
  | nil => intro q hq; cases hq
  | cons x r ih =>
    intro q hq
    have nd' := List.nodup_cons.1 nd
    simp only [mdel] at hq
    split at hq
    · rename_i e
      refine ⟨List.mem_cons_of_mem _ hq, fun e' => nd'.1 ?_⟩
      show x.1 ∈ _
      rw [show x.1 = q.1 from e.symm.trans e'.symm]
      exact List.mem_map.2 ⟨q, hq, rfl⟩
    · rename_i e
      rcases List.mem_cons.1 hq with h | h
      · exact ⟨by rw [h]; exact List.mem_cons_self .., by rw [h]; exact fun e' => e e'.symm⟩
      · exact ⟨List.mem_cons_of_mem _ (ih nd'.2 q h).1, (ih nd'.2 q h).2⟩
/-- Another one of the same sign. -/
theorem pw_set {α β : Type} {R : α → β → Prop} {k : Int} {b b' : β} (hR : ∀ a, R a b → R a b') : ∀ {l : List (Int × α)} {s : List (Int × β)}, mget s k = some b → Pw R l s → Pw R l (mput s k b')
  | [], [], h, _ => by cases h
  | p :: l, q :: s, h, ⟨h1, h2, h3⟩ => by
    simp only [mget] at h
    simp only [mput]
    split at h
    · rename_i e
      rw [if_pos e]
      have := Option.some.inj h
      exact ⟨h1.trans e.symm, hR _ (this ▸ h2), h3⟩
    · rename_i e
      rw [if_neg e]
      exact ⟨h1, h2, pw_set hR h h3⟩
  | [], _ :: _, _, h => h.elim
  | _ :: _, [], _, h => h.elim
theorem mput_len {α : Type} {l : List (Int × α)} {k : Int} {v b : α} (h : mget l k = some b) : (mput l k v).map (·.1) = l.map (·.1) := by
  induction l with
  | nil => cases h
  | cons x r ih =>
    simp only [mget] at h
    simp only [mput]
    split at h
    · rename_i e; rw [if_pos e]; simp [e]
    · rename_i e; rw [if_neg e]; simp [ih h]
/-- One that waits is another one now. -/
theorem Gu.upd (h : Gu m ow g ob rb r pv sv ov S) {n : Int} {p p' : Pg} (hn : mget S.opn n = some p) (hb : p'.b = p.b) (z : Pz m m') (a : ∀ j, j < m.next → ow' j = ow j) (f : ∀ j, j < m.next → 1 ≤ ow j → ow j ≤ 13 → ow j ≠ 2 + n.toNat → ow j ≠ 8 + n.toNat → m'.get j = m.get j) (hp : Pe m' ow' n p') : Gu m' ow' g ob rb r pv sv ov { S with opn := mput S.opn n p' } := by
  have zn := z.1
  have f1 : ∀ j, j < m.next → ow j = 1 → m'.get j = m.get j := fun j hj e => f j hj (by omega) (by omega) (by omega) (by omega)
  have mo' := h.mo.keep (f1 ob h.lo h.to)
  obtain ⟨l, q1, q2⟩ := mo'
  refine ⟨(f1 g h.lg h.tg).trans h.gg, h.fp.pz z, h.fs.pz z, ⟨l, q1, pw_set (fun x hx => by rw [PgR, hb]; exact hx) hn q2⟩, (h.mr.keep (f1 rb h.lr h.tr)).mono (AnsR.pz z), h.oo.keepN zn (fun hv hl => f1 r hl (h.tv hv)), Nat.lt_of_lt_of_le h.lg zn, Nat.lt_of_lt_of_le h.lo zn, Nat.lt_of_lt_of_le h.lr zn, h.ne, h.rg, h.ro, h.rr, (a g h.lg).trans h.tg, (a ob h.lo).trans h.to, (a rb h.lr).trans h.tr, fun hv => (a r (oi_lt h.oo hv)).trans (h.tv hv), fun q hq => ?_, ?_⟩
  · rcases mput_in h.nd q hq with e | ⟨e1, e2⟩
    · rw [e]; exact hp
    · have q1 := (h.pe q e1).n6
      have q2 := hp.n6
      exact (h.pe q e1).keep z a fun j hj e => f j hj (by omega) (by omega) (by omega) (by omega)
  · show ((mput S.opn n p').map (·.1)).Nodup
    rw [mput_len hn]; exact h.nd
end
end Go.Proofs.Ytimjcfaciiimmaa

set_option maxRecDepth 100000
set_option maxHeartbeats 4000000
namespace Go.Proofs.Ytimjcfaciiimmaa
open Go Go.AM Go.AM.Crc Go.AM.Wire
theorem fxC22g : type_of% (And.intro (And.intro (And.intro (And.intro (And.intro (And.intro (And.intro @Try.underlying3 @Try.underlying4) (And.intro @Try.underlying5 @Try.underlying9)) (And.intro (And.intro @Try.underlying22 @Try.underlying23) (And.intro @Try.underlying25 (And.intro @Try.underlying26 @Try.underlying30)))) (And.intro (And.intro (And.intro @Try.underlying32 @Try.underlying34) (And.intro @Try.underlying35 @Try.underlying39)) (And.intro (And.intro @Try.underlying40 @Try.underlying45) (And.intro @Try.underlying56 (And.intro @Try.underlying62 @Try.underlying66))))) (And.intro (And.intro (And.intro (And.intro @Try.underlying72 @Try.underlying75) (And.intro @Try.underlying77 @Try.underlying83)) (And.intro (And.intro @Try.underlying85 @Try.underlying92) (And.intro @Try.underlying93 (And.intro @Try.underlying94 @Try.underlying98)))) (And.intro (And.intro (And.intro @ts3 @ts4) (And.intro @ts5 (And.intro @ts9 @ts22))) (And.intro (And.intro @ts23 @ts25) (And.intro @ts26 (And.intro @ts30 @ts32)))))) (And.intro (And.intro (And.intro (And.intro (And.intro @ts34 @ts35) (And.intro @ts39 @ts40)) (And.intro (And.intro @ts45 @ts56) (And.intro @ts62 (And.intro @ts66 @ts72)))) (And.intro (And.intro (And.intro @ts75 @ts77) (And.intro @ts83 @ts85)) (And.intro (And.intro @ts92 @ts93) (And.intro @ts94 (And.intro @ts98 @tz3))))) (And.intro (And.intro (And.intro (And.intro @tz4 @tz5) (And.intro @tz9 @tz22)) (And.intro (And.intro @tz23 @tz25) (And.intro @tz26 (And.intro @tz30 @tz32)))) (And.intro (And.intro (And.intro @tz34 @tz35) (And.intro @tz39 (And.intro @tz40 @tz45))) (And.intro (And.intro @tz56 @tz62) (And.intro @tz66 (And.intro @tz72 @tz75))))))) (And.intro (And.intro (And.intro (And.intro (And.intro (And.intro @tz77 @tz83) (And.intro @tz85 @tz92)) (And.intro (And.intro @tz93 @tz94) (And.intro @tz98 (And.intro @tb3 @tb4)))) (And.intro (And.intro (And.intro @tb5 @tb9) (And.intro @tb22 @tb23)) (And.intro (And.intro @tb25 @tb26) (And.intro @tb30 (And.intro @tb32 @tb34))))) (And.intro (And.intro (And.intro (And.intro @tb35 @tb39) (And.intro @tb40 @tb45)) (And.intro (And.intro @tb56 @tb62) (And.intro @tb66 (And.intro @tb72 @tb75)))) (And.intro (And.intro (And.intro @tb77 @tb83) (And.intro @tb85 (And.intro @tb92 @tb93))) (And.intro (And.intro @tb94 @tb98) (And.intro @fr7 (And.intro @fr8 @fr9)))))) (And.intro (And.intro (And.intro (And.intro (And.intro @fr10 @fr11) (And.intro @fr12 @fr13)) (And.intro (And.intro @fr14 @fr23) (And.intro @fr24 (And.intro @fr25 @fr26)))) (And.intro (And.intro (And.intro @bz39 @bz32) (And.intro @bz92 @al39)) (And.intro (And.intro @al32 @al92) (And.intro @al62 (And.intro @bz85 @fa32_0))))) (And.intro (And.intro (And.intro (And.intro @fa32_5 @fa39_0) (And.intro @fa39_1 @fa39_2)) (And.intro (And.intro @fa62_0 @fa62_1) (And.intro @fa62_2 (And.intro @fa85_0 @fa85_1)))) (And.intro (And.intro (And.intro @fa85_2 @fa85_3) (And.intro @fa85_4 (And.intro @fa85_5 @fa85_6))) (And.intro (And.intro @fa92_1 @fa92_4) (And.intro @fa92_5 (And.intro @fa98_0 @fa98_2)))))))) := (And.intro (And.intro (And.intro (And.intro (And.intro (And.intro (And.intro @Try.underlying3 @Try.underlying4) (And.intro @Try.underlying5 @Try.underlying9)) (And.intro (And.intro @Try.underlying22 @Try.underlying23) (And.intro @Try.underlying25 (And.intro @Try.underlying26 @Try.underlying30)))) (And.intro (And.intro (And.intro @Try.underlying32 @Try.underlying34) (And.intro @Try.underlying35 @Try.underlying39)) (And.intro (And.intro @Try.underlying40 @Try.underlying45) (And.intro @Try.underlying56 (And.intro @Try.underlying62 @Try.underlying66))))) (And.intro (And.intro (And.intro (And.intro @Try.underlying72 @Try.underlying75) (And.intro @Try.underlying77 @Try.underlying83)) (And.intro (And.intro @Try.underlying85 @Try.underlying92) (And.intro @Try.underlying93 (And.intro @Try.underlying94 @Try.underlying98)))) (And.intro (And.intro (And.intro @ts3 @ts4) (And.intro @ts5 (And.intro @ts9 @ts22))) (And.intro (And.intro @ts23 @ts25) (And.intro @ts26 (And.intro @ts30 @ts32)))))) (And.intro (And.intro (And.intro (And.intro (And.intro @ts34 @ts35) (And.intro @ts39 @ts40)) (And.intro (And.intro @ts45 @ts56) (And.intro @ts62 (And.intro @ts66 @ts72)))) (And.intro (And.intro (And.intro @ts75 @ts77) (And.intro @ts83 @ts85)) (And.intro (And.intro @ts92 @ts93) (And.intro @ts94 (And.intro @ts98 @tz3))))) (And.intro (And.intro (And.intro (And.intro @tz4 @tz5) (And.intro @tz9 @tz22)) (And.intro (And.intro @tz23 @tz25) (And.intro @tz26 (And.intro @tz30 @tz32)))) (And.intro (And.intro (And.intro @tz34 @tz35) (And.intro @tz39 (And.intro @tz40 @tz45))) (And.intro (And.intro @tz56 @tz62) (And.intro @tz66 (And.intro @tz72 @tz75))))))) (And.intro (And.intro (And.intro (And.intro (And.intro (And.intro @tz77 @tz83) (And.intro @tz85 @tz92)) (And.intro (And.intro @tz93 @tz94) (And.intro @tz98 (And.intro @tb3 @tb4)))) (And.intro (And.intro (And.intro @tb5 @tb9) (And.intro @tb22 @tb23)) (And.intro (And.intro @tb25 @tb26) (And.intro @tb30 (And.intro @tb32 @tb34))))) (And.intro (And.intro (And.intro (And.intro @tb35 @tb39) (And.intro @tb40 @tb45)) (And.intro (And.intro @tb56 @tb62) (And.intro @tb66 (And.intro @tb72 @tb75)))) (And.intro (And.intro (And.intro @tb77 @tb83) (And.intro @tb85 (And.intro @tb92 @tb93))) (And.intro (And.intro @tb94 @tb98) (And.intro @fr7 (And.intro @fr8 @fr9)))))) (And.intro (And.intro (And.intro (And.intro (And.intro @fr10 @fr11) (And.intro @fr12 @fr13)) (And.intro (And.intro @fr14 @fr23) (And.intro @fr24 (And.intro @fr25 @fr26)))) (And.intro (And.intro (And.intro @bz39 @bz32) (And.intro @bz92 @al39)) (And.intro (And.intro @al32 @al92) (And.intro @al62 (And.intro @bz85 @fa32_0))))) (And.intro (And.intro (And.intro (And.intro @fa32_5 @fa39_0) (And.intro @fa39_1 @fa39_2)) (And.intro (And.intro @fa62_0 @fa62_1) (And.intro @fa62_2 (And.intro @fa85_0 @fa85_1)))) (And.intro (And.intro (And.intro @fa85_2 @fa85_3) (And.intro @fa85_4 (And.intro @fa85_5 @fa85_6))) (And.intro (And.intro @fa92_1 @fa92_4) (And.intro @fa92_5 (And.intro @fa98_0 @fa98_2))))))))
theorem gend_is {m : Mem} {ow : Nat → Nat} {g ob rb r : Nat} {pv sv ov : Value} {S : Sg} {n : Int} {a : Ans} {v : Value} (H : Gu m ow g ob rb r pv sv ov S) (fv : FRow m v 1 a.s.length (byteCells a.s)) {K : Value → Mem → Prop} (hK : ∀ m', Gu m' ow g ob rb r pv sv ov { S with opn := mdel S.opn n, res := mput S.res n a } → Pz m m' → (∀ j, j < m.next → ow j ≠ 1 → m'.get j = m.get j) → K (.tuple #[]) m') : Ret Try.prog 26 [.pointer (some ⟨g, 0, none⟩), .int .u16 n, ansV a.e a.q v] m K := by
  obtain ⟨va, vq, rfl⟩ := fv.is
  refine ret_wp [] Try.func26 rfl (by decide) (by kernel_rfl) ?_
  have x1 := Ext.new m (.cells [.int .i64 a.e, .int .i64 a.q, .slice va a.s.length vq] 39 true)
  have H1 := H.ext x1
  have g1 := new_get m (.cells [.int .i64 a.e, .int .i64 a.q, .slice va a.s.length vq] 39 true)
  have n1 : (m.new (.cells [.int .i64 a.e, .int .i64 a.q, .slice va a.s.length vq] 39 true)).next = m.next + 1 := rfl
  have gg1 := H1.gg
  have f1 := fv.pz x1.pz
  obtain ⟨m1, hm1⟩ : ∃ m1, m1 = m.new (.cells [.int .i64 a.e, .int .i64 a.q, .slice va a.s.length vq] 39 true) := ⟨_, rfl⟩
  rw [← hm1] at x1 H1 g1 n1 gg1 f1
  have lg := H.lg
  have lo := H.lo
  have lr := H.lr
  obtain ⟨es0, hob, _⟩ := id H1.mo
  obtain ⟨es1, hrb, _⟩ := id H1.mr
  have hgo : g ≠ ob := mapne gg1 hob
  have hgr : g ≠ rb := mapne gg1 hrb
  have lmo : opLoad Try.prog 83 (.pointer (some ⟨g, 9, none⟩)) m1 = some (.map (some ob)) := load_cell gg1 (by simp only [aggOf, Try.underlying83]) rfl
  obtain ⟨es, w1, w2⟩ := H1.mo.delete (P := Try.prog) (u := 22) keyU_ok Try.underlying83 n
  obtain ⟨m2, hm2⟩ : ∃ m2, m2 = m1.set ob (.map es) := ⟨_, rfl⟩
  have k2 : ∀ j, j ≠ ob → m2.get j = m1.get j := fun j hj => by rw [hm2]; exact set_get_ne _ hj
  have n2 : m2.next = m1.next := by rw [hm2]; rfl
  have z2 : Pz m1 m2 := by rw [hm2]; exact Pz.mset hob _
  rw [← hm2] at w1 w2
  clear hm2
  have gg2 := (k2 g hgo).trans gg1
  have g12 := (k2 m.next (by omega)).trans g1
  have lmr : opLoad Try.prog 72 (.pointer (some ⟨g, 10, none⟩)) m2 = some (.map (some rb)) := load_cell gg2 (by simp only [aggOf, Try.underlying72]) rfl
  have ld2 := ld37 g12
  have mr2 := (H1.mr.keep (k2 rb (fun h => H.ne h.symm))).mono (AnsR.pz z2)
  obtain ⟨es2, w3, w4⟩ := mr2.update (P := Try.prog) (v := ansV a.e a.q (.slice va a.s.length vq)) keyU_ok Try.underlying72 n (a := a) ⟨_, rfl, f1.pz z2⟩
  have hrb2 := (k2 rb (fun h => H.ne h.symm)).trans hrb
  obtain ⟨m3, hm3⟩ : ∃ m3, m3 = m2.set rb (.map es2) := ⟨_, rfl⟩
  have k3 : ∀ j, j ≠ rb → m3.get j = m2.get j := fun j hj => by rw [hm3]; exact set_get_ne _ hj
  have n3 : m3.next = m2.next := by rw [hm3]; rfl
  have z3 : Pz m2 m3 := by rw [hm3]; exact Pz.mset hrb2 _
  rw [← hm3] at w3 w4
  clear hm3
  simp only [Nat.reduceAdd, reduceIte, Nat.reduceEqDiff, reduceCtorEq, opLen, Int.reduceLT, Int.reduceEq, opConvert, opIndexAddr, Nat.reduceLT, new_next, set_get_if, set_next, decide_true, decide_false, beq_tt, beq_tf, beq_ft, beq_ff, undef, Nat.left_eq_add, Nat.add_eq_left, List.drop_zero, List.drop_succ_cons, List.take_succ_cons, List.take_zero, List.drop_nil, List.length_append, Nat.reduceLeDiff, Nat.add_zero, Nat.add_assoc, Nat.add_right_cancel_iff, List.cons_append, List.nil_append, Array.toList, Option.isNone_none, Option.isNone_some, ne_eq, not_true_eq_false, not_false_eq_true, bin_geq26, bin_mapn, bin_pnn, bin_pne, veq_map, bld66, bld98, bld56, bld62, one_u16, one_letter, no_ints, no_bytes, wk4, wk0, fxC22g, ← hm1, lmo, w1, lmr, ld2, w3]
  have z13 := z2.trans z3
  have fr : ∀ j, j ≠ ob → j ≠ rb → m3.get j = m1.get j := fun j h1 h2 => by rw [k3 j h2, k2 j h1]
  have ne1 : ∀ j, ow j ≠ 1 → j ≠ ob ∧ j ≠ rb := fun j hj => ⟨fun e => hj (e ▸ H.to), fun e => hj (e ▸ H.tr)⟩
  refine hK m3 ⟨(fr g hgo hgr).trans gg1, H1.fp.pz z13, H1.fs.pz z13, w2.keep (k3 ob H.ne), w4.mono (AnsR.pz z3), H1.oo.keep (by omega) (fun _ => fr r H.ro H.rr), by omega, by omega, by omega, H.ne, H.rg, H.ro, H.rr, H.tg, H.to, H.tr, H.tv, fun p hp => ?_, mdel_nodup H.nd⟩ (x1.pz.trans z13) (fun j hj h1 => ?_)
  · exact (H1.pe p (mdel_in H.nd p hp).1).keep z13 (fun _ _ => rfl) fun j hj e => fr j (ne1 j (by omega)).1 (ne1 j (by omega)).2
  · rw [fr j (ne1 j h1).1 (ne1 j h1).2, x1.2 j hj]
/-- What a table comes to is short. -/
def Cok (k : Nat) (C : Tc) : Prop := C.nodes.length ≤ k ∧ C.mem.length ≤ 16 ∧ ∀ a ∈ C.ans, a.s.length ≤ 50
theorem res_short {k : Nat} {C : Tc} (h : Cok k C) : (resC C).1.s.length ≤ 50 := by
  unfold resC
  split
  · exact Nat.zero_le _
  · split
    · rename_i a ha
      exact h.2.2 a (List.mem_of_find?_eq_some ha)
    · split <;> exact Nat.zero_le _
theorem put_short {k : Nat} {C : Tc} (h : Cok k C) {n vn : Int} {l : List Int} {a : Ans} (hl : l.length ≤ 16) (ha : a.s.length ≤ 50) : Cok (k + 1) (putC C n vn l a) := by
  refine ⟨?_, hl, fun b hb => ?_⟩
  · show (C.nodes ++ [n]).length ≤ k + 1
    rw [List.length_append]
    exact Nat.add_le_add h.1 (Nat.le_refl _)
  · rcases List.mem_append.1 hb with hb | hb
    · exact h.2.2 b hb
    · rw [List.mem_singleton.1 hb]; exact ha
end Go.Proofs.Ytimjcfaciiimmaa
