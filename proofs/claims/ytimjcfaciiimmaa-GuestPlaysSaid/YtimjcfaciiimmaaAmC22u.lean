/- GuestPlays: the law's own maps and tables. -/
import Derived.Test.YtimjcfaciiimmaaAmC22h
import Derived.Test.YtimjcfaciiimmaaAmC22n
import Derived.Test.YtimjcfaciiimmaaAmC22l
import Derived.Test.YtimjcfaciiimmaaAmC22m
import Derived.Test.YtimjcfaciiimmaaAmBun
set_option linter.unusedSimpArgs false
set_option linter.unusedVariables false
set_option maxRecDepth 100000
set_option maxHeartbeats 4000000
namespace Go.Proofs.Ytimjcfaciiimmaa
open Go Go.AM Go.AM.Crc Go.AM.Wire
def LfR (x : Value) (p : Pg) : Prop := x = .int .i64 p.left
def TpR (x : Value) (i : Nat) : Prop := x = .pointer (some ⟨i, 0, none⟩)
structure La (m : Mem) (ow : Nat → Nat) (lb tm rb r : Nat) (ov : Value) (S : Sg) (tabs : List (Int × Nat)) : Prop where
  ml : MapIs m lb keyU LfR S.opn
  mt : MapIs m tm keyU TpR tabs
  mr : MapIs m rb keyU (AnsR m) S.res
  oo : OwnI r 22 1 m ov S.order.length (nums S.order)
  ll : lb < m.next
  lt : tm < m.next
  lr : rb < m.next
  tl : ow lb = 14
  tt : ow tm = 15
  tr : ow rb = 16
  tv : ov ≠ .slice none 0 0 → ow r = 17
  pe : ∀ q ∈ S.opn, (0 ≤ q.1 ∧ q.1 < 6) ∧ Tb m ow (20 + q.1.toNat) q.2.tb q.2.C ∧ mget tabs q.1 = some q.2.tb
  nd : (S.opn.map (·.1)).Nodup
section
variable {m m' : Mem} {ow ow' : Nat → Nat} {lb tm rb r : Nat} {ov : Value} {S : Sg} {tabs : List (Int × Nat)}
theorem La.keep (h : La m ow lb tm rb r ov S tabs) (z : Pz m m') (a : ∀ j, j < m.next → ow' j = ow j) (f : ∀ j, j < m.next → 14 ≤ ow j → m'.get j = m.get j) : La m' ow' lb tm rb r ov S tabs := by
  have zn := z.1
  exact ⟨h.ml.keep (f lb h.ll (by have := h.tl; omega)), h.mt.keep (f tm h.lt (by have := h.tt; omega)), (h.mr.keep (f rb h.lr (by have := h.tr; omega))).mono (AnsR.pz z), h.oo.keepN zn (fun hv hl => f r hl (by have := h.tv hv; omega)), Nat.lt_of_lt_of_le h.ll zn, Nat.lt_of_lt_of_le h.lt zn, Nat.lt_of_lt_of_le h.lr zn, (a lb h.ll).trans h.tl, (a tm h.lt).trans h.tt, (a rb h.lr).trans h.tr, fun hv => (a r (oi_lt h.oo hv)).trans (h.tv hv), fun q hq => ⟨(h.pe q hq).1, (h.pe q hq).2.1.keep z a fun j hj e => f j hj (by omega), (h.pe q hq).2.2⟩, h.nd⟩
theorem La.ext (h : La m ow lb tm rb r ov S tabs) (x : Ext m m') : La m' ow lb tm rb r ov S tabs := h.keep x.pz (fun _ _ => rfl) fun j hj _ => x.2 j hj
theorem La.left (h : La m ow lb tm rb r ov S tabs) (n : Int) : opLookup Try.prog 70 (.map (some lb)) (.int .u16 n) false m = some (.int .i64 (match mget S.opn n with | some p => p.left | none => 0)) := by
  cases hg : mget S.opn n with
  | none => exact h.ml.absent (P := Try.prog) keyU_ok Try.underlying70 tz3 rfl hg false
  | some p =>
    obtain ⟨v, hv, e⟩ := h.ml.lookup (P := Try.prog) keyU_ok Try.underlying70 hg false
    rw [hv] at e
    exact e
theorem La.table (h : La m ow lb tm rb r ov S tabs) {n : Int} {p : Pg} (hn : mget S.opn n = some p) : opLookup Try.prog 71 (.map (some tm)) (.int .u16 n) false m = some (.pointer (some ⟨p.tb, 0, none⟩)) := by
  obtain ⟨v, hv, e⟩ := h.mt.lookup (P := Try.prog) keyU_ok Try.underlying71 (h.pe (n, p) (mget_mem hn)).2.2 false
  rw [hv] at e
  exact e
/-- What stands in a map of results. -/
theorem La.result (h : La m ow lb tm rb r ov S tabs) (n : Int) : ∃ w, FRow m w 1 ((mget S.res n).getD ⟨0, 0, []⟩).s.length (byteCells ((mget S.res n).getD ⟨0, 0, []⟩).s) ∧ opLookup Try.prog 72 (.map (some rb)) (.int .u16 n) true m = some (.tuple #[ansV ((mget S.res n).getD ⟨0, 0, []⟩).e ((mget S.res n).getD ⟨0, 0, []⟩).q w, .bool (mget S.res n).isSome]) := by
  cases hg : mget S.res n with
  | none => exact ⟨.slice none 0 0, FRow.nil, h.mr.absent (P := Try.prog) keyU_ok Try.underlying72 tz39 rfl hg true⟩
  | some a =>
    obtain ⟨x, ⟨w, hx, hf⟩, e⟩ := h.mr.lookup (P := Try.prog) keyU_ok Try.underlying72 hg true
    exact ⟨w, hf, by rw [e, hx]; rfl⟩
/-- A table is another one now. -/
theorem La.upd (h : La m ow lb tm rb r ov S tabs) {n : Int} {p p' : Pg} (hn : mget S.opn n = some p) (h1 : p'.left = p.left) (h2 : p'.tb = p.tb) (z : Pz m m') (a : ∀ j, j < m.next → ow' j = ow j) (f : ∀ j, j < m.next → 14 ≤ ow j → ow j ≠ 20 + n.toNat → m'.get j = m.get j) (hT : Tb m' ow' (20 + n.toNat) p.tb p'.C) : La m' ow' lb tm rb r ov { S with opn := mput S.opn n p' } tabs := by
  have zn := z.1
  have hp := h.pe (n, p) (mget_mem hn)
  have ml' := h.ml.keep (f lb h.ll (by have := h.tl; omega) (by have := h.tl; omega))
  obtain ⟨l, q1, q2⟩ := ml'
  refine ⟨⟨l, q1, pw_set (fun x hx => by rw [LfR, h1]; exact hx) hn q2⟩, h.mt.keep (f tm h.lt (by have := h.tt; omega) (by have := h.tt; omega)), (h.mr.keep (f rb h.lr (by have := h.tr; omega) (by have := h.tr; omega))).mono (AnsR.pz z), h.oo.keepN zn (fun hv hl => f r hl (by have := h.tv hv; omega) (by have := h.tv hv; omega)), Nat.lt_of_lt_of_le h.ll zn, Nat.lt_of_lt_of_le h.lt zn, Nat.lt_of_lt_of_le h.lr zn, (a lb h.ll).trans h.tl, (a tm h.lt).trans h.tt, (a rb h.lr).trans h.tr, fun hv => (a r (oi_lt h.oo hv)).trans (h.tv hv), fun q hq => ?_, ?_⟩
  · rcases mput_in h.nd q hq with e | ⟨e1, e2⟩
    · rw [e]
      exact ⟨hp.1, by show Tb m' ow' (20 + n.toNat) p'.tb p'.C; rw [h2]; exact hT, by show mget tabs n = some p'.tb; rw [h2]; exact hp.2.2⟩
    · have q1 := (h.pe q e1).1
      have q2 := hp.1
      exact ⟨q1, (h.pe q e1).2.1.keep z a fun j hj e => f j hj (by omega) (by have : 0 ≤ n ∧ n < 6 := q2; omega), (h.pe q e1).2.2⟩
  · show ((mput S.opn n p').map (·.1)).Nodup
    rw [mput_len hn]; exact h.nd
/-- Time goes by for one. -/
theorem La.dec (h : La m ow lb tm rb r ov S tabs) {n x : Int} {p : Pg} (hn : mget S.opn n = some p) : ∃ m', opMapUpdate Try.prog 70 (.map (some lb)) (.int .u16 n) (.int .i64 x) m = some m' ∧ La m' ow lb tm rb r ov { S with opn := mput S.opn n { p with left := x } } tabs ∧ Pz m m' ∧ ∀ j, ow j ≠ 14 → m'.get j = m.get j := by
  obtain ⟨es0, hob, _⟩ := id h.ml
  obtain ⟨es, w1, w2⟩ := h.ml.update (P := Try.prog) (v := .int .i64 x) keyU_ok Try.underlying70 n (a := { p with left := x }) rfl
  have k : ∀ j, j ≠ lb → (m.set lb (.map es)).get j = m.get j := fun j hj => set_get_ne _ hj
  have nt : ∀ j, ow j ≠ 14 → (m.set lb (.map es)).get j = m.get j := fun j hj => k j (fun e => hj (e ▸ h.tl))
  have z : Pz m (m.set lb (.map es)) := Pz.mset hob _
  have hp := h.pe (n, p) (mget_mem hn)
  refine ⟨_, w1, ⟨w2, h.mt.keep (nt tm (by have := h.tt; omega)), (h.mr.keep (nt rb (by have := h.tr; omega))).mono (AnsR.pz z), h.oo.keepN (Nat.le_refl _) (fun hv _ => nt r (by have := h.tv hv; omega)), h.ll, h.lt, h.lr, h.tl, h.tt, h.tr, h.tv, fun q hq => ?_, ?_⟩, z, nt⟩
  · rcases mput_in h.nd q hq with e | ⟨e1, e2⟩
    · rw [e]
      exact ⟨hp.1, hp.2.1.keep z (fun _ _ => rfl) fun j _ e => nt j (by omega), hp.2.2⟩
    · exact ⟨(h.pe q e1).1, (h.pe q e1).2.1.keep z (fun _ _ => rfl) fun j _ e => nt j (by omega), (h.pe q e1).2.2⟩
  · show ((mput S.opn n _).map (·.1)).Nodup
    rw [mput_len hn]; exact h.nd
/-- A result is there. -/
theorem La.fin (h : La m ow lb tm rb r ov S tabs) {n : Int} {a : Ans} {v : Value} (fv : FRow m v 1 a.s.length (byteCells a.s)) : ∃ m1 m', opMapUpdate Try.prog 72 (.map (some rb)) (.int .u16 n) (ansV a.e a.q v) m = some m1 ∧ opDelete Try.prog [70, 22] [.map (some lb), .int .u16 n] m1 = some (.tuple #[], m') ∧ La m' ow lb tm rb r ov { S with opn := mdel S.opn n, res := mput S.res n a } tabs ∧ Pz m m' ∧ Pz m m1 ∧ (∀ j, ow j ≠ 14 → ow j ≠ 16 → m'.get j = m.get j) ∧ ∀ j, ow j ≠ 16 → m1.get j = m.get j := by
  obtain ⟨es0, hob, _⟩ := id h.ml
  obtain ⟨es1, hrb, _⟩ := id h.mr
  obtain ⟨es, w1, w2⟩ := h.mr.update (P := Try.prog) (v := ansV a.e a.q v) keyU_ok Try.underlying72 n (a := a) ⟨_, rfl, fv⟩
  have nt1 : ∀ j, ow j ≠ 16 → (m.set rb (.map es)).get j = m.get j := fun j hj => set_get_ne _ (fun e => hj (e ▸ h.tr))
  have z1 : Pz m (m.set rb (.map es)) := Pz.mset hrb _
  have ml1 := h.ml.keep (nt1 lb (by have := h.tl; omega))
  obtain ⟨es2, w3, w4⟩ := ml1.delete (P := Try.prog) (u := 22) keyU_ok Try.underlying70 n
  have nt2 : ∀ j, ow j ≠ 14 → ((m.set rb (.map es)).set lb (.map es2)).get j = (m.set rb (.map es)).get j := fun j hj => set_get_ne _ (fun e => hj (e ▸ h.tl))
  have z2 : Pz (m.set rb (.map es)) ((m.set rb (.map es)).set lb (.map es2)) := Pz.mset ((nt1 lb (by have := h.tl; omega)).trans hob) _
  have nt : ∀ j, ow j ≠ 14 → ow j ≠ 16 → ((m.set rb (.map es)).set lb (.map es2)).get j = m.get j := fun j h1 h2 => (nt2 j h1).trans (nt1 j h2)
  have z := z1.trans z2
  exact ⟨_, _, w1, w3, ⟨w4, h.mt.keep (nt tm (by have := h.tt; omega) (by have := h.tt; omega)), ((w2.keep (nt2 rb (by have := h.tr; omega))).mono (AnsR.pz z)), h.oo.keepN (Nat.le_refl _) (fun hv _ => nt r (by have := h.tv hv; omega) (by have := h.tv hv; omega)), h.ll, h.lt, h.lr, h.tl, h.tt, h.tr, h.tv, fun q hq => ⟨(h.pe q (mdel_in h.nd q hq).1).1, (h.pe q (mdel_in h.nd q hq).1).2.1.keep z (fun _ _ => rfl) fun j _ e => nt j (by omega) (by omega), (h.pe q (mdel_in h.nd q hq).1).2.2⟩, mdel_nodup h.nd⟩, z, z1, nt, nt1⟩
/-- A call waits. -/
theorem La.open {m1 : Mem} {n left : Int} {tb : Nat} {C : Tc} (h : La m ow lb tm rb r ov S tabs) (n6 : 0 ≤ n ∧ n < 6) (x1 : Ext m m1) (hT : TcAt m1 m.next tb C) : ∃ m2 m3, opMapUpdate Try.prog 70 (.map (some lb)) (.int .u16 n) (.int .i64 left) m1 = some m2 ∧ opMapUpdate Try.prog 71 (.map (some tm)) (.int .u16 n) (.pointer (some ⟨tb, 0, none⟩)) m2 = some m3 ∧ La m3 (tagr ow m m1 (20 + n.toNat)) lb tm rb r ov { S with opn := mput S.opn n ⟨0, tb, left, C, 0, []⟩ } (mput tabs n tb) ∧ Pz m m3 ∧ m3.next = m1.next ∧ ∀ j, j < m.next → ow j ≠ 14 → ow j ≠ 15 → m3.get j = m.get j := by
  obtain ⟨ow1, how1⟩ : ∃ w, w = tagr ow m m1 (20 + n.toNat) := ⟨_, rfl⟩
  have a1 : ∀ j, j < m.next → ow1 j = ow j := fun j hj => by rw [how1]; exact tagr_old ow _ hj
  have s1 : ∀ j, m.next ≤ j → j < m1.next → ow1 j = 20 + n.toNat := fun j h1 h2 => by rw [how1]; exact tagr_new ow _ h1 h2
  rw [← how1]
  have h' := h.keep (ow' := ow1) x1.pz a1 fun j hj _ => x1.2 j hj
  obtain ⟨es0, hob, _⟩ := id h'.ml
  obtain ⟨es1, htm, _⟩ := id h'.mt
  obtain ⟨es, w1, w2⟩ := h'.ml.update (P := Try.prog) (v := .int .i64 left) keyU_ok Try.underlying70 n (a := ⟨0, tb, left, C, 0, []⟩) rfl
  have nt1 : ∀ j, ow1 j ≠ 14 → (m1.set lb (.map es)).get j = m1.get j := fun j hj => set_get_ne _ (fun e => hj (e ▸ h'.tl))
  have z1 : Pz m1 (m1.set lb (.map es)) := Pz.mset hob _
  have mt1 := h'.mt.keep (nt1 tm (by have := h'.tt; omega))
  obtain ⟨es2, w3, w4⟩ := mt1.update (P := Try.prog) (v := .pointer (some ⟨tb, 0, none⟩)) keyU_ok Try.underlying71 n (a := tb) rfl
  have nt2 : ∀ j, ow1 j ≠ 15 → ((m1.set lb (.map es)).set tm (.map es2)).get j = (m1.set lb (.map es)).get j := fun j hj => set_get_ne _ (fun e => hj (e ▸ h'.tt))
  have z2 : Pz (m1.set lb (.map es)) ((m1.set lb (.map es)).set tm (.map es2)) := Pz.mset ((nt1 tm (by have := h'.tt; omega)).trans htm) _
  have nt : ∀ j, ow1 j ≠ 14 → ow1 j ≠ 15 → ((m1.set lb (.map es)).set tm (.map es2)).get j = m1.get j := fun j h1 h2 => (nt2 j h2).trans (nt1 j h1)
  have z := z1.trans z2
  have T1 : Tb m1 ow1 (20 + n.toNat) tb C := by
    obtain ⟨mv, nv, av, rn, ra, cs, T⟩ := hT
    exact ⟨mv, nv, av, rn, ra, cs, ⟨T.gi, T.fm, T.on, T.oa, T.rows, T.len, ⟨Nat.zero_le _, T.li.2⟩, Nat.zero_le _, Nat.zero_le _, T.ni, T.ai⟩, s1 tb T.li.1 T.li.2, fun hv => s1 _ T.ln (oi_lt T.on hv), fun hv => s1 _ T.la (oi_lt T.oa hv)⟩
  refine ⟨_, _, w1, w3, ⟨w2.keep (nt2 lb (by have := h'.tl; omega)), w4, (h'.mr.keep (nt rb (by have := h'.tr; omega) (by have := h'.tr; omega))).mono (AnsR.pz z), h'.oo.keepN (Nat.le_refl _) (fun hv _ => nt r (by have := h'.tv hv; omega) (by have := h'.tv hv; omega)), h'.ll, h'.lt, h'.lr, h'.tl, h'.tt, h'.tr, h'.tv, fun q hq => ?_, mput_nodup h.nd⟩, x1.pz.trans z, rfl, fun j hj h1 h2 => (nt j (by rw [a1 j hj]; exact h1) (by rw [a1 j hj]; exact h2)).trans (x1.2 j hj)⟩
  rcases mput_in h.nd q hq with e | ⟨e1, e2⟩
  · rw [e]
    exact ⟨n6, T1.keep z (fun _ _ => rfl) fun j _ e => nt j (by omega) (by omega), by show mget (mput tabs n tb) n = some tb; rw [mget_put, if_pos rfl]⟩
  · exact ⟨(h'.pe q e1).1, (h'.pe q e1).2.1.keep z (fun _ _ => rfl) fun j _ e => nt j (by omega) (by omega), by rw [mget_put, if_neg e2]; exact (h'.pe q e1).2.2⟩
/-- A number more. -/
theorem La.push (h : La m ow lb tm rb r ov S tabs) (n : Int) (hl : S.order.length < 1000) : ∃ a q m' r', opAppend Try.prog [45, 45] [ov, .slice (some ⟨m.next, 0, none⟩) 1 1] (m.new (.cells [.int .u16 n] 22 true)) = some (.slice a (S.order.length + 1) q, m') ∧ La m' (tagr ow m m' 17) lb tm rb r' (.slice a (S.order.length + 1) q) { S with order := S.order ++ [n] } tabs ∧ Pz m m' ∧ ∀ j, j < m.next → ow j ≠ 17 → m'.get j = m.get j := by
  have sn : ShowsR 1 (m.new (.cells [.int .u16 n] 22 true)) (.slice (some ⟨m.next, 0, none⟩) 1 1) 1 [.int .u16 n] := ⟨_, _, rfl, by simp [shown, new_get], rfl⟩
  obtain ⟨oa, oq, m', r', p, o, na, nb, f⟩ := (h.oo.ext (Ext.new m (.cells [.int .u16 n] 22 true))).push (P := Try.prog) (t := 45) (tx := 45) Try.underlying45 ⟨_, Try.underlying45⟩ ts22 (by decide) tz22 tb22 (by decide) rfl rfl sn (by omega)
  simp only [new_next] at na nb f
  have f' : ∀ j, j < m.next → ow j ≠ 17 → m'.get j = m.get j := fun j h1 h2 => by
    rw [f j (by omega) (fun e => Classical.byContradiction fun q => h2 (e ▸ h.tv q)), new_get_ne _ (by omega)]
  have z : Pz m m' := (Pz.new _ _).trans (st_append p).pz
  have a1 : ∀ j, j < m.next → tagr ow m m' 17 j = ow j := fun j hj => tagr_old ow _ hj
  refine ⟨oa, oq, m', r', p, ⟨h.ml.keep (f' lb h.ll (by have := h.tl; omega)), h.mt.keep (f' tm h.lt (by have := h.tt; omega)), (h.mr.keep (f' rb h.lr (by have := h.tr; omega))).mono (AnsR.pz z), ?_, Nat.lt_of_lt_of_le h.ll z.1, Nat.lt_of_lt_of_le h.lt z.1, Nat.lt_of_lt_of_le h.lr z.1, (a1 lb h.ll).trans h.tl, (a1 tm h.lt).trans h.tt, (a1 rb h.lr).trans h.tr, fun _ => tagr_new ow _ (by omega) (by omega), fun q hq => ⟨(h.pe q hq).1, (h.pe q hq).2.1.keep z a1 fun j hj e => f' j hj (by omega), (h.pe q hq).2.2⟩, h.nd⟩, z, f'⟩
  show OwnI r' 22 1 m' _ (S.order ++ [n]).length (nums (S.order ++ [n]))
  rw [List.length_append]
  have : nums (S.order ++ [n]) = nums S.order ++ [.int .u16 n] := List.map_append
  rw [this]
  exact o
end
end Go.Proofs.Ytimjcfaciiimmaa

set_option maxRecDepth 100000
set_option maxHeartbeats 4000000
namespace Go.Proofs.Ytimjcfaciiimmaa
open Go Go.AM Go.AM.Crc Go.AM.Wire
theorem fxC22y : type_of% (And.intro (And.intro (And.intro (And.intro (And.intro (And.intro (And.intro @Try.underlying3 @Try.underlying4) (And.intro @Try.underlying5 @Try.underlying9)) (And.intro (And.intro @Try.underlying22 @Try.underlying23) (And.intro @Try.underlying25 (And.intro @Try.underlying26 @Try.underlying30)))) (And.intro (And.intro (And.intro @Try.underlying32 @Try.underlying34) (And.intro @Try.underlying35 @Try.underlying39)) (And.intro (And.intro @Try.underlying40 @Try.underlying45) (And.intro @Try.underlying56 (And.intro @Try.underlying62 @Try.underlying66))))) (And.intro (And.intro (And.intro (And.intro @Try.underlying72 @Try.underlying75) (And.intro @Try.underlying77 @Try.underlying83)) (And.intro (And.intro @Try.underlying85 @Try.underlying92) (And.intro @Try.underlying93 (And.intro @Try.underlying94 @Try.underlying98)))) (And.intro (And.intro (And.intro @ts3 @ts4) (And.intro @ts5 (And.intro @ts9 @ts22))) (And.intro (And.intro @ts23 @ts25) (And.intro @ts26 (And.intro @ts30 @ts32)))))) (And.intro (And.intro (And.intro (And.intro (And.intro @ts34 @ts35) (And.intro @ts39 @ts40)) (And.intro (And.intro @ts45 @ts56) (And.intro @ts62 (And.intro @ts66 @ts72)))) (And.intro (And.intro (And.intro @ts75 @ts77) (And.intro @ts83 @ts85)) (And.intro (And.intro @ts92 @ts93) (And.intro @ts94 (And.intro @ts98 @tz3))))) (And.intro (And.intro (And.intro (And.intro @tz4 @tz5) (And.intro @tz9 @tz22)) (And.intro (And.intro @tz23 @tz25) (And.intro @tz26 (And.intro @tz30 @tz32)))) (And.intro (And.intro (And.intro @tz34 @tz35) (And.intro @tz39 (And.intro @tz40 @tz45))) (And.intro (And.intro @tz56 @tz62) (And.intro @tz66 (And.intro @tz72 @tz75))))))) (And.intro (And.intro (And.intro (And.intro (And.intro (And.intro @tz77 @tz83) (And.intro @tz85 @tz92)) (And.intro (And.intro @tz93 @tz94) (And.intro @tz98 (And.intro @tb3 @tb4)))) (And.intro (And.intro (And.intro @tb5 @tb9) (And.intro @tb22 @tb23)) (And.intro (And.intro @tb25 @tb26) (And.intro @tb30 (And.intro @tb32 @tb34))))) (And.intro (And.intro (And.intro (And.intro @tb35 @tb39) (And.intro @tb40 @tb45)) (And.intro (And.intro @tb56 @tb62) (And.intro @tb66 (And.intro @tb72 @tb75)))) (And.intro (And.intro (And.intro @tb77 @tb83) (And.intro @tb85 (And.intro @tb92 @tb93))) (And.intro (And.intro @tb94 @tb98) (And.intro @fr7 (And.intro @fr8 @fr9)))))) (And.intro (And.intro (And.intro (And.intro (And.intro @fr10 @fr11) (And.intro @fr12 @fr13)) (And.intro (And.intro @fr14 @fr23) (And.intro @fr24 (And.intro @fr25 @fr26)))) (And.intro (And.intro (And.intro @bz39 @bz32) (And.intro @bz92 @al39)) (And.intro (And.intro @al32 @al92) (And.intro @al62 (And.intro @bz85 @fa32_0))))) (And.intro (And.intro (And.intro (And.intro @fa32_5 @fa39_0) (And.intro @fa39_1 @fa39_2)) (And.intro (And.intro @fa62_0 @fa62_1) (And.intro @fa62_2 (And.intro @fa85_0 @fa85_1)))) (And.intro (And.intro (And.intro @fa85_2 @fa85_3) (And.intro @fa85_4 (And.intro @fa85_5 @fa85_6))) (And.intro (And.intro @fa92_1 @fa92_4) (And.intro @fa92_5 (And.intro @fa98_0 @fa98_2)))))))) := (And.intro (And.intro (And.intro (And.intro (And.intro (And.intro (And.intro @Try.underlying3 @Try.underlying4) (And.intro @Try.underlying5 @Try.underlying9)) (And.intro (And.intro @Try.underlying22 @Try.underlying23) (And.intro @Try.underlying25 (And.intro @Try.underlying26 @Try.underlying30)))) (And.intro (And.intro (And.intro @Try.underlying32 @Try.underlying34) (And.intro @Try.underlying35 @Try.underlying39)) (And.intro (And.intro @Try.underlying40 @Try.underlying45) (And.intro @Try.underlying56 (And.intro @Try.underlying62 @Try.underlying66))))) (And.intro (And.intro (And.intro (And.intro @Try.underlying72 @Try.underlying75) (And.intro @Try.underlying77 @Try.underlying83)) (And.intro (And.intro @Try.underlying85 @Try.underlying92) (And.intro @Try.underlying93 (And.intro @Try.underlying94 @Try.underlying98)))) (And.intro (And.intro (And.intro @ts3 @ts4) (And.intro @ts5 (And.intro @ts9 @ts22))) (And.intro (And.intro @ts23 @ts25) (And.intro @ts26 (And.intro @ts30 @ts32)))))) (And.intro (And.intro (And.intro (And.intro (And.intro @ts34 @ts35) (And.intro @ts39 @ts40)) (And.intro (And.intro @ts45 @ts56) (And.intro @ts62 (And.intro @ts66 @ts72)))) (And.intro (And.intro (And.intro @ts75 @ts77) (And.intro @ts83 @ts85)) (And.intro (And.intro @ts92 @ts93) (And.intro @ts94 (And.intro @ts98 @tz3))))) (And.intro (And.intro (And.intro (And.intro @tz4 @tz5) (And.intro @tz9 @tz22)) (And.intro (And.intro @tz23 @tz25) (And.intro @tz26 (And.intro @tz30 @tz32)))) (And.intro (And.intro (And.intro @tz34 @tz35) (And.intro @tz39 (And.intro @tz40 @tz45))) (And.intro (And.intro @tz56 @tz62) (And.intro @tz66 (And.intro @tz72 @tz75))))))) (And.intro (And.intro (And.intro (And.intro (And.intro (And.intro @tz77 @tz83) (And.intro @tz85 @tz92)) (And.intro (And.intro @tz93 @tz94) (And.intro @tz98 (And.intro @tb3 @tb4)))) (And.intro (And.intro (And.intro @tb5 @tb9) (And.intro @tb22 @tb23)) (And.intro (And.intro @tb25 @tb26) (And.intro @tb30 (And.intro @tb32 @tb34))))) (And.intro (And.intro (And.intro (And.intro @tb35 @tb39) (And.intro @tb40 @tb45)) (And.intro (And.intro @tb56 @tb62) (And.intro @tb66 (And.intro @tb72 @tb75)))) (And.intro (And.intro (And.intro @tb77 @tb83) (And.intro @tb85 (And.intro @tb92 @tb93))) (And.intro (And.intro @tb94 @tb98) (And.intro @fr7 (And.intro @fr8 @fr9)))))) (And.intro (And.intro (And.intro (And.intro (And.intro @fr10 @fr11) (And.intro @fr12 @fr13)) (And.intro (And.intro @fr14 @fr23) (And.intro @fr24 (And.intro @fr25 @fr26)))) (And.intro (And.intro (And.intro @bz39 @bz32) (And.intro @bz92 @al39)) (And.intro (And.intro @al32 @al92) (And.intro @al62 (And.intro @bz85 @fa32_0))))) (And.intro (And.intro (And.intro (And.intro @fa32_5 @fa39_0) (And.intro @fa39_1 @fa39_2)) (And.intro (And.intro @fa62_0 @fa62_1) (And.intro @fa62_2 (And.intro @fa85_0 @fa85_1)))) (And.intro (And.intro (And.intro @fa85_2 @fa85_3) (And.intro @fa85_4 (And.intro @fa85_5 @fa85_6))) (And.intro (And.intro @fa92_1 @fa92_4) (And.intro @fa92_5 (And.intro @fa98_0 @fa98_2))))))))
theorem gnew_is {m : Mem} {t : Int} {pv sv : Value} {l : List Int} (el : l = gsv) (fp : FRow m pv 12 3 (procsC t 3)) (fs : FRow m sv 1 l.length (ints l)) {K : Value → Mem → Prop} (hK : ∀ m' ow g ob rb r pv sv ov, Gu m' ow g ob rb r pv sv ov ⟨t, [], [], []⟩ → Pz m m' → K (.pointer (some ⟨g, 0, none⟩)) m') : Ret Try.prog 8 [.int .i64 9, .int .u16 2, faceV pv, sv] m K := by
  have hl : l.length < 2 ^ 40 := by rw [el]; decide
  refine Ret.pz (Ret.join ?_)
  obtain ⟨pa, pq, rfl⟩ := fp.is
  obtain ⟨sa, sq, rfl⟩ := fs.is
  refine ret_wp [(1, [2])] Try.func8 rfl (by decide) (by kernel_rfl) ?_
  have x0 := Ext.new m (.cells [.string ⟨#[102, 97, 99, 101]⟩, .int .i64 0, .int .i64 0, .slice none 0 0, .slice none 0 0, .slice pa 3 pq] 32 true)
  have g0 := new_get m (.cells [.string ⟨#[102, 97, 99, 101]⟩, .int .i64 0, .int .i64 0, .slice none 0 0, .slice none 0 0, .slice pa 3 pq] 32 true)
  have n0 : (m.new (.cells [.string ⟨#[102, 97, 99, 101]⟩, .int .i64 0, .int .i64 0, .slice none 0 0, .slice none 0 0, .slice pa 3 pq] 32 true)).next = m.next + 1 := rfl
  simp only [wk6, Nat.reduceBEq, wk1, wk3, forall_eq, Nat.reduceAdd, reduceIte, Nat.reduceEqDiff, reduceCtorEq, opLen, Int.reduceLT, Int.reduceEq, opConvert, opIndexAddr, opLoad, Nat.reduceLT, new_next, set_get_if, set_next, decide_true, decide_false, beq_tt, beq_tf, beq_ft, beq_ff, undef, Nat.left_eq_add, Nat.add_eq_left, List.drop_zero, List.drop_succ_cons, List.take_succ_cons, List.take_zero, List.drop_nil, List.length_append, Nat.reduceLeDiff, Nat.add_zero, Nat.add_assoc, Nat.add_right_cancel_iff, List.cons_append, List.nil_append, Array.toList, Option.isNone_none, Option.isNone_some, ne_eq, not_true_eq_false, not_false_eq_true, bin_geq26, bin_mapn, bin_pnn, bin_pne, veq_map, bld66, bld98, bld56, bld62, one_u16, one_letter, no_ints, no_bytes, wk4, wk0, fxC22y]
  generalize m.new (.cells [.string ⟨#[102, 97, 99, 101]⟩, .int .i64 0, .int .i64 0, .slice none 0 0, .slice none 0 0, .slice pa 3 pq] 32 true) = m0 at x0 g0 n0 ⊢
  obtain ⟨qa, qq, m1, r1, p1, o1, n1, n1', x1⟩ := ints_copy (fs.pz x0.pz) hl
  have g1 := (x1.2 m.next (by omega)).trans g0
  have nm : ¬ m.next = m0.next := by omega
  refine Loose.by (fun y => y = m.next) ?_
  have nm1 : ¬ m.next = m1.next := by omega
  have nm2 : ¬ m.next = m1.next + 1 := by omega
  have nm3 : ¬ m.next = m1.next + 2 := by omega
  simp only [wk6, Nat.reduceBEq, wk1, wk3, forall_eq, Nat.reduceAdd, reduceIte, Nat.reduceEqDiff, reduceCtorEq, opLen, Int.reduceLT, Int.reduceEq, opConvert, opIndexAddr, opLoad, Nat.reduceLT, undef, Nat.reduceLeDiff, Array.toList, bin_geq26, bin_mapn, bin_pnn, bin_pne, veq_map, bld66, bld98, bld56, bld62, one_u16, one_letter, no_ints, no_bytes, wk4, wk5, wk0, fxC22y, g0, nm, p1, g1, bld85, vqF, nm1, nm2, nm3]
  obtain ⟨m2, hm2⟩ : ∃ m2, m2 = ((m1.new (.map [])).new (.map [])).new (.cells (gCells ⟨9, 2, t, l, [], [], []⟩ (.slice pa 3 pq) (.slice qa l.length qq) m1.next (m1.next + 1) (.slice none 0 0)) 85 true) := ⟨_, rfl⟩
  have x2 : Ext m1 m2 := by rw [hm2]; exact new3_ext _ _ _ _
  have e1 : m2.get m1.next = some (.map []) := by rw [hm2]; exact new3_0 _ _ _ _
  have e2 : m2.get (m1.next + 1) = some (.map []) := by rw [hm2]; exact new3_1 _ _ _ _
  have e3 : m2.get (m1.next + 2) = some (.cells (gCells ⟨9, 2, t, l, [], [], []⟩ (.slice pa 3 pq) (.slice qa l.length qq) m1.next (m1.next + 1) (.slice none 0 0)) 85 true) := by rw [hm2]; exact new3_2 _ _ _ _
  have n2 : m2.next = m1.next + 3 := by rw [hm2]; rfl
  have e4 : ((m1.new (.map [])).new (.map [])).new (.cells [.int .i64 9, .int .u16 2, .string ⟨#[102, 97, 99, 101]⟩, .int .i64 0, .int .i64 0, .slice none 0 0, .slice none 0 0, .slice pa 3 pq, .slice qa l.length qq, .map (some m1.next), .map (some (m1.next + 1)), .slice none 0 0] 85 true) = m2 := hm2.symm
  rw [e4]
  clear e4 hm2
  obtain ⟨m3, z3, f3, n3, k3⟩ := (o1.ext x2).frz
  obtain ⟨ow, how⟩ : ∃ w : Nat → Nat, w = fun j => if j = m1.next + 2 ∨ j = m1.next ∨ j = m1.next + 1 then 1 else 0 := ⟨_, rfl⟩
  have t1 : ∀ j, j = m1.next + 2 ∨ j = m1.next ∨ j = m1.next + 1 → ow j = 1 := fun j h => by rw [how]; exact if_pos h
  refine ⟨m3, z3, fun zz => hK m3 ow (m1.next + 2) m1.next (m1.next + 1) (m1.next + 3) _ _ _ ⟨(k3 _ (by omega)).trans e3, fp.pz zz, (by subst el; exact f3), ⟨[], (k3 _ (by omega)).trans e1, trivial⟩, ⟨[], (k3 _ (by omega)).trans e2, trivial⟩, OwnI.nil, by omega, by omega, by omega, by omega, by omega, by omega, by omega, t1 _ (.inl rfl), t1 _ (.inr (.inl rfl)), t1 _ (.inr (.inr rfl)), fun h => absurd rfl h, (fun p hp => by cases hp), List.nodup_nil⟩ zz⟩
/-- Both sides alike. -/
def SyR (a b : Pg) : Prop := a.left = b.left ∧ a.C = b.C
structure Sy (S T : Sg) : Prop where
  o : Pw SyR S.opn T.opn
  r : S.res = T.res
  d : S.order = T.order
theorem Sy.get {S T : Sg} (h : Sy S T) (n : Int) : (mget S.opn n = none ∧ mget T.opn n = none) ∨ ∃ p q, mget S.opn n = some p ∧ mget T.opn n = some q ∧ p.left = q.left ∧ p.C = q.C := by
  rcases h.o.get n with h | ⟨a, b, h1, h2, h3, h4⟩
  · exact .inl h
  · exact .inr ⟨a, b, h1, h2, h3, h4⟩
theorem Sy.tk {S T : Sg} (h : Sy S T) (n : Int) : Sy (tkS S n) (tkS T n) ∧ tkN S n = tkN T n := by
  rcases h.get n with ⟨h1, h2⟩ | ⟨p, q, h1, h2, h3, h4⟩
  · unfold tkS tkN
    rw [h1, h2]
    exact ⟨h, rfl⟩
  · unfold tkS tkN
    rw [h1, h2]
    simp only [h3]
    by_cases hl : q.left - 1 ≤ 0
    · rw [if_pos hl, if_pos hl]
      exact ⟨⟨h.o.del, by show mput S.res n _ = mput T.res n _; rw [h.r], h.d⟩, trivial⟩
    · rw [if_neg hl, if_neg hl]
      exact ⟨⟨h.o.put ⟨rfl, h4⟩, h.r, h.d⟩, trivial⟩
theorem Sy.tks (l : List Int) : ∀ {S T : Sg}, Sy S T → Sy (l.foldl tkS S) (l.foldl tkS T) ∧ tkNs S l = tkNs T l := by
  induction l with
  | nil => intro S T h; exact ⟨h, rfl⟩
  | cons x r ih =>
    intro S T h
    have := ih (h.tk x).1
    exact ⟨this.1, by simp only [tkNs, (h.tk x).2, this.2]⟩
/-- All is small. -/
structure Sz (k : Nat) (S : Sg) : Prop where
  wf : Wf S
  cok : ∀ q ∈ S.opn, Cok k q.2.C
  rs : ∀ q ∈ S.res, q.2.s.length ≤ 50
  od : S.order.length ≤ k
theorem Cok.up {k : Nat} {C : Tc} (h : Cok k C) : Cok (k + 1) C := ⟨Nat.le_succ_of_le h.1, h.2⟩
theorem Sz.up {k : Nat} {S : Sg} (h : Sz k S) : Sz (k + 1) S := ⟨h.wf, fun q hq => (h.cok q hq).up, h.rs, Nat.le_succ_of_le h.od⟩
theorem Sz.tk {k : Nat} {S : Sg} (h : Sz k S) (n : Int) : Sz k (tkS S n) := by
  refine ⟨h.wf.tk n, ?_, ?_, by rw [(tkS_keep S n).1]; exact h.od⟩
  · intro q hq
    unfold tkS at hq
    split at hq
    · exact h.cok q hq
    · rename_i p hp
      split at hq
      · exact h.cok q (mdel_sub2 q hq)
      · rcases mput_mem q hq with e | e
        · rw [e]; exact h.cok (n, p) (mget_mem hp)
        · exact h.cok q e
  · intro q hq
    unfold tkS at hq
    split at hq
    · exact h.rs q hq
    · rename_i p hp
      split at hq
      · rcases mput_mem q hq with e | e
        · rw [e]; exact Nat.zero_le _
        · exact h.rs q e
      · exact h.rs q hq
theorem Sz.tks {k : Nat} (l : List Int) : ∀ {S : Sg}, Sz k S → Sz k (l.foldl tkS S) := by
  induction l with
  | nil => intro S h; exact h
  | cons x r ih => intro S h; exact ih (h.tk x)
theorem Sz.put {k : Nat} {S : Sg} (h : Sz k S) {n : Int} {p p' : Pg} (hn : mget S.opn n = some p) (hl : p'.left = p.left) (hc : Cok (k + 1) p'.C) : Sz (k + 1) { S with opn := mput S.opn n p' } := by
  refine ⟨fun q hq => ?_, fun q hq => ?_, h.rs, Nat.le_succ_of_le h.od⟩
  · rcases mput_mem q hq with e | e
    · rw [e, hl]; exact h.wf (n, p) (mget_mem hn)
    · exact h.wf q e
  · rcases mput_mem q hq with e | e
    · rw [e]; exact hc
    · exact (h.cok q e).up
theorem Sz.fin {k : Nat} {S : Sg} (h : Sz k S) {n : Int} {a : Ans} (ha : a.s.length ≤ 50) : Sz (k + 1) { S with opn := mdel S.opn n, res := mput S.res n a } := by
  refine ⟨fun q hq => h.wf q (mdel_sub2 q hq), fun q hq => (h.cok q (mdel_sub2 q hq)).up, fun q hq => ?_, Nat.le_succ_of_le h.od⟩
  rcases mput_mem q hq with e | e
  · rw [e]; exact ha
  · exact h.rs q e
theorem Sz.new {k : Nat} {S : Sg} (h : Sz k S) {n : Int} {p : Pg} (hl : 0 < p.left ∧ p.left ≤ 20) (hc : Cok 0 p.C) : Sz (k + 1) { S with opn := mput S.opn n p, order := S.order ++ [n] } := by
  refine ⟨fun q hq => ?_, fun q hq => ?_, h.rs, ?_⟩
  · rcases mput_mem q hq with e | e
    · rw [e]; exact hl
    · exact h.wf q e
  · rcases mput_mem q hq with e | e
    · rw [e]; exact ⟨Nat.le_trans hc.1 (Nat.zero_le _), hc.2⟩
    · exact (h.cok q e).up
  · show (S.order ++ [n]).length ≤ k + 1
    rw [List.length_append]
    exact Nat.add_le_add h.od (Nat.le_refl _)
end Go.Proofs.Ytimjcfaciiimmaa
