/- From a run of the abstract machine on a law's arguments to the machine's call. -/
import Derived.Test.YtimjcfaciiimmaaAmArgs
import Derived.OpenShut
import Derived.ShutString
import Derived.SizedLaws
set_option linter.unusedSimpArgs false
set_option linter.unusedVariables false
namespace Go.AM
open Go Go.RowKit

/-- A value out of its cells. -/
def valOf (P : Program) (t : TypeId) (cells : List Value) : Value :=
  match P.underlying t with
  | some (.struct _) => .agg cells.toArray
  | some (.array _ _) => .agg cells.toArray
  | _ => cells.headD undef

section
variable {H : Type}

def amArgs (P : Program) : List TypeId → List (DataW H) → Nat → List Value × List (Option Blk)
  | t :: ts, d :: ds, n => (valOf P t (amOne P t d n).1 :: (amArgs P ts ds (n + (amOne P t d n).2.length)).1, (amOne P t d n).2 ++ (amArgs P ts ds (n + (amOne P t d n).2.length)).2)
  | _, _, _ => ([], [])

def memOf (bs : List (Option Blk)) : Mem := { get := fun i => (bs[i]?).join, next := bs.length }

variable {enc : TypeId × Value → H} {P : Program} {W : World}

theorem okWide_leaf {r : Reach} {base k : Nat} {t : TypeId} {v : Value} (hf : flatB P k t = true) (h : Value.okWide P W r base t v) :
    (∃ cs, v = .agg cs ∧ ((∃ fs, P.underlying t = some (.struct fs)) ∨ ∃ c e, P.underlying t = some (.array c e))) ∨
    (v.cells = #[v] ∧ (∀ fs, P.underlying t ≠ some (.struct fs)) ∧ ∀ c e, P.underlying t ≠ some (.array c e)) := by
  cases k with
  | zero => cases hf
  | succ k =>
    have leaf : (∀ fs, P.underlying t ≠ some (.struct fs)) → (∀ c e, P.underlying t ≠ some (.array c e)) → v.cells = #[v] →
        (∃ cs, v = .agg cs ∧ ((∃ fs, P.underlying t = some (.struct fs)) ∨ ∃ c e, P.underlying t = some (.array c e))) ∨
        (v.cells = #[v] ∧ (∀ fs, P.underlying t ≠ some (.struct fs)) ∧ ∀ c e, P.underlying t ≠ some (.array c e)) := fun h1 h2 h3 => .inr ⟨h3, h1, h2⟩
    simp only [flatB] at hf
    split at hf
    · rename_i ht
      obtain ⟨b, rfl⟩ := WideShapes.okWide_bool ht h
      exact leaf (fun fs hh => by rw [ht] at hh; cases hh) (fun c e hh => by rw [ht] at hh; cases hh) rfl
    · rename_i ik ht
      obtain ⟨b, rfl⟩ := WideShapes.okWide_int ht h
      exact leaf (fun fs hh => by rw [ht] at hh; cases hh) (fun c e hh => by rw [ht] at hh; cases hh) rfl
    · rename_i fk ht
      refine leaf (fun fs hh => by rw [ht] at hh; cases hh) (fun c e hh => by rw [ht] at hh; cases hh) ?_
      unfold Value.okWide at h
      rw [ht] at h
      cases v <;> first | rfl | (simp [Cell.okWide, Cell.ok, ht] at h; done)
    · rename_i ht
      obtain ⟨b, rfl⟩ := WideShapes.okWide_string ht h
      exact leaf (fun fs hh => by rw [ht] at hh; cases hh) (fun c e hh => by rw [ht] at hh; cases hh) rfl
    · rename_i el ht
      obtain ⟨a, l, c, rfl⟩ := WideShapes.okWide_slice ht h
      exact leaf (fun fs hh => by rw [ht] at hh; cases hh) (fun c e hh => by rw [ht] at hh; cases hh) rfl
    · rename_i fs ht
      unfold Value.okWide at h
      rw [ht] at h
      obtain ⟨cs, rfl, _⟩ := h
      exact .inl ⟨cs, rfl, .inl ⟨fs, ht⟩⟩
    · rename_i c e ht
      unfold Value.okWide at h
      rw [ht] at h
      obtain ⟨cs, rfl, _⟩ := h
      exact .inl ⟨cs, rfl, .inr ⟨c, e, ht⟩⟩
    · cases hf

theorem val_rel {r : Reach} {base k : Nat} {t : TypeId} {v : Value} {cells : List Value} {β : Ren} (hf : flatB P k t = true) (h : Value.okWide P W r base t v) (hl : LRel β cells v.cells.toList) (hk : ∀ x ∈ cells, okCell x = true) :
    VRel β (valOf P t cells) v := by
  rcases okWide_leaf hf h with ⟨cs, rfl, ht⟩ | ⟨hv, h1, h2⟩
  · have : valOf P t cells = .agg cells.toArray := by
      rcases ht with ⟨fs, ht⟩ | ⟨c, e, ht⟩ <;> simp [valOf, ht]
    rw [this]
    obtain ⟨hn, hg⟩ := LRel.get hl
    have hcs : (Value.agg cs).cells = cs := rfl
    rw [hcs] at hn hg
    exact .agg (by simpa using hn) (fun i x x' hx hx' => hg i x x' (by simpa using hx) (by simpa using hx')) (fun i x hx => hk x (List.mem_of_getElem? (by simpa using hx)))
  · rw [hv] at hl
    match cells, hl with
    | [x], hl =>
      have : valOf P t [x] = x := by
        unfold valOf
        split
        · rename_i fs ht; exact absurd ht (h1 fs)
        · rename_i c e ht; exact absurd ht (h2 c e)
        · rfl
      rw [this]
      exact hl.1

theorem args_fit : ∀ {ts : List TypeId} {vs : List Value} {ds : List (DataW H)} {p : List MemPlace} {r : Reach} {base k : Nat}, DataW.TrodAll enc P W 0 (fun _ => true) true ts vs ds p → (∀ t ∈ ts, flatB P k t = true) →
    (∀ (j : Nat) t v, ts[j]? = some t → vs[j]? = some v → Value.okWide P W r base t v) → ∀ q, ∃ locs : List Loc, locs.length = (amArgs P ts ds q).2.length ∧ ∀ β : Ren, (∀ (j : Nat) (L : Loc), locs[j]? = some L → β (q + j) = some L) →
      LRel β (amArgs P ts ds q).1 vs ∧ ∀ (j : Nat) (b : Blk), (amArgs P ts ds q).2[j]? = some (some b) → b.own = false ∧ ∃ L, locs[j]? = some L ∧ BRel P β L b W.heap[L.g]?
  | [], [], [], p, r, base, k, _, _, _, q => ⟨[], rfl, fun β _ => ⟨trivial, fun j b h => by simp [amArgs] at h⟩⟩
  | t :: ts, v :: vs, d :: ds, p, r, base, k, h, hf, hok, q => by
    obtain ⟨p1, p2, ⟨fuel, h1⟩, h2, _⟩ := h
    obtain ⟨l1, e1, k1⟩ := reads_ok fuel k t v.cells.toList (d, p1) h1 (hf t (by simp)) q
    obtain ⟨l2, e2, k2⟩ := args_fit h2 (fun t ht => hf t (by simp [ht])) (fun j t v hj hv => hok (j + 1) t v hj hv) (q + (amOne P t d q).2.length)
    simp only at e1 k1
    refine ⟨l1 ++ l2, by simp [amArgs, e1, e2], fun β hβ => ?_⟩
    obtain ⟨a1, b1, d1⟩ := k1 β fun j L h => hβ j L (by
      have := (List.getElem?_eq_some_iff.1 h).1
      rw [List.getElem?_append_left this]; exact h)
    obtain ⟨a2, d2⟩ := k2 β fun j L h => by
      have := hβ (l1.length + j) L (by rw [List.getElem?_append_right (by omega)]; simpa using h)
      rw [← e1, Nat.add_assoc]; exact this
    refine ⟨⟨val_rel (hf t (by simp)) (hok 0 t v rfl rfl) a1 b1, a2⟩, fun j b hj => ?_⟩
    simp only [amArgs] at hj
    by_cases hlt : j < (amOne P t d q).2.length
    · rw [List.getElem?_append_left hlt] at hj
      obtain ⟨o, L, hL, hb⟩ := d1 j b hj
      exact ⟨o, L, by rw [List.getElem?_append_left (by omega)]; exact hL, hb⟩
    · rw [List.getElem?_append_right (by omega)] at hj
      obtain ⟨o, L, hL, hb⟩ := d2 _ b hj
      exact ⟨o, L, by rw [List.getElem?_append_right (by omega), e1]; exact hL, hb⟩
  | [], _ :: _, _, _, _, _, _, h, _, _, _ => by cases h
  | [], [], _ :: _, _, _, _, _, h, _, _, _ => by cases h
  | _ :: _, [], _, _, _, _, _, h, _, _, _ => by cases h
  | _ :: _, _ :: _, [], _, _, _, _, h, _, _, _ => by cases h

/-- The abstract machine's answer is the machine's; of what was there nothing turns. -/
theorem am_calls {ts : List TypeId} {vs : Array Value} {ds : List (DataW H)} {p : List MemPlace} {r : Reach} {base k n : Nat} {f : FuncId} {b : Bool} {m' : Mem} (hP : progOkB P = true) (hA : DataW.TrodAll enc P W 0 (fun _ => true) true ts vs.toList ds p)
    (hok : ∀ (j : Nat) t v, ts[j]? = some t → vs[j]? = some v → Value.okWide P W r base t v) (hf : ts.all (flatB P k) = true)
    (hrun : callF P n f (amArgs P ts ds 0).1 (memOf (amArgs P ts ds 0).2) = some (.bool b, m')) :
    Calls P f vs W (fun e w' => e = .returned (.bool b) ∧ Below W.heap.size W w') := by
  obtain ⟨locs, hl, hk⟩ := args_fit hA (fun t ht => (List.all_eq_true.1 hf) t ht) (fun j t v hj hv => hok j t v hj (by simpa using hv)) 0
  obtain ⟨h1, h2⟩ := hk (fun i => locs[i]?) (fun j L hj => by simpa using hj)
  have hget : ∀ i b, (memOf (amArgs P ts ds 0).2).get i = some b → (amArgs P ts ds 0).2[i]? = some (some b) := by
    intro i b h
    simp only [memOf] at h
    cases hx : (amArgs P ts ds 0).2[i]? with
    | none => rw [hx] at h; cases h
    | some o => rw [hx] at h; simp at h; rw [h]
  have hW : WRel P (fun i => locs[i]?) (memOf (amArgs P ts ds 0).2) W := by
    refine ⟨fun i b L hb hL => ?_, fun i j bi bj L L' hbi hbj _ _ _ ho => ?_, fun i b L hb hL => ?_, fun i hi => ?_⟩
    · obtain ⟨_, L', hL', hB⟩ := h2 i b (hget i b hb)
      rw [hL'] at hL
      obtain rfl := Option.some.inj hL
      exact hB
    · have h3 := (h2 i bi (hget i bi hbi)).1
      have h4 := (h2 j bj (hget j bj hbj)).1
      rw [h3, h4] at ho
      simp at ho
    · obtain ⟨_, L', hL', hB⟩ := h2 i b (hget i b hb)
      rw [hL'] at hL
      obtain rfl := Option.some.inj hL
      cases b with
      | cells cs e own =>
        obtain ⟨c, e', fr, h5, _⟩ := hB
        exact (Array.getElem?_eq_some_iff.1 h5).1
      | map es =>
        obtain ⟨c, clk, h5, _⟩ := hB
        exact (Array.getElem?_eq_some_iff.1 h5).1
    · simp only [memOf] at hi ⊢
      rw [List.getElem?_eq_none hi]
      rfl
  have hC := callF_ok hP n f _ _ _ _ hrun
  refine Calls.mono (hC.runs _ W vs.toList hW h1 (fun i hi _ => ?_)) ?_
  · simp only [memOf] at hi
    exact List.getElem?_eq_none (by omega)
  · rintro e w' ⟨v, β', rfl, hv, hp⟩
    cases hv
    refine ⟨rfl, hp.frame.os, hp.frame.tape, hp.frame.output, hp.frame.size, fun g hg => hp.frame.block g hg ?_⟩
    intro i bb L hb ho hL e
    have := (h2 i bb (hget i bb hb)).1
    rw [ho] at this
    cases this

theorem below_trodAll (laidOut : laidOutB P = true) : ∀ {ts : List TypeId} {vs : List Value} {ds : List (DataW H)} {p : List MemPlace} {W' : World}, (∀ t ∈ ts, P.readableRec t = true ∧ t < P.types.size) →
    DataW.TrodAll enc P W 0 (fun _ => true) true ts vs ds p → Below W.heap.size W W' → DataW.TrodAll enc P W' 0 (fun b => decide (b < W.heap.size)) true ts vs ds p
  | [], [], [], p, W', _, h, _ => h
  | t :: ts, v :: vs, d :: ds, p, W', hr, ⟨p1, p2, h1, h2, h3⟩, hb =>
    ⟨p1, p2, Below.trod laidOut (hr t (by simp)).1 (hr t (by simp)).2 h1 hb (fun x hx => by obtain ⟨m, hm⟩ := h1; exact DataW.trod_lt m _ _ _ hm x hx), below_trodAll laidOut (fun t ht => hr t (by simp [ht])) h2 hb, h3⟩
  | [], _ :: _, _, _, _, _, h, _ => by cases h
  | [], [], _ :: _, _, _, _, h, _ => by cases h
  | _ :: _, [], _, _, _, _, h, _ => by cases h
  | _ :: _, _ :: _, [], _, _, _, h, _ => by cases h
end
end Go.AM
