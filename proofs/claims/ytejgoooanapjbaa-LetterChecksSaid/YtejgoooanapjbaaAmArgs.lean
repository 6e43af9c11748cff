/- The arguments of a law, as the abstract machine has them: each slice that is met is a block of its own, that may only be read. -/
import Derived.Test.YtejgoooanapjbaaAmSound16
import Derived.ChangeArms
import Derived.ChangeReads
import Derived.DataReads
import Derived.Below
import Derived.WalkKit
import Derived.ProofKit
import Derived.ChangeOld
set_option linter.unusedSimpArgs false
set_option linter.unusedVariables false
namespace Go.AM
open Go

section
variable {H : Type} (P : Program)

mutual
/-- The cells and the blocks of one value that is read; n: the first free name. -/
def amOne (t : TypeId) : DataW H → Nat → List Value × List (Option Blk)
  | .lit (.bool b), _ => ([.bool b], [])
  | .lit (.int k n), _ => ([.int k n], [])
  | .lit (.float k b), _ => ([.float k b], [])
  | .lit (.string bs), _ => ([.string ⟨bs.toArray⟩], [])
  | .nil, _ => ([.slice none 0 0], [])
  | .agg parts, n => match P.underlying t with
    | some (.struct fs) => amParts fs.toList parts n
    | some (.array _ e) => amMany e parts n
    | _ => ([], [])
  | .slice elems _, n => match P.underlying t with
    | some (.slice e) => ([.slice (some ⟨n, 0, none⟩) elems.length (esz P e)], (if elems.isEmpty then none else some (.cells (amMany e elems (n + 1)).1 e false)) :: (amMany e elems (n + 1)).2)
    | _ => ([], [])
  | _, _ => ([], [])
def amMany (e : TypeId) : List (DataW H) → Nat → List Value × List (Option Blk)
  | [], _ => ([], [])
  | d :: r, n => ((amOne e d n).1 ++ (amMany e r (n + (amOne e d n).2.length)).1, (amOne e d n).2 ++ (amMany e r (n + (amOne e d n).2.length)).2)
def amParts : List Field → List (DataW H) → Nat → List Value × List (Option Blk)
  | f :: fs, d :: r, n => ((amOne f.type d n).1 ++ (amParts fs r (n + (amOne f.type d n).2.length)).1, (amOne f.type d n).2 ++ (amParts fs r (n + (amOne f.type d n).2.length)).2)
  | _, _, _ => ([], [])
end

/-- Fields that lie one behind the other. -/
def laidB : Nat → List Field → Nat → Bool
  | o, [], s => o == s
  | o, f :: r, s => f.offset == o && laidB (o + esz P f.type) r s

/-- A type of plain values. -/
def flatB : Nat → TypeId → Bool
  | 0, _ => false
  | k + 1, t => match P.underlying t with
    | some .bool => true
    | some (.int _) => true
    | some (.float _) => true
    | some .string => true
    | some (.slice e) => flatB k e && decide (0 < esz P e)
    | some (.struct fs) => fs.toList.all (fun f => flatB k f.type) && laidB P 0 fs.toList (esz P t)
    | some (.array c e) => flatB k e && decide (esz P t = c * esz P e)
    | _ => false
end

section
variable {H : Type} {enc : TypeId × Value → H} {P : Program} {W : World}

def Fits (P : Program) (W : World) (r : List Value × List (Option Blk)) (n : Nat) (cs : List Value) : Prop :=
  ∃ locs : List Loc, locs.length = r.2.length ∧ ∀ β : Ren, (∀ (j : Nat) (L : Loc), locs[j]? = some L → β (n + j) = some L) →
    LRel β r.1 cs ∧ (∀ x ∈ r.1, okCell x = true) ∧ ∀ (j : Nat) (b : Blk), r.2[j]? = some (some b) → b.own = false ∧ ∃ L, locs[j]? = some L ∧ BRel P β L b W.heap[L.g]?

theorem Fits.nil {n : Nat} : Fits P W ([], []) n [] := ⟨[], rfl, fun β _ => ⟨trivial, fun x h => by simp at h, fun j b h => by simp at h⟩⟩

theorem Fits.leaf {n : Nat} {x v : Value} (h : ∀ β, VRel β x v) (hk : okCell x = true) : Fits P W ([x], []) n [v] :=
  ⟨[], rfl, fun β _ => ⟨⟨h β, trivial⟩, fun y hy => by simp at hy; rw [hy]; exact hk, fun j b h => by simp at h⟩⟩

theorem Fits.append {n : Nat} {r1 r2 : List Value × List (Option Blk)} {c1 c2 : List Value} (h1 : Fits P W r1 n c1) (h2 : Fits P W r2 (n + r1.2.length) c2) :
    Fits P W (r1.1 ++ r2.1, r1.2 ++ r2.2) n (c1 ++ c2) := by
  obtain ⟨l1, e1, k1⟩ := h1
  obtain ⟨l2, e2, k2⟩ := h2
  refine ⟨l1 ++ l2, by simp [e1, e2], fun β hβ => ?_⟩
  obtain ⟨a1, b1, d1⟩ := k1 β fun j L h => hβ j L (by
    have := (List.getElem?_eq_some_iff.1 h).1
    rw [List.getElem?_append_left this]; exact h)
  obtain ⟨a2, b2, d2⟩ := k2 β fun j L h => by
    have := hβ (l1.length + j) L (by rw [List.getElem?_append_right (by omega)]; simpa using h)
    rw [← e1, Nat.add_assoc]; exact this
  refine ⟨a1.append a2, fun x hx => ?_, fun j b hj => ?_⟩
  · rw [List.mem_append] at hx
    exact hx.elim (b1 x) (b2 x)
  · simp only at hj
    by_cases hlt : j < r1.2.length
    · rw [List.getElem?_append_left hlt] at hj
      obtain ⟨o, L, hL, hb⟩ := d1 j b hj
      exact ⟨o, L, by rw [List.getElem?_append_left (by omega)]; exact hL, hb⟩
    · rw [List.getElem?_append_right (by omega)] at hj
      obtain ⟨o, L, hL, hb⟩ := d2 _ b hj
      exact ⟨o, L, by rw [List.getElem?_append_right (by omega), e1]; exact hL, hb⟩

/-- What the fuel's reading tells. -/
def Reads (enc : TypeId × Value → H) (P : Program) (W : World) (n : Nat) : Prop :=
  ∀ (k : Nat) (t : TypeId) (cs : List Value) (x : DataW H × List MemPlace), DataW.trod enc P W 0 (fun _ => true) true n t cs = some x → flatB P k t = true → ∀ q, Fits P W (amOne P t x.1 q) q cs

theorem cells_take {a : Addr} {c : Array Value} {e : TypeId} {fr : Nat × Nat} {s i : Nat} {cs : List Value} (hc : W.heap[a.block]? = some (.cells c e fr)) (h : W.cells? 0 (a.add i) s = some cs) :
    cs = (c.toList.drop (a.off + i)).take s := by
  obtain ⟨_, hl, hg⟩ := World.cells?_some h
  apply List.ext_getElem?
  intro j
  by_cases hj : j < s
  · rw [← hg j hj, List.getElem?_take, if_pos hj, List.getElem?_drop]
    have hb : ((a.add i).add j).block = a.block := by unfold Addr.add; split <;> split <;> rfl
    have ho : ((a.add i).add j).off = a.off + i + j := by unfold Addr.add; split <;> split <;> simp_all <;> omega
    have := World.cells?_some h
    have hx := hg j hj
    unfold World.cell? at hx ⊢
    rw [hb, hc] at hx ⊢
    simp only at hx ⊢
    split
    · rename_i hs
      rw [if_pos hs] at hx
      have hlt : j < cs.length := by omega
      rw [List.getElem?_eq_getElem hlt] at hx
      cases hx
    · rw [ho]; simp
  · rw [List.getElem?_eq_none (by omega), List.getElem?_take, if_neg hj]

theorem many_fits {n k : Nat} (ih : Reads enc P W n) {e : TypeId} (hf : flatB P k e = true) {a : Addr} {c : Array Value} {te : TypeId} {fr : Nat × Nat} (hc : W.heap[a.block]? = some (.cells c te fr)) :
    ∀ (ds : List (DataW H × List MemPlace)) (i : Nat), (∀ j, j < ds.length → (W.cells? 0 (a.add ((i + j) * P.cellsOf e)) (P.cellsOf e)).bind (DataW.trod enc P W 0 (fun _ => true) true n e) = ds[j]?) →
      ∀ q, Fits P W (amMany P e (ds.map (·.1)) q) q ((c.toList.drop (a.off + i * P.cellsOf e)).take (ds.length * P.cellsOf e))
  | [], i, _, q => by simpa [amMany] using Fits.nil
  | d :: r, i, h, q => by
    have h0 := h 0 (by simp)
    simp only [Nat.add_zero, List.getElem?_cons_zero] at h0
    rw [Option.bind_eq_some_iff] at h0
    obtain ⟨cs, h1, h2⟩ := h0
    have hcs := cells_take hc h1
    have f1 := ih k e cs d h2 hf q
    have f2 := many_fits ih hf hc r (i + 1) (fun j hj => by
      have := h (j + 1) (by simp; omega)
      rw [show i + (j + 1) = i + 1 + j by omega] at this
      simpa using this) (q + (amOne P e d.1 q).2.length)
    have := Fits.append f1 f2
    simp only [List.map_cons, amMany]
    have hsplit : (c.toList.drop (a.off + i * P.cellsOf e)).take ((d :: r).length * P.cellsOf e) = cs ++ (c.toList.drop (a.off + (i + 1) * P.cellsOf e)).take (r.length * P.cellsOf e) := by
      rw [List.length_cons, Nat.add_mul, Nat.one_mul, Nat.add_comm (r.length * P.cellsOf e), List.take_add, ← hcs, List.drop_drop, Nat.add_mul, Nat.one_mul, Nat.add_assoc]
    rw [hsplit]
    exact this

theorem parts_fits {n k : Nat} (ih : Reads enc P W n) {cs : List Value} {s : Nat} (hl : cs.length = s) : ∀ (fs : List Field) (xs : List (DataW H × List MemPlace)) (o : Nat), laidB P o fs s = true → (∀ f ∈ fs, flatB P k f.type = true) → xs.length = fs.length →
    (∀ (i : Nat) (f : Field), fs[i]? = some f → DataW.trod enc P W 0 (fun _ => true) true n f.type ((cs.drop f.offset).take (P.cellsOf f.type)) = xs[i]?) → ∀ q, Fits P W (amParts P fs (xs.map (·.1)) q) q (cs.drop o)
  | [], xs, o, h, _, hx, _, q => by
    have : o = s := by simpa [laidB] using h
    have : xs = [] := by simpa using hx
    subst this
    rw [List.drop_eq_nil_of_le (by omega)]
    simpa [amParts] using Fits.nil
  | f :: fs, [], o, _, _, hx, _, q => by simp at hx
  | f :: fs, x :: xs, o, h, hf, hx, ht, q => by
    simp only [laidB, Bool.and_eq_true, beq_iff_eq] at h
    obtain ⟨ho, hr⟩ := h
    have h0 := ht 0 f rfl
    simp only [List.getElem?_cons_zero] at h0
    have f1 := ih k f.type _ x h0 (hf f (by simp)) q
    have f2 := parts_fits ih hl fs xs _ hr (fun g hg => hf g (by simp [hg])) (by simpa using hx) (fun i g hg => ht (i + 1) g hg) (q + (amOne P f.type x.1 q).2.length)
    have := Fits.append f1 f2
    simp only [List.map_cons, amParts]
    have hsplit : cs.drop o = (cs.drop f.offset).take (P.cellsOf f.type) ++ cs.drop (o + esz P f.type) := by
      rw [ho, ← List.drop_drop, show esz P f.type = P.cellsOf f.type from rfl, List.take_append_drop]
    rw [hsplit]
    exact this

theorem row_fits {n k : Nat} (ih : Reads enc P W n) {e : TypeId} (hf : flatB P k e = true) {cs : List Value} :
    ∀ (ds : List (DataW H × List MemPlace)) (i : Nat), cs.length = (i + ds.length) * P.cellsOf e → (∀ j, j < ds.length → DataW.trod enc P W 0 (fun _ => true) true n e ((cs.drop ((i + j) * P.cellsOf e)).take (P.cellsOf e)) = ds[j]?) →
      ∀ q, Fits P W (amMany P e (ds.map (·.1)) q) q (cs.drop (i * P.cellsOf e))
  | [], i, hl, _, q => by
    rw [List.drop_eq_nil_of_le (by rw [hl]; simp)]
    simpa [amMany] using Fits.nil
  | d :: r, i, hl, h, q => by
    have h0 := h 0 (by simp)
    simp only [Nat.add_zero, List.getElem?_cons_zero] at h0
    have f1 := ih k e _ d h0 hf q
    have f2 := row_fits ih hf (cs := cs) r (i + 1) (by rw [hl]; simp [Nat.add_comm, Nat.add_left_comm]) (fun j hj => by
      have := h (j + 1) (by simp; omega)
      rw [show i + (j + 1) = i + 1 + j by omega] at this
      simpa using this) (q + (amOne P e d.1 q).2.length)
    have := Fits.append f1 f2
    simp only [List.map_cons, amMany]
    have hsplit : cs.drop (i * P.cellsOf e) = (cs.drop (i * P.cellsOf e)).take (P.cellsOf e) ++ cs.drop ((i + 1) * P.cellsOf e) := by
      rw [Nat.add_mul, Nat.one_mul, ← List.drop_drop, List.take_append_drop]
    rw [hsplit]
    exact this
end
end Go.AM
