/- The arguments of a law, as the abstract machine has them: each slice that is met is a block of its own, that may only be read. -/
import Derived.Test.YtimjcfaciiimmaaAmSound16
import Derived.ChangeArms
import Derived.ChangeReads
import Derived.DataReads
import Derived.Below
import Derived.WalkKit
import Derived.ProofKit
import Derived.ChangeOld
set_option linter.unusedSimpArgs false
set_option linter.unusedVariables false
namespace Go.AM
open Go

section
variable {H : Type} (P : Program)

mutual
/-- The cells and the blocks of one value that is read; n: the first free name. -/
def amOne (t : TypeId) : DataW H → Nat → List Value × List (Option Blk)
  | .lit (.bool b), _ => ([.bool b], [])
  | .lit (.int k n), _ => ([.int k n], [])
  | .lit (.float k b), _ => ([.float k b], [])
  | .lit (.string bs), _ => ([.string ⟨bs.toArray⟩], [])
  | .nil, _ => ([.slice none 0 0], [])
  | .agg parts, n => match P.underlying t with
    | some (.struct fs) => amParts fs.toList parts n
    | some (.array _ e) => amMany e parts n
    | _ => ([], [])
  | .slice elems _, n => match P.underlying t with
    | some (.slice e) => ([.slice (some ⟨n, 0, none⟩) elems.length (esz P e)], (if elems.isEmpty then none else some (.cells (amMany e elems (n + 1)).1 e false)) :: (amMany e elems (n + 1)).2)
    | _ => ([], [])
  | _, _ => ([], [])
def amMany (e : TypeId) : List (DataW H) → Nat → List Value × List (Option Blk)
  | [], _ => ([], [])
  | d :: r, n => ((amOne e d n).1 ++ (amMany e r (n + (amOne e d n).2.length)).1, (amOne e d n).2 ++ (amMany e r (n + (amOne e d n).2.length)).2)
def amParts : List Field → List (DataW H) → Nat → List Value × List (Option Blk)
  | f :: fs, d :: r, n => ((amOne f.type d n).1 ++ (amParts fs r (n + (amOne f.type d n).2.length)).1, (amOne f.type d n).2 ++ (amParts fs r (n + (amOne f.type d n).2.length)).2)
  | _, _, _ => ([], [])
end

/-- Fields that lie one behind the other. -/
def laidB : Nat → List Field → Nat → Bool
  | o, [], s => o == s
  | o, f :: r, s => f.offset == o && laidB (o + esz P f.type) r s

/-- A type of plain values. -/
def flatB : Nat → TypeId → Bool
  | 0, _ => false
  | k + 1, t => match P.underlying t with
    | some .bool => true
    | some (.int _) => true
    | some (.float _) => true
    | some .string => true
    | some (.slice e) => flatB k e && decide (0 < esz P e)
    | some (.struct fs) => fs.toList.all (fun f => flatB k f.type) && laidB P 0 fs.toList (esz P t)
    | some (.array c e) => flatB k e && decide (esz P t = c * esz P e)
    | _ => false
end

section
variable {H : Type} {enc : TypeId × Value → H} {P : Program} {W : World}

def Fits (P : Program) (W : World) (r : List Value × List (Option Blk)) (n : Nat) (cs : List Value) : Prop :=
  ∃ locs : List Loc, locs.length = r.2.length ∧ ∀ β : Ren, (∀ (j : Nat) (L : Loc), locs[j]? = some L → β (n + j) = some L) →
    LRel β r.1 cs ∧ (∀ x ∈ r.1, okCell x = true) ∧ ∀ (j : Nat) (b : Blk), r.2[j]? = some (some b) → b.own = false ∧ ∃ L, locs[j]? = some L ∧ BRel P β L b W.heap[L.g]?

theorem Fits.nil {n : Nat} : Fits P W ([], []) n [] := ⟨[], rfl, fun β _ => ⟨trivial, fun x h => by simp at h, fun j b h => by simp at h⟩⟩

theorem Fits.leaf {n : Nat} {x v : Value} (h : ∀ β, VRel β x v) (hk : okCell x = true) : Fits P W ([x], []) n [v] :=
  ⟨[], rfl, fun β _ => ⟨⟨h β, trivial⟩, fun y hy => by simp at hy; rw [hy]; exact hk, fun j b h => by simp at h⟩⟩

theorem Fits.append {n : Nat} {r1 r2 : List Value × List (Option Blk)} {c1 c2 : List Value} (h1 : Fits P W r1 n c1) (h2 : Fits P W r2 (n + r1.2.length) c2) :
    Fits P W (r1.1 ++ r2.1, r1.2 ++ r2.2) n (c1 ++ c2) := by
  obtain ⟨l1, e1, k1⟩ := h1
  obtain ⟨l2, e2, k2⟩ := h2
  refine ⟨l1 ++ l2, by simp [e1, e2], fun β hβ => ?_⟩
  obtain ⟨a1, b1, d1⟩ := k1 β fun j L h => hβ j L (by
    have := (List.getElem?_eq_some_iff.1 h).1
    rw [List.getElem?_append_left this]; exact h)
  obtain ⟨a2, b2, d2⟩ := k2 β fun j L h => by
    have := hβ (l1.length + j) L (by rw [List.getElem?_append_right (by omega)]; simpa using h)
    rw [← e1, Nat.add_assoc]; exact this
  refine ⟨a1.append a2, fun x hx => ?_, fun j b hj => ?_⟩
  · rw [List.mem_append] at hx
    exact hx.elim (b1 x) (b2 x)
  · simp only at hj
    by_cases hlt : j < r1.2.length
    · rw [List.getElem?_append_left hlt] at hj
      obtain ⟨o, L, hL, hb⟩ := d1 j b hj
      exact ⟨o, L, by rw [List.getElem?_append_left (by omega)]; exact hL, hb⟩
    · rw [List.getElem?_append_right (by omega)] at hj
      obtain ⟨o, L, hL, hb⟩ := d2 _ b hj
      exact ⟨o, L, by rw [List.getElem?_append_right (by omega), e1]; exact hL, hb⟩

/-- What the fuel's reading tells. -/
def Reads (enc : TypeId × Value → H) (P : Program) (W : World) (n : Nat) : Prop :=
  ∀ (k : Nat) (t : TypeId) (cs : List Value) (x : DataW H × List MemPlace), DataW.trod enc P W 0 (fun _ => true) true n t cs = some x → flatB P k t = true → ∀ q, Fits P W (amOne P t x.1 q) q cs

theorem cells_take {a : Addr} {c : Array Value} {e : TypeId} {fr : Nat × Nat} {s i : Nat} {cs : List Value} (hc : W.heap[a.block]? = some (.cells c e fr)) (h : W.cells? 0 (a.add i) s = some cs) :
    cs = (c.toList.drop (a.off + i)).take s := by
  obtain ⟨_, hl, hg⟩ := World.cells?_some h
  apply List.ext_getElem?
  intro j
  by_cases hj : j < s
  · rw [← hg j hj, List.getElem?_take, if_pos hj, List.getElem?_drop]
    have hb : ((a.add i).add j).block = a.block := by unfold Addr.add; split <;> split <;> rfl
    have ho : ((a.add i).add j).off = a.off + i + j := by unfold Addr.add; split <;> split <;> simp_all <;> omega
    have := World.cells?_some h
    have hx := hg j hj
    unfold World.cell? at hx ⊢
    rw [hb, hc] at hx ⊢
    simp only at hx ⊢
    split
    · rename_i hs
      rw [if_pos hs] at hx
      have hlt : j < cs.length := by omega
      rw [List.getElem?_eq_getElem hlt] at hx
      cases hx
    · rw [ho]; simp
  · rw [List.getElem?_eq_none (by omega), List.getElem?_take, if_neg hj]

theorem many_fits {n k : Nat} (ih : Reads enc P W n) {e : TypeId} (hf : flatB P k e = true) {a : Addr} {c : Array Value} {te : TypeId} {fr : Nat × Nat} (hc : W.heap[a.block]? = some (.cells c te fr)) :
    ∀ (ds : List (DataW H × List MemPlace)) (i : Nat), (∀ j, j < ds.length → (W.cells? 0 (a.add ((i + j) * P.cellsOf e)) (P.cellsOf e)).bind (DataW.trod enc P W 0 (fun _ => true) true n e) = ds[j]?) →
      ∀ q, Fits P W (amMany P e (ds.map (·.1)) q) q ((c.toList.drop (a.off + i * P.cellsOf e)).take (ds.length * P.cellsOf e))
  | [], i, _, q => by simpa [amMany] using Fits.nil
  | d :: r, i, h, q => by
    have h0 := h 0 (by simp)
    simp only [Nat.add_zero, List.getElem?_cons_zero] at h0
    rw [Option.bind_eq_some_iff] at h0
    obtain ⟨cs, h1, h2⟩ := h0
    have hcs := cells_take hc h1
    have f1 := ih k e cs d h2 hf q
    have f2 := many_fits ih hf hc r (i + 1) (fun j hj => by
      have := h (j + 1) (by simp; omega)
      rw [show i + (j + 1) = i + 1 + j by omega] at this
      simpa using this) (q + (amOne P e d.1 q).2.length)
    have := Fits.append f1 f2
    simp only [List.map_cons, amMany]
    have hsplit : (c.toList.drop (a.off + i * P.cellsOf e)).take ((d :: r).length * P.cellsOf e) = cs ++ (c.toList.drop (a.off + (i + 1) * P.cellsOf e)).take (r.length * P.cellsOf e) := by
      rw [List.length_cons, Nat.add_mul, Nat.one_mul, Nat.add_comm (r.length * P.cellsOf e), List.take_add, ← hcs, List.drop_drop, Nat.add_mul, Nat.one_mul, Nat.add_assoc]
    rw [hsplit]
    exact this

theorem parts_fits {n k : Nat} (ih : Reads enc P W n) {cs : List Value} {s : Nat} (hl : cs.length = s) : ∀ (fs : List Field) (xs : List (DataW H × List MemPlace)) (o : Nat), laidB P o fs s = true → (∀ f ∈ fs, flatB P k f.type = true) → xs.length = fs.length →
    (∀ (i : Nat) (f : Field), fs[i]? = some f → DataW.trod enc P W 0 (fun _ => true) true n f.type ((cs.drop f.offset).take (P.cellsOf f.type)) = xs[i]?) → ∀ q, Fits P W (amParts P fs (xs.map (·.1)) q) q (cs.drop o)
  | [], xs, o, h, _, hx, _, q => by
    have : o = s := by simpa [laidB] using h
    have : xs = [] := by simpa using hx
    subst this
    rw [List.drop_eq_nil_of_le (by omega)]
    simpa [amParts] using Fits.nil
  | f :: fs, [], o, _, _, hx, _, q => by simp at hx
  | f :: fs, x :: xs, o, h, hf, hx, ht, q => by
    simp only [laidB, Bool.and_eq_true, beq_iff_eq] at h
    obtain ⟨ho, hr⟩ := h
    have h0 := ht 0 f rfl
    simp only [List.getElem?_cons_zero] at h0
    have f1 := ih k f.type _ x h0 (hf f (by simp)) q
    have f2 := parts_fits ih hl fs xs _ hr (fun g hg => hf g (by simp [hg])) (by simpa using hx) (fun i g hg => ht (i + 1) g hg) (q + (amOne P f.type x.1 q).2.length)
    have := Fits.append f1 f2
    simp only [List.map_cons, amParts]
    have hsplit : cs.drop o = (cs.drop f.offset).take (P.cellsOf f.type) ++ cs.drop (o + esz P f.type) := by
      rw [ho, ← List.drop_drop, show esz P f.type = P.cellsOf f.type from rfl, List.take_append_drop]
    rw [hsplit]
    exact this

theorem row_fits {n k : Nat} (ih : Reads enc P W n) {e : TypeId} (hf : flatB P k e = true) {cs : List Value} :
    ∀ (ds : List (DataW H × List MemPlace)) (i : Nat), cs.length = (i + ds.length) * P.cellsOf e → (∀ j, j < ds.length → DataW.trod enc P W 0 (fun _ => true) true n e ((cs.drop ((i + j) * P.cellsOf e)).take (P.cellsOf e)) = ds[j]?) →
      ∀ q, Fits P W (amMany P e (ds.map (·.1)) q) q (cs.drop (i * P.cellsOf e))
  | [], i, hl, _, q => by
    rw [List.drop_eq_nil_of_le (by rw [hl]; simp)]
    simpa [amMany] using Fits.nil
  | d :: r, i, hl, h, q => by
    have h0 := h 0 (by simp)
    simp only [Nat.add_zero, List.getElem?_cons_zero] at h0
    have f1 := ih k e _ d h0 hf q
    have f2 := row_fits ih hf (cs := cs) r (i + 1) (by rw [hl]; simp [Nat.add_comm, Nat.add_left_comm]) (fun j hj => by
      have := h (j + 1) (by simp; omega)
      rw [show i + (j + 1) = i + 1 + j by omega] at this
      simpa using this) (q + (amOne P e d.1 q).2.length)
    have := Fits.append f1 f2
    simp only [List.map_cons, amMany]
    have hsplit : cs.drop (i * P.cellsOf e) = (cs.drop (i * P.cellsOf e)).take (P.cellsOf e) ++ cs.drop ((i + 1) * P.cellsOf e) := by
      rw [Nat.add_mul, Nat.one_mul, ← List.drop_drop, List.take_append_drop]
    rw [hsplit]
    exact this
end
end Go.AM

namespace Go.AM
open Go

section
variable {H : Type} {enc : TypeId × Value → H} {P : Program} {W : World}

theorem trod_float {w : World} {base : Nat} {spare : Nat → Bool} {held : Bool} {fuel : Nat} {t : TypeId} {cs : List Value} {x : DataW H × List MemPlace} {k : FloatKind} (ht : P.underlying t = some (.float k)) (h : DataW.trod enc P w base spare held fuel t cs = some x) :
    ∃ n, cs = [.float k n] ∧ x = (.lit (.float k n), []) ∧ (Lit.float k n).wf = true := by
  cases fuel with
  | zero => simp [DataW.trod] at h
  | succ n =>
    unfold DataW.trod at h
    rw [ht] at h
    split at h <;> simp_all

theorem trod_array {w : World} {base : Nat} {spare : Nat → Bool} {held : Bool} {fuel : Nat} {t e : TypeId} {c : Nat} {cs : List Value} {x : DataW H × List MemPlace} (ht : P.underlying t = some (.array c e)) (h : DataW.trod enc P w base spare held fuel t cs = some x) :
    ∃ (xs : List (DataW H × List MemPlace)) (n : Nat), fuel = n + 1 ∧ x = (.agg (xs.map (·.1)), xs.flatMap (·.2)) ∧ cs.length = P.cellsOf t ∧ xs.length = c ∧
      ∀ (i : Nat), i < c → DataW.trod enc P w base spare held n e ((cs.drop (i * P.cellsOf e)).take (P.cellsOf e)) = xs[i]? := by
  cases fuel with
  | zero => simp [DataW.trod] at h
  | succ n =>
    have h' : (if cs.length = P.cellsOf t then ((List.range c).mapM fun i => DataW.trod enc P w base spare held n e ((cs.drop (i * P.cellsOf e)).take (P.cellsOf e))).map fun xs => (DataW.agg (xs.map (·.1)), xs.flatMap (·.2)) else none) = some x := by
      unfold DataW.trod at h
      rw [ht] at h
      exact h
    split at h'
    rotate_left
    · cases h'
    rename_i hl
    rw [Option.map_eq_some_iff] at h'
    obtain ⟨xs, hp, hd⟩ := h'
    have key : ∀ (l : List Nat) (xs : List (DataW H × List MemPlace)), l.mapM (fun i => DataW.trod enc P w base spare held n e ((cs.drop (i * P.cellsOf e)).take (P.cellsOf e))) = some xs →
        xs.length = l.length ∧ ∀ (i j : Nat), l[i]? = some j → DataW.trod enc P w base spare held n e ((cs.drop (j * P.cellsOf e)).take (P.cellsOf e)) = xs[i]? := by
      intro l
      induction l with
      | nil => intro xs h; simp at h; subst h; exact ⟨rfl, fun i j h => by simp at h⟩
      | cons a l ih =>
        intro xs h
        rw [List.mapM_cons] at h
        simp only [Option.bind_eq_bind, Option.bind_eq_some_iff] at h
        obtain ⟨y, hy, ys, hys, h⟩ := h
        simp at h
        subst h
        obtain ⟨h1, h2⟩ := ih ys hys
        refine ⟨by simp [h1], fun i j hij => ?_⟩
        cases i with
        | zero => simp at hij; subst hij; simpa using hy
        | succ i => simpa using h2 i j (by simpa using hij)
    obtain ⟨h1, h2⟩ := key _ xs hp
    exact ⟨xs, n, rfl, hd.symm, hl, by simpa using h1, fun i hi => h2 i i (by simp [hi])⟩

theorem reads_ok : ∀ (n : Nat), Reads enc P W n
  | 0 => fun k t cs x h _ q => by simp [DataW.trod] at h
  | n + 1 => fun k t cs x h hf q => by
    have ih : Reads enc P W n := reads_ok n
    cases k with
    | zero => cases hf
    | succ k =>
      simp only [flatB] at hf
      split at hf
      · rename_i ht
        obtain ⟨b, rfl, rfl⟩ := DataW.trod_bool ht h
        simp only [amOne]
        exact Fits.leaf (fun β => .bool b) rfl
      · rename_i ik ht
        obtain ⟨b, rfl, rfl, _⟩ := DataW.trod_int ht h
        simp only [amOne]
        exact Fits.leaf (fun β => .int ik b) rfl
      · rename_i fk ht
        obtain ⟨b, rfl, rfl, _⟩ := trod_float ht h
        simp only [amOne]
        exact Fits.leaf (fun β => .float fk b) rfl
      · rename_i ht
        obtain ⟨s, rfl, rfl, _⟩ := DataW.trod_string ht h
        have hs : (⟨s.data.toList.toArray⟩ : ByteArray) = s := by simp
        simp only [amOne, hs]
        exact Fits.leaf (fun β => .string s) rfl
      · rename_i e ht
        simp only [Bool.and_eq_true, decide_eq_true_eq] at hf
        rcases DataW.trod_slice ht h with ⟨rfl, rfl⟩ | ⟨a, len, cap, elems, rest, n', hn, rfl, rfl, _, hl, hm, hlen, hel, hsp, _⟩
        · simp only [amOne]
          exact Fits.leaf (fun β => .sliceNil) rfl
        · obtain rfl : n' = n := by omega
          obtain ⟨hrl, hr⟩ := hsp rfl
          have hes : P.cellsOf e = esz P e := rfl
          simp only [amOne, ht]
          by_cases hcap : cap = 0
          · have hl0 : len = 0 := by omega
            have he0 : elems = [] := List.length_eq_zero_iff.1 (by omega)
            subst hcap hl0 he0
            refine ⟨[⟨a.block, a.off, 0, esz P e⟩], by simp [amMany], fun β hβ => ⟨⟨?_, trivial⟩, fun y hy => by simp at hy; rw [hy]; rfl, fun j b hj => ?_⟩⟩
            · exact .sliceEmpty (hβ 0 _ rfl)
            · cases j <;> simp [amMany] at hj
          · -- the block is there
            have hfirst : ∃ css, W.cells? 0 (a.add (0 * P.cellsOf e)) (P.cellsOf e) = some css := by
              by_cases h0 : 0 < len
              · have := hel 0 h0
                rw [List.getElem?_eq_getElem (by omega), Option.bind_eq_some_iff] at this
                obtain ⟨css, h1, _⟩ := this
                exact ⟨css, h1⟩
              · have := hr 0 (by omega)
                rw [List.getElem?_eq_getElem (by omega), Option.bind_eq_some_iff] at this
                obtain ⟨css, h1, _⟩ := this
                refine ⟨css, ?_⟩
                rw [show len + 0 = 0 by omega] at h1
                exact h1
            have hlast : ∃ css, W.cells? 0 (a.add ((cap - 1) * P.cellsOf e)) (P.cellsOf e) = some css := by
              by_cases h0 : cap = len
              · have := hel (cap - 1) (by omega)
                rw [List.getElem?_eq_getElem (by omega), Option.bind_eq_some_iff] at this
                obtain ⟨css, h1, _⟩ := this
                exact ⟨css, h1⟩
              · have := hr (cap - 1 - len) (by omega)
                rw [List.getElem?_eq_getElem (by omega), Option.bind_eq_some_iff] at this
                obtain ⟨css, h1, _⟩ := this
                refine ⟨css, ?_⟩
                rw [show len + (cap - 1 - len) = cap - 1 by omega] at h1
                exact h1
            obtain ⟨c0, hc0⟩ := hfirst
            obtain ⟨_, hc0l, hc0g⟩ := World.cells?_some hc0
            have hz := hc0g 0 (by omega)
            have hadd0 : (a.add (0 * P.cellsOf e)).add 0 = a := by simp [Addr.add]
            rw [hadd0] at hz
            have hz0 : 0 < c0.length := by omega
            rw [List.getElem?_eq_getElem hz0] at hz
            have hblk : ∃ c te fr, W.heap[a.block]? = some (.cells c te fr) ∧ a.spot = none := by
              unfold World.cell? at hz
              split at hz
              · rename_i c te fr hb
                split at hz
                · cases hz
                · rename_i hs
                  exact ⟨c, te, fr, hb, by simpa using hs⟩
              · cases hz
            obtain ⟨c, te, fr, hb, hspot⟩ := hblk
            have hsize : a.off + cap * esz P e ≤ c.size := by
              obtain ⟨c1, hc1⟩ := hlast
              have h2 := cells_take hb hc1
              have h3 := (World.cells?_some hc1).2.1
              have h4 : c1.length ≤ c.toList.length - (a.off + (cap - 1) * P.cellsOf e) := by
                rw [h2, List.length_take, List.length_drop]; omega
              have h5 : cap * esz P e = (cap - 1) * P.cellsOf e + P.cellsOf e := by
                rw [← Nat.succ_mul, show (cap - 1).succ = cap by omega]
                rfl
              simp at h4
              omega
            obtain ⟨g, off, sp⟩ := a
            simp only at hspot hb hsize
            subst hspot
            have hm := many_fits ih hf.1 (a := ⟨g, off, none⟩) hb elems 0 (fun j hj => by
              have := hel j (by omega)
              simpa using this) (q + 1)
            simp only [Nat.zero_mul, Nat.add_zero] at hm
            obtain ⟨locs, hll, hk⟩ := hm
            refine ⟨⟨g, off, c.size, esz P e⟩ :: locs, by simp [hll], fun β hβ => ?_⟩
            have h0 := hβ 0 _ rfl
            obtain ⟨k1, k2, k3⟩ := hk β fun j L hj => by
              have := hβ (j + 1) L (by simpa using hj)
              rw [show q + 1 + j = q + (j + 1) by omega]; exact this
            refine ⟨⟨?_, trivial⟩, fun y hy => by simp at hy; rw [hy]; rfl, fun j b hj => ?_⟩
            · have := VRel.slice (β := β) (i := q) (off := 0) (n := elems.length) (c := cap) (L := ⟨g, off, c.size, esz P e⟩) (by simpa using h0) (by omega) (by simp only; omega)
              simpa [hlen] using this
            · cases j with
              | zero =>
                simp only [List.getElem?_cons_zero, Option.some.injEq] at hj
                split at hj
                · cases hj
                · obtain rfl := Option.some.inj hj
                  refine ⟨rfl, _, rfl, c, te, fr, hb, (fun h => by cases h), rfl, rfl, ?_, ?_, (fun h => by cases h)⟩
                  · have := (LRel.get k1).1
                    rw [this, List.length_take]
                    simp only
                    have : elems.length * P.cellsOf e ≤ cap * esz P e := Nat.mul_le_mul_right _ (by omega)
                    simp
                    omega
                  · intro i x hx
                    refine ⟨k2 x (List.mem_of_getElem? hx), ?_⟩
                    obtain ⟨h1, h2⟩ := LRel.get k1
                    have hi := (List.getElem?_eq_some_iff.1 hx).1
                    rw [h1] at hi
                    refine ⟨_, ?_, h2 i x _ hx (List.getElem?_eq_getElem hi)⟩
                    rw [List.getElem_take, List.getElem_drop]
                    simp only [Array.getElem_toList]
                    rw [Nat.add_comm]
                    exact Array.getElem?_eq_getElem _
              | succ j =>
                simp only [List.getElem?_cons_succ] at hj
                obtain ⟨o, L, hL, hB⟩ := k3 j b hj
                exact ⟨o, L, by simpa using hL, hB⟩
      · rename_i fs ht
        simp only [Bool.and_eq_true, List.all_eq_true] at hf
        obtain ⟨xs, n', hn, rfl, hl, hx, hg⟩ := DataW.trod_struct ht h
        obtain rfl : n' = n := by omega
        simp only [amOne, ht]
        have := parts_fits ih hl fs.toList xs 0 hf.2 hf.1 (by simpa using hx) (fun i f hi => hg i f (by simpa using hi)) q
        simpa using this
      · rename_i c e ht
        simp only [Bool.and_eq_true, decide_eq_true_eq] at hf
        obtain ⟨xs, n', hn, rfl, hl, hx, hg⟩ := trod_array ht h
        obtain rfl : n' = n := by omega
        simp only [amOne, ht]
        have := row_fits ih hf.1 (cs := cs) xs 0 (by rw [hl, hx]; rw [Nat.zero_add]; exact hf.2) (fun j hj => by simpa using hg j (by omega)) q
        simpa using this
      · cases hf
end
end Go.AM
