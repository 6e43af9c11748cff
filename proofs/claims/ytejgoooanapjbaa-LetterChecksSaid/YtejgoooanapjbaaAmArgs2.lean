/- The arguments of a law: all of them; what a run of the abstract machine then says of the machine's. -/
import Derived.Test.YtejgoooanapjbaaAmArgs
set_option linter.unusedSimpArgs false
set_option linter.unusedVariables false
namespace Go.AM
open Go

section
variable {H : Type} {enc : TypeId × Value → H} {P : Program} {W : World}

theorem trod_float {w : World} {base : Nat} {spare : Nat → Bool} {held : Bool} {fuel : Nat} {t : TypeId} {cs : List Value} {x : DataW H × List MemPlace} {k : FloatKind} (ht : P.underlying t = some (.float k)) (h : DataW.trod enc P w base spare held fuel t cs = some x) :
    ∃ n, cs = [.float k n] ∧ x = (.lit (.float k n), []) ∧ (Lit.float k n).wf = true := by
  cases fuel with
  | zero => simp [DataW.trod] at h
  | succ n =>
    unfold DataW.trod at h
    rw [ht] at h
    split at h <;> simp_all

theorem trod_array {w : World} {base : Nat} {spare : Nat → Bool} {held : Bool} {fuel : Nat} {t e : TypeId} {c : Nat} {cs : List Value} {x : DataW H × List MemPlace} (ht : P.underlying t = some (.array c e)) (h : DataW.trod enc P w base spare held fuel t cs = some x) :
    ∃ (xs : List (DataW H × List MemPlace)) (n : Nat), fuel = n + 1 ∧ x = (.agg (xs.map (·.1)), xs.flatMap (·.2)) ∧ cs.length = P.cellsOf t ∧ xs.length = c ∧
      ∀ (i : Nat), i < c → DataW.trod enc P w base spare held n e ((cs.drop (i * P.cellsOf e)).take (P.cellsOf e)) = xs[i]? := by
  cases fuel with
  | zero => simp [DataW.trod] at h
  | succ n =>
    have h' : (if cs.length = P.cellsOf t then ((List.range c).mapM fun i => DataW.trod enc P w base spare held n e ((cs.drop (i * P.cellsOf e)).take (P.cellsOf e))).map fun xs => (DataW.agg (xs.map (·.1)), xs.flatMap (·.2)) else none) = some x := by
      unfold DataW.trod at h
      rw [ht] at h
      exact h
    split at h'
    rotate_left
    · cases h'
    rename_i hl
    rw [Option.map_eq_some_iff] at h'
    obtain ⟨xs, hp, hd⟩ := h'
    have key : ∀ (l : List Nat) (xs : List (DataW H × List MemPlace)), l.mapM (fun i => DataW.trod enc P w base spare held n e ((cs.drop (i * P.cellsOf e)).take (P.cellsOf e))) = some xs →
        xs.length = l.length ∧ ∀ (i j : Nat), l[i]? = some j → DataW.trod enc P w base spare held n e ((cs.drop (j * P.cellsOf e)).take (P.cellsOf e)) = xs[i]? := by
      intro l
      induction l with
      | nil => intro xs h; simp at h; subst h; exact ⟨rfl, fun i j h => by simp at h⟩
      | cons a l ih =>
        intro xs h
        rw [List.mapM_cons] at h
        simp only [Option.bind_eq_bind, Option.bind_eq_some_iff] at h
        obtain ⟨y, hy, ys, hys, h⟩ := h
        simp at h
        subst h
        obtain ⟨h1, h2⟩ := ih ys hys
        refine ⟨by simp [h1], fun i j hij => ?_⟩
        cases i with
        | zero => simp at hij; subst hij; simpa using hy
        | succ i => simpa using h2 i j (by simpa using hij)
    obtain ⟨h1, h2⟩ := key _ xs hp
    exact ⟨xs, n, rfl, hd.symm, hl, by simpa using h1, fun i hi => h2 i i (by simp [hi])⟩

theorem reads_ok : ∀ (n : Nat), Reads enc P W n
  | 0 => fun k t cs x h _ q => by simp [DataW.trod] at h
  | n + 1 => fun k t cs x h hf q => by
    have ih : Reads enc P W n := reads_ok n
    cases k with
    | zero => cases hf
    | succ k =>
      simp only [flatB] at hf
      split at hf
      · rename_i ht
        obtain ⟨b, rfl, rfl⟩ := DataW.trod_bool ht h
        simp only [amOne]
        exact Fits.leaf (fun β => .bool b) rfl
      · rename_i ik ht
        obtain ⟨b, rfl, rfl, _⟩ := DataW.trod_int ht h
        simp only [amOne]
        exact Fits.leaf (fun β => .int ik b) rfl
      · rename_i fk ht
        obtain ⟨b, rfl, rfl, _⟩ := trod_float ht h
        simp only [amOne]
        exact Fits.leaf (fun β => .float fk b) rfl
      · rename_i ht
        obtain ⟨s, rfl, rfl, _⟩ := DataW.trod_string ht h
        have hs : (⟨s.data.toList.toArray⟩ : ByteArray) = s := by simp
        simp only [amOne, hs]
        exact Fits.leaf (fun β => .string s) rfl
      · rename_i e ht
        simp only [Bool.and_eq_true, decide_eq_true_eq] at hf
        rcases DataW.trod_slice ht h with ⟨rfl, rfl⟩ | ⟨a, len, cap, elems, rest, n', hn, rfl, rfl, _, hl, hm, hlen, hel, hsp, _⟩
        · simp only [amOne]
          exact Fits.leaf (fun β => .sliceNil) rfl
        · obtain rfl : n' = n := by omega
          obtain ⟨hrl, hr⟩ := hsp rfl
          have hes : P.cellsOf e = esz P e := rfl
          simp only [amOne, ht]
          by_cases hcap : cap = 0
          · have hl0 : len = 0 := by omega
            have he0 : elems = [] := List.length_eq_zero_iff.1 (by omega)
            subst hcap hl0 he0
            refine ⟨[⟨a.block, a.off, 0, esz P e⟩], by simp [amMany], fun β hβ => ⟨⟨?_, trivial⟩, fun y hy => by simp at hy; rw [hy]; rfl, fun j b hj => ?_⟩⟩
            · exact .sliceEmpty (hβ 0 _ rfl)
            · cases j <;> simp [amMany] at hj
          · -- the block is there
            have hfirst : ∃ css, W.cells? 0 (a.add (0 * P.cellsOf e)) (P.cellsOf e) = some css := by
              by_cases h0 : 0 < len
              · have := hel 0 h0
                rw [List.getElem?_eq_getElem (by omega), Option.bind_eq_some_iff] at this
                obtain ⟨css, h1, _⟩ := this
                exact ⟨css, h1⟩
              · have := hr 0 (by omega)
                rw [List.getElem?_eq_getElem (by omega), Option.bind_eq_some_iff] at this
                obtain ⟨css, h1, _⟩ := this
                refine ⟨css, ?_⟩
                rw [show len + 0 = 0 by omega] at h1
                exact h1
            have hlast : ∃ css, W.cells? 0 (a.add ((cap - 1) * P.cellsOf e)) (P.cellsOf e) = some css := by
              by_cases h0 : cap = len
              · have := hel (cap - 1) (by omega)
                rw [List.getElem?_eq_getElem (by omega), Option.bind_eq_some_iff] at this
                obtain ⟨css, h1, _⟩ := this
                exact ⟨css, h1⟩
              · have := hr (cap - 1 - len) (by omega)
                rw [List.getElem?_eq_getElem (by omega), Option.bind_eq_some_iff] at this
                obtain ⟨css, h1, _⟩ := this
                refine ⟨css, ?_⟩
                rw [show len + (cap - 1 - len) = cap - 1 by omega] at h1
                exact h1
            obtain ⟨c0, hc0⟩ := hfirst
            obtain ⟨_, hc0l, hc0g⟩ := World.cells?_some hc0
            have hz := hc0g 0 (by omega)
            have hadd0 : (a.add (0 * P.cellsOf e)).add 0 = a := by simp [Addr.add]
            rw [hadd0] at hz
            have hz0 : 0 < c0.length := by omega
            rw [List.getElem?_eq_getElem hz0] at hz
            have hblk : ∃ c te fr, W.heap[a.block]? = some (.cells c te fr) ∧ a.spot = none := by
              unfold World.cell? at hz
              split at hz
              · rename_i c te fr hb
                split at hz
                · cases hz
                · rename_i hs
                  exact ⟨c, te, fr, hb, by simpa using hs⟩
              · cases hz
            obtain ⟨c, te, fr, hb, hspot⟩ := hblk
            have hsize : a.off + cap * esz P e ≤ c.size := by
              obtain ⟨c1, hc1⟩ := hlast
              have h2 := cells_take hb hc1
              have h3 := (World.cells?_some hc1).2.1
              have h4 : c1.length ≤ c.toList.length - (a.off + (cap - 1) * P.cellsOf e) := by
                rw [h2, List.length_take, List.length_drop]; omega
              have h5 : cap * esz P e = (cap - 1) * P.cellsOf e + P.cellsOf e := by
                rw [← Nat.succ_mul, show (cap - 1).succ = cap by omega]
                rfl
              simp at h4
              omega
            obtain ⟨g, off, sp⟩ := a
            simp only at hspot hb hsize
            subst hspot
            have hm := many_fits ih hf.1 (a := ⟨g, off, none⟩) hb elems 0 (fun j hj => by
              have := hel j (by omega)
              simpa using this) (q + 1)
            simp only [Nat.zero_mul, Nat.add_zero] at hm
            obtain ⟨locs, hll, hk⟩ := hm
            refine ⟨⟨g, off, c.size, esz P e⟩ :: locs, by simp [hll], fun β hβ => ?_⟩
            have h0 := hβ 0 _ rfl
            obtain ⟨k1, k2, k3⟩ := hk β fun j L hj => by
              have := hβ (j + 1) L (by simpa using hj)
              rw [show q + 1 + j = q + (j + 1) by omega]; exact this
            refine ⟨⟨?_, trivial⟩, fun y hy => by simp at hy; rw [hy]; rfl, fun j b hj => ?_⟩
            · have := VRel.slice (β := β) (i := q) (off := 0) (n := elems.length) (c := cap) (L := ⟨g, off, c.size, esz P e⟩) (by simpa using h0) (by omega) (by simp only; omega)
              simpa [hlen] using this
            · cases j with
              | zero =>
                simp only [List.getElem?_cons_zero, Option.some.injEq] at hj
                split at hj
                · cases hj
                · obtain rfl := Option.some.inj hj
                  refine ⟨rfl, _, rfl, c, te, fr, hb, (fun h => by cases h), rfl, rfl, ?_, ?_, (fun h => by cases h)⟩
                  · have := (LRel.get k1).1
                    rw [this, List.length_take]
                    simp only
                    have : elems.length * P.cellsOf e ≤ cap * esz P e := Nat.mul_le_mul_right _ (by omega)
                    simp
                    omega
                  · intro i x hx
                    refine ⟨k2 x (List.mem_of_getElem? hx), ?_⟩
                    obtain ⟨h1, h2⟩ := LRel.get k1
                    have hi := (List.getElem?_eq_some_iff.1 hx).1
                    rw [h1] at hi
                    refine ⟨_, ?_, h2 i x _ hx (List.getElem?_eq_getElem hi)⟩
                    rw [List.getElem_take, List.getElem_drop]
                    simp only [Array.getElem_toList]
                    rw [Nat.add_comm]
                    exact Array.getElem?_eq_getElem _
              | succ j =>
                simp only [List.getElem?_cons_succ] at hj
                obtain ⟨o, L, hL, hB⟩ := k3 j b hj
                exact ⟨o, L, by simpa using hL, hB⟩
      · rename_i fs ht
        simp only [Bool.and_eq_true, List.all_eq_true] at hf
        obtain ⟨xs, n', hn, rfl, hl, hx, hg⟩ := DataW.trod_struct ht h
        obtain rfl : n' = n := by omega
        simp only [amOne, ht]
        have := parts_fits ih hl fs.toList xs 0 hf.2 hf.1 (by simpa using hx) (fun i f hi => hg i f (by simpa using hi)) q
        simpa using this
      · rename_i c e ht
        simp only [Bool.and_eq_true, decide_eq_true_eq] at hf
        obtain ⟨xs, n', hn, rfl, hl, hx, hg⟩ := trod_array ht h
        obtain rfl : n' = n := by omega
        simp only [amOne, ht]
        have := row_fits ih hf.1 (cs := cs) xs 0 (by rw [hl, hx]; rw [Nat.zero_add]; exact hf.2) (fun j hj => by simpa using hg j (by omega)) q
        simpa using this
      · cases hf
end
end Go.AM
