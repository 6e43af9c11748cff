/- What the abstract machine does in one operation, the machine does: conversions, copy; all operations. -/
import Derived.Test.YtbnmmfgidbhpeaaAmSound6
set_option linter.unusedSimpArgs false
set_option linter.unusedVariables false
set_option linter.unusedSimpArgs false
set_option linter.unusedVariables false
namespace Go.AM
open Go
variable {P : Program} {β : Ren} {m : Mem} {w : World}

theorem freeze_push (w : World) (c : Array Value) (e : TypeId) (k : Nat) :
    (({ w with heap := w.heap.push (.cells c e) } : World).freeze ⟨w.heap.size, k, none⟩ 1).heap = w.heap.push (.cells c e (k, k + 1)) := by
  unfold World.freeze
  rw [if_neg (by decide)]
  apply Array.ext
  · simp
  · intro i h1 h2
    simp only [Array.getElem_modify, Array.getElem_push]
    by_cases h : w.heap.size = i
    · subst h
      simp
    · have hi : i < w.heap.size := by simp at h1; omega
      simp [h, hi]

/-- A block's marks, set behind its end. -/
theorem post_freeze {i : Nat} {cs : List Value} {e : TypeId} {L : Loc} {c : Array Value} {fr : Nat × Nat} (W : WRel P β m w) (hm : m.get i = some (.cells cs e true)) (hL : β i = some L)
    (hc : w.heap[L.g]? = some (.cells c e fr)) : Post P β m w m β (w.freeze ⟨L.g, c.size, none⟩ 1) := by
  obtain ⟨c0, fr0, h1, h2, h3, h4, h5, h6⟩ := W.cells hm hL
  rw [hc] at h1
  obtain ⟨rfl, -, rfl⟩ : c = c0 ∧ e = e ∧ fr = fr0 := by injection h1 with h1; injection h1 with a b d; exact ⟨a, rfl, d⟩
  have hlt : L.g < w.heap.size := W.dom i _ L hm hL
  have hget : ∀ k, (w.freeze ⟨L.g, c.size, none⟩ 1).heap[k]? = if k = L.g then some (.cells c e (if fr.1 == fr.2 then (c.size, c.size + 1) else (min fr.1 c.size, max fr.2 (c.size + 1)))) else w.heap[k]? := by
    intro k
    unfold World.freeze
    rw [if_neg (by decide)]
    simp only [Array.getElem?_modify]
    by_cases h : k = L.g
    · subst h
      simp only [if_true, hc, Option.map_some]
    · rw [if_neg h, if_neg (fun e => h e.symm)]
  have hsz : (w.freeze ⟨L.g, c.size, none⟩ 1).heap.size = w.heap.size := by
    unfold World.freeze
    rw [if_neg (by decide)]
    simp
  have hrest : (w.freeze ⟨L.g, c.size, none⟩ 1).os = w.os ∧ (w.freeze ⟨L.g, c.size, none⟩ 1).tape = w.tape ∧ (w.freeze ⟨L.g, c.size, none⟩ 1).output = w.output := by
    unfold World.freeze
    rw [if_neg (by decide)]
    exact ⟨rfl, rfl, rfl⟩
  refine ⟨⟨?_, W.inj, fun j b L' hj hL' => by rw [hsz]; exact W.dom j b L' hj hL', W.fresh⟩, ⟨hrest.1, hrest.2.1, hrest.2.2, by rw [hsz]; exact Nat.le_refl _, fun g hg hn => ?_⟩, Nat.le_refl _, fun _ _ => rfl, fun _ _ _ => rfl, fun j b _ h h' => ⟨b, h, h'⟩, fun j L' h7 h8 => absurd h8 (by omega)⟩
  · intro j b L' hj hL'
    rw [hget]
    by_cases hg : L'.g = L.g
    · rw [if_pos hg]
      obtain rfl := W.inj j i b _ L' L hj hm hL' hL hg (.inr rfl)
      rw [hm] at hj
      obtain rfl := Option.some.inj hj
      rw [hL] at hL'
      obtain rfl := Option.some.inj hL'
      refine ⟨c, e, _, rfl, fun _ => rfl, h2, h3, h4, h5, fun _ => ?_⟩
      by_cases hlh : fr.1 = fr.2
      · simp [hlh]
      · rcases h6 rfl with h | h
        · exact absurd h hlh
        · simp [hlh]; omega
    · rw [if_neg hg]
      exact W.blk j b L' hj hL'
  · rw [hget, if_neg]
    intro e'
    exact hn i _ L hm rfl hL e'.symm

theorem push_all : ∀ (ns : List Int) (acc : ByteArray), (ns.foldl (fun r n => r.push (UInt8.ofNat n.toNat)) acc).data = acc.data ++ (ns.map fun n => UInt8.ofNat n.toNat).toArray
  | [], acc => by simp
  | n :: r, acc => by
    rw [List.foldl_cons, push_all r]
    simp [ByteArray.push]

theorem LRel.of_arel {cs : List Value} {vs : Array Value} (h : ARel β cs.toArray vs) : LRel β cs vs.toList :=
  LRel.of (by simpa using h.size) fun i x v h1 h2 => h.has i x v (by simpa using h1) (by simpa using h2)

theorem opConvert_rel {src dst : TypeId} {a u x : Value} {m' : Mem} (W : WRel P β m w) (hF : Free β m m') (ha : VRel β a u) (e : opConvert P src dst a m = some (x, m')) :
    ∃ z w' β', (convert src dst u).run P w = .ok z w' ∧ VRel β' x z ∧ Post P β m w m' β' w' := by
  unfold opConvert at e
  split at e
  · rename_i d k k0 n hs hd
    obtain ⟨rfl, rfl⟩ := Prod.mk.inj (Option.some.inj e)
    cases ha
    exact ⟨.int k (k.wrap n), w, β, by simp [convert, run_underlying hs, run_underlying hd, Conv.intToInt], .int _ _, Post.refl W⟩
  · rename_i d s hs hd
    obtain ⟨rfl, rfl⟩ := Prod.mk.inj (Option.some.inj e)
    cases ha
    exact ⟨.string s, w, β, by simp [convert, run_underlying hs, run_underlying hd], .string _, Post.refl W⟩
  · rename_i el s hs hd
    split at e
    · rename_i he
      split at e
      · rename_i hh
        obtain ⟨rfl, rfl⟩ := Prod.mk.inj (Option.some.inj e)
        cases ha
        have hA := bytesRow_rel (β := β) s
        have hff : (Question.appendCap s.size 0 el).forced = false := rfl
        let cap := (Question.appendCap s.size 0 el).cut (w.tape w.drawn (Question.appendCap s.size 0 el))
        have hcap : s.size ≤ cap := by simp [cap, Question.cut]
        let row : Array Value := (s.data.map fun c => Value.int .u8 c.toNat) ++ Array.replicate (cap - s.size) (.int .u8 0)
        have hrs : row.size = cap := by
          have : s.data.size = s.size := rfl
          simp [row]; omega
        refine ⟨.slice (some ⟨w.heap.size, 0, none⟩) s.size cap, ({ w.drew with heap := w.heap.push (.cells row el) } : World).freeze ⟨w.heap.size, row.size, none⟩ 1, _, ?_, ?_,
          post_new (L := ⟨w.heap.size, 0, row.size, esz P el⟩) (b := .cells (cellsOfBytes s) el true) (o := .cells row el (row.size, row.size + 1)) W (Sub.refl m) (fun _ _ _ => rfl) (hF _ (Nat.le_refl _) (by simp [Mem.new])) rfl (freeze_push w.drew row el row.size) rfl rfl rfl ⟨row, _, (row.size, row.size + 1), rfl, fun _ => rfl, rfl, rfl, by have := hA.size; simp at this; simp [row]; omega, CRel.appended hA, fun _ => .inr (Nat.le_refl _)⟩⟩
        · have hsh : ({ w.drew with heap := w.heap.push (.cells row el) } : World).shape? w.heap.size = some (el, row.size) := by simp [World.shape?]
          simp only [convert, Sem.run_bind, run_underlying hs, run_underlying hd, Result.andThen_ok, run_underlying he, Conv.stringToBytes]
          simp only [choose, Sem.run, hff, Bool.false_eq_true, if_false, Result.andThen_ok]
          simp only [newRow, newObj, Sem.run_bind, Sem.run, Result.andThen_ok, Sem.run_pure, markStringish, shape, freeze]
          simp only [World.shape?, Array.getElem?_push_size, Sem.run, Result.andThen_ok]
          rfl
        · have := VRel.slice (β := β.add m.next ⟨w.heap.size, 0, row.size, esz P el⟩) (off := 0) (n := s.size) (c := cap) (Ren.add_self β m.next _) hcap (by simp [tsize_esz hh.2]; omega)
          simpa [tsize_esz hh.2] using this
      · cases e
    · cases e
  · rename_i e0 el i off n z hs hd
    split at e
    · rename_i cs e1 hsd he hm
      split at e
      · rename_i hn
        obtain ⟨rfl, rfl⟩ := Prod.mk.inj (Option.some.inj e)
        cases ha with
        | sliceEmpty hL => omega
        | slice hL hnc hc =>
          rename_i c L
          obtain ⟨c0, fr, h4, h5, h6, h7, h8, h9⟩ := W.cells hm hL
          refine ⟨.slice (some ⟨L.g, off + L.sh, none⟩) n c, _, β, ?_, .slice hL hnc hc, post_freeze W hm hL h4⟩
          have hsh : w.shape? L.g = some (e1, c0.size) := by simp [World.shape?, h4]
          simp [convert, run_underlying hs, run_underlying hd, run_underlying he, hsd, markStringish, hsh]
      · cases e
    · cases e
  · rename_i el a n z hs hd
    split at e
    · rename_i he
      split at e
      · rename_i cs hcs
        split at e
        · rename_i l hl
          obtain ⟨rfl, rfl⟩ := Prod.mk.inj (Option.some.inj e)
          obtain ⟨vs, hvs, r, hsz⟩ := shown_rel W (Nat.le_refl _) ha hcs
          obtain ⟨ns, hns, rfl⟩ := bytes_rel (LRel.of_arel r) hl
          have hst : ∀ s : ByteArray, s.data = (ns.map fun n => UInt8.ofNat n.toNat).toArray → s = ⟨(ns.map fun n => UInt8.ofNat n.toNat).toArray⟩ := fun s h => by cases s; simp_all
          have hfold := hst (ns.foldl (fun r n => r.push (UInt8.ofNat n.toNat)) ByteArray.empty) (by rw [push_all]; simp)
          have hvs' : vs = (ns.map (Value.int .u8)).toArray := by rw [← hns]
          cases ha with
          | sliceNil =>
            have : ns = [] := by
              have : ns.length = 0 := by rw [hvs'] at hsz; simpa using hsz
              simpa using this
            subst this
            exact ⟨.string .empty, w, β, by simp [convert, run_underlying hs, run_underlying hd, run_underlying he, Conv.bytesToString], by rw [← hfold]; exact .string _, Post.refl W⟩
          | sliceEmpty hL =>
            rename_i i off a' L
            have h1 := hvs w rfl
            simp only [Builtin.firstCells, Nat.mul_one] at h1
            rw [hvs'] at h1
            refine ⟨.string (ns.foldl (fun r n => r.push (UInt8.ofNat n.toNat)) ByteArray.empty), w, β, ?_, ?_, Post.refl W⟩
            · rw [run_convert_bytes_string w src dst el (some a') 0 0 hs he hd]
              exact run_bytesToString w a' 0 0 ns h1
            · rw [hfold]; exact .string _
          | slice hL hnc hc =>
            rename_i i off c L
            have h1 := hvs w rfl
            simp only [Builtin.firstCells, Nat.mul_one] at h1
            rw [hvs'] at h1
            refine ⟨.string (ns.foldl (fun r n => r.push (UInt8.ofNat n.toNat)) ByteArray.empty), w, β, ?_, ?_, Post.refl W⟩
            · rw [run_convert_bytes_string w src dst el (some ⟨L.g, off + L.sh, none⟩) n c hs he hd]
              exact run_bytesToString w _ n c ns h1
            · rw [hfold]; exact .string _
        · cases e
      · cases e
    · cases e
  · cases e

theorem opCopy_rel {ts : List TypeId} {xs vs : List Value} {x : Value} {m' : Mem} {ty : TypeId} (W : WRel P β m w) (hl : LRel β xs vs) (e : opCopy P ts xs m = some (x, m')) :
    ∃ z w', (Builtin.copy_ ts.toArray ty vs.toArray).run P w = .ok z w' ∧ VRel β x z ∧ Post P β m w m' β w' := by
  unfold opCopy at e
  split at e
  · rename_i st tr i off n q a k r
    match vs, hl with
    | [u, v], ⟨hu', hv', _⟩ =>
    split at e
    · rename_i el hu
      split at e
      · rename_i s cs e' hs hm
        split at e
        · rename_i new hnew
          obtain ⟨vs, hvs, hA, hsz⟩ := shown_rel W (Nat.min_le_left _ _) hv' hnew
          have hlen : (Builtin.lenOf v).run P w = .ok k w := by cases hv' <;> simp [Builtin.lenOf]
          have hrun : ∀ (A : Addr) (n' c : Nat), n' = n → (Builtin.copy_ (st :: tr).toArray ty [Value.slice (some A) n' c, v].toArray).run P w =
              ((storeCells A vs.toList).run P w).andThen fun _ w' => .ok (.int .i64 (min k n : Nat)) w' := by
            rintro A n' c rfl
            have h1 := hvs w rfl
            simp only [Builtin.copy_, Sem.run_bind, List.getElem?_toArray, List.getElem?_cons_zero, List.getElem?_cons_succ, run_underlying hu, Result.andThen_ok, hlen, run_tsize hs]
            have h2 : (Builtin.firstCells s (k.min n') v).run P w = .ok vs w := h1
            simp only [h2, Result.andThen_ok, Sem.run_bind, Sem.run_pure, goInt]
          split at e
          · rename_i h0
            obtain ⟨rfl, rfl⟩ := Prod.mk.inj (Option.some.inj e)
            have hnil : vs.toList = [] := by
              have : vs.size = 0 := by rw [hsz, h0, Nat.zero_mul]
              simpa using this
            refine ⟨.int .i64 (min k n : Nat), w, ?_, .int _ _, Post.refl W⟩
            cases hu' with
            | sliceEmpty hL =>
              rw [hrun _ 0 0 rfl, hnil]
              simp [storeCells]
            | slice hL hn hc =>
              rw [hrun _ n _ rfl, hnil]
              simp [storeCells]
          · rename_i h0
            split at e
            · rename_i hh
              obtain ⟨rfl, rfl, hend⟩ := hh
              obtain ⟨rfl, rfl⟩ := Prod.mk.inj (Option.some.inj e)
              cases hu' with
              | sliceEmpty hL => exact absurd (Nat.min_zero _) h0
              | slice hL hn hc =>
                rename_i c L
                obtain ⟨c0, fr, h4, h5, h6, h7, h8, h9⟩ := W.cells hm hL
                have hnl : new.length = vs.size := by simpa using hA.size
                have hle : min k n * L.sz ≤ n * L.sz := Nat.mul_le_mul_right _ (Nat.min_le_right _ _)
                have hfit : off + new.length ≤ cs.length := by omega
                have hset := CRel.set (vs := vs.toList) h8 h7 (xs := new) (by simpa using hA) hfit
                have hst := run_store_row (P := P) vs.toList (off + L.sh) 0 c0 w h4 (by simp; omega) (unfrozen (h9 rfl)) (fun y hy => by
                  obtain ⟨j, hj⟩ := List.mem_iff_getElem?.1 hy
                  have hj' : vs[j]? = some y := by simpa using hj
                  have hlt : j < new.length := by
                    rw [hnl]
                    rcases Nat.lt_or_ge j vs.size with h' | h'
                    · exact h'
                    · rw [Array.getElem?_eq_none h'] at hj'; cases hj'
                  have hx : new.toArray[j]? = some new[j] := by simp [hlt]
                  have r := hA.has j new[j] y hx hj'
                  rw [r.okCell]
                  exact hA.ok j _ hx)
                refine ⟨.int .i64 (min k n : Nat), _, ?_, .int _ _, post_set W hm hL h4 (c1 := (c0.toList.take (off + L.sh) ++ vs.toList ++ c0.toList.drop (off + L.sh + vs.toList.length)).toArray) hset.2.2 (by rw [hset.2.1, hset.2.2]; exact h7) hset.1⟩
                rw [hrun _ n _ rfl, hst]
                simp
            · cases e
        · cases e
      · cases e
    · cases e
  · cases e

/-- An operation that calls no function of the program. -/
theorem evOp_ok {N : Nat} {env : Env} {a : Act} {o : Oper} {x : Value} {m' : Mem} (E : ERel β N env a) (W : WRel P β m w) (hF : Free β m m') (e : evOp P env o.op m = some (x, m')) :
    OpOk P β m w x m' ((execOp a.eval o).run P w) := by
  have one : ∀ {s : Sem Value} {v : Value}, (execOp a.eval o = do pure (.value (← s))) → s.run P w = .ok v w → VRel β x v → m = m' → OpOk P β m w x m' ((execOp a.eval o).run P w) := by
    rintro s v h1 h2 h3 rfl
    exact .same W (by rw [h1]; simp [h2]) h3
  have kp : ∀ {v : Option Value}, keep m v = some (x, m') → v = some x ∧ m = m' := by
    intro v h
    unfold keep at h
    split at h
    · obtain ⟨rfl, rfl⟩ := Prod.mk.inj (Option.some.inj h); exact ⟨rfl, rfl⟩
    · cases h
  unfold evOp at e
  split at e
  · rename_i y ho
    obtain ⟨h1, rfl⟩ := kp e
    exact .same W (by simp [execOp, ho]) (ev1_rel E h1)
  · rename_i y ho
    obtain ⟨h1, rfl⟩ := kp e
    exact .same W (by simp [execOp, ho]) (ev1_rel E h1)
  · rename_i c y z ho
    split at e
    · rename_i hc
      obtain ⟨h1, rfl⟩ := kp e
      have hr := ev1_rel E hc
      generalize hg : a.eval c = u at hr
      cases hr
      exact .same W (by simp [execOp, ho, hg, asBool]) (ev1_rel E h1)
    · rename_i hc
      obtain ⟨h1, rfl⟩ := kp e
      have hr := ev1_rel E hc
      generalize hg : a.eval c = u at hr
      cases hr
      exact .same W (by simp [execOp, ho, hg, asBool]) (ev1_rel E h1)
    · cases e
  · rename_i t ho
    obtain ⟨v, w', β', h1, h2, h3⟩ := opAlloc_rel W hF e
    exact ⟨v, w', β', .inl (by simp [execOp, ho, h1]), h2, h3⟩
  · rename_i t y ho
    split at e
    · rename_i u hu
      obtain ⟨v, w', β', h1, h2, h3⟩ := opBox_rel W hF (ev1_rel E hu) e
      exact ⟨v, w', β', .inl (by simp [execOp, ho, h1]), h2, h3⟩
    · cases e
  · rename_i t parts ho
    split at e
    · rename_i us hus
      obtain ⟨h1, rfl⟩ := kp e
      obtain ⟨v, h2, h3⟩ := opBuild_rel (w := w) (evParts_rel E hus) h1
      refine .same W ?_ h3
      have hp : (parts.map fun (i, x) => (i, a.eval x)) = (parts.toList.map fun (i, x) => (i, a.eval x)).toArray := by apply Array.ext'; simp
      simp only [execOp, ho]
      rw [hp]
      simp [h2]
    · cases e
  · rename_i t len parts ho
    split at e
    · rename_i us hus
      obtain ⟨v, w', β', h1, h2, h3⟩ := opBuildSlice_rel W hF (evParts_rel E hus) e
      refine ⟨v, w', β', .inl ?_, h2, h3⟩
      have hp : (parts.map fun (i, x) => (i, a.eval x)) = (parts.toList.map fun (i, x) => (i, a.eval x)).toArray := by apply Array.ext'; simp
      simp only [execOp, ho]
      rw [hp]
      simp [h1]
    · cases e
  · rename_i t y ho
    split at e
    · rename_i u hu
      obtain ⟨h1, rfl⟩ := kp e
      obtain ⟨v, h2, h3⟩ := opLoad_rel W (ev1_rel E hu) h1
      exact .same W (by simp [execOp, ho, h2]) h3
    · cases e
  · rename_i t y z ho
    split at e
    · rename_i u v hu hv
      split at e
      · rename_i m1 hm1
        obtain ⟨rfl, rfl⟩ := Prod.mk.inj (Option.some.inj e)
        obtain ⟨w', h1, h2⟩ := opStore_rel W (ev1_rel E hu) (ev1_rel E hv) hm1
        exact ⟨undef, w', β, .inr ⟨by simp [execOp, ho, h1], rfl⟩, .tuple rfl (fun i x x' h => by simp at h), h2⟩
      · cases e
    · cases e
  · rename_i y ho
    split at e
    · rename_i p hp
      obtain ⟨rfl, rfl⟩ := Prod.mk.inj (Option.some.inj e)
      have hr := ev1_rel E hp
      have hr0 := hr
      generalize hg : a.eval y = u at hr
      cases hr
      exact .same W (v := a.eval y) (by simp [execOp, ho, hg]) hr0
    · rename_i f b c hp
      obtain ⟨rfl, rfl⟩ := Prod.mk.inj (Option.some.inj e)
      have hr := ev1_rel E hp
      have hr0 := hr
      generalize hg : a.eval y = u at hr
      cases hr
      exact .same W (v := a.eval y) (by simp [execOp, ho, hg]) hr0
    · cases e
  · rename_i op t y z ty ho
    split at e
    · rename_i u v hu hv
      obtain ⟨h1, rfl⟩ := kp e
      obtain ⟨r, h2, h3⟩ := binV_rel (P := P) (w := w) (X := y) (Y := z) (ev1_rel E hu) (ev1_rel E hv) h1
      refine .same W ?_ h3
      simp only [execOp, ho]
      rw [Sem.run_bind, h2]
      rfl
    · cases e
  · rename_i op t y ho
    split at e
    · rename_i u hu
      obtain ⟨h1, rfl⟩ := kp e
      obtain ⟨r, h2, h3⟩ := unV_rel (P := P) (w := w) (ev1_rel E hu) h1
      exact .same W (by simp [execOp, ho, h2]) h3
    · cases e
  · rename_i src dst y ho
    split at e
    · rename_i u hu
      obtain ⟨v, w', β', h1, h2, h3⟩ := opConvert_rel W hF (ev1_rel E hu) e
      exact ⟨v, w', β', .inl (by simp [execOp, ho, h1]), h2, h3⟩
    · cases e
  · rename_i t y lo hi ho
    split at e
    · rename_i u l h hu hl hh
      obtain ⟨h1, rfl⟩ := kp e
      obtain ⟨r, h2, h3⟩ := opSlice_rel (P := P) (w := w) (ev1_rel E hu) (evOpt_rel E hl) (evOpt_rel E hh) h1
      exact .same W (by simp [execOp, ho, h2]) h3
    · cases e
  · rename_i s y f ho
    split at e
    · rename_i u hu
      obtain ⟨h1, rfl⟩ := kp e
      obtain ⟨r, h2, h3⟩ := opFieldAddr_rel (P := P) (w := w) (ev1_rel E hu) h1
      exact .same W (by simp [execOp, ho, h2]) h3
    · cases e
  · rename_i s y f ho
    split at e
    · rename_i u hu
      obtain ⟨h1, rfl⟩ := kp e
      obtain ⟨r, h2, h3⟩ := opField_rel (P := P) (w := w) (ev1_rel E hu) h1
      exact .same W (by simp [execOp, ho, h2]) h3
    · cases e
  · rename_i t y z ho
    split at e
    · rename_i u v hu hv
      obtain ⟨h1, rfl⟩ := kp e
      obtain ⟨r, h2, h3⟩ := opIndexAddr_rel (P := P) (w := w) (ev1_rel E hu) (ev1_rel E hv) h1
      exact .same W (by simp [execOp, ho, h2]) h3
    · cases e
  · rename_i t y z ho
    split at e
    · rename_i u v hu hv
      obtain ⟨h1, rfl⟩ := kp e
      obtain ⟨r, h2, h3⟩ := opIndex_rel (P := P) (w := w) (ev1_rel E hu) (ev1_rel E hv) h1
      exact .same W (by simp [execOp, ho, h2]) h3
    · cases e
  · rename_i t y z ho
    split at e
    · rename_i u v hu hv
      obtain ⟨v, w', β', h1, h2, h3⟩ := opMakeSlice_rel W hF (ev1_rel E hu) (ev1_rel E hv) e
      exact ⟨v, w', β', .inl (by simp [execOp, ho, h1]), h2, h3⟩
    · cases e
  · rename_i y i ho
    split at e
    · rename_i vs hu
      obtain ⟨h1, rfl⟩ := kp e
      have hr := ev1_rel E hu
      generalize hg : a.eval y = u at hr
      cases hr with
      | tuple hs h =>
        rename_i cs'
        have hi : i < vs.size := by
          rcases Nat.lt_or_ge i vs.size with h' | h'
          · exact h'
          · rw [Array.getElem?_eq_none h'] at h1; cases h1
        have hi' : i < cs'.size := hs ▸ hi
        exact .same W (by simp [execOp, ho, hg, Instr.extract, hi']) (h i x cs'[i] h1 (Array.getElem?_eq_getElem hi'))
    · cases e
  · rename_i f first captured ho
    split at e
    · rename_i hfirst
      split at e
      · rename_i us hus
        obtain ⟨rfl, rfl⟩ := Prod.mk.inj (Option.some.inj e)
        have hr := evs_rel E hus
        have h0 : first = #[] := by simpa using hfirst
        subst h0
        obtain ⟨hl, hg⟩ := LRel.get hr
        refine .same W (v := .func (.func f) #[] (captured.map a.eval)) (by simp [execOp, ho, Instr.makeFunc]) (.func (by simpa using hl) fun i x x' h1 h2 => hg i x x' (by simpa using h1) (by simpa using h2))
      · cases e
    · cases e
  · cases e
end Go.AM
