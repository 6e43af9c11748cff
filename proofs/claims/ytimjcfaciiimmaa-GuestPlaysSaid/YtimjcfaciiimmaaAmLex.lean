/- Tokens of a text: the plain law. -/
import Derived.Test.YtimjcfaciiimmaaAmOwn
import Derived.Test.YtimjcfaciiimmaaAmCrc
set_option linter.unusedSimpArgs false
set_option linter.unusedVariables false
namespace Go.AM.Lex
open Go Go.AM.Crc

def letterB (c : Int) : Bool := decide (97 ≤ c) && decide (c ≤ 122) || decide (65 ≤ c) && decide (c ≤ 90)
def digitB (c : Int) : Bool := decide (48 ≤ c) && decide (c ≤ 57)
def blankB (c : Int) : Bool := decide (c = 32) || decide (c = 9) || decide (c = 10)
def signsL : List Int := [123, 125, 40, 41, 91, 93, 61, 58, 59, 44]
def signB (c : Int) : Bool := signsL.contains c
def wordB (c : Int) : Bool := letterB c || digitB c
def noteB (c : Int) : Bool := decide (c ≠ 10)

/-- How many bytes at the front are so. -/
def span (p : Int → Bool) : List Int → Nat
  | [] => 0
  | c :: r => if p c then span p r + 1 else 0
theorem span_le (p : Int → Bool) : ∀ l : List Int, span p l ≤ l.length
  | [] => Nat.le_refl _
  | c :: r => by
    rw [span, List.length_cons]
    split
    · have := span_le p r; omega
    · omega

/-- A token: its kind, where it begins, its text. -/
structure Tk where
  kind : Int
  pos : Nat
  text : List Int
deriving DecidableEq
abbrev Err := Option (Nat × Int)
abbrev Out := List Tk × Err
def Out.pre (t : Tk) (o : Out) : Out := (t :: o.1, o.2)

/-- The tokens of bytes that begin at place i; an error, and where. -/
def scan : Nat → Nat → List Int → Out
  | 0, _, _ => ([], none)
  | _ + 1, _, [] => ([], none)
  | k + 1, i, c :: r =>
    if blankB c then scan k (i + 1) r else
    if c = 35 then scan k (i + 1 + span noteB r) (r.drop (span noteB r)) else
    if letterB c then Out.pre ⟨1, i, c :: r.take (span wordB r)⟩ (scan k (i + 1 + span wordB r) (r.drop (span wordB r))) else
    if digitB c then (if 10 < 1 + span digitB r ∨ (c = 48 ∧ 0 < span digitB r) then ([], some (i, 22)) else
      Out.pre ⟨2, i, c :: r.take (span digitB r)⟩ (scan k (i + 1 + span digitB r) (r.drop (span digitB r)))) else
    if signB c then Out.pre ⟨3, i, [c]⟩ (scan k (i + 1) r) else ([], some (i, 13))
/-- With as much fuel as there are bytes, or more, the same. -/
theorem scan_more : ∀ (k n i : Nat) (l : List Int), l.length ≤ k → k ≤ n → scan n i l = scan k i l
  | 0, n, i, l, h, _ => by
    have : l = [] := List.eq_nil_of_length_eq_zero (by omega)
    subst this
    cases n <;> rfl
  | k + 1, 0, i, l, h, hn => by omega
  | k + 1, n + 1, i, [], h, hn => rfl
  | k + 1, n + 1, i, c :: r, h, hn => by
    rw [List.length_cons] at h
    have a : ∀ j i, scan n i (r.drop j) = scan k i (r.drop j) := fun j i => scan_more k n i _ (by rw [List.length_drop]; omega) (by omega)
    have b := a 0
    rw [List.drop_zero] at b
    simp only [scan, a, b]
def tokens (i : Nat) (l : List Int) : Out := scan l.length i l
theorem scan_tokens {k i : Nat} {l : List Int} (h : l.length ≤ k) : scan k i l = tokens i l := scan_more _ _ _ _ (Nat.le_refl _) h
theorem tokens_nil (i : Nat) : tokens i [] = ([], none) := rfl
theorem tokens_cons (i c) (r : List Int) : tokens i (c :: r) =
    if blankB c then tokens (i + 1) r else
    if c = 35 then tokens (i + 1 + span noteB r) (r.drop (span noteB r)) else
    if letterB c then Out.pre ⟨1, i, c :: r.take (span wordB r)⟩ (tokens (i + 1 + span wordB r) (r.drop (span wordB r))) else
    if digitB c then (if 10 < 1 + span digitB r ∨ (c = 48 ∧ 0 < span digitB r) then ([], some (i, 22)) else
      Out.pre ⟨2, i, c :: r.take (span digitB r)⟩ (tokens (i + 1 + span digitB r) (r.drop (span digitB r)))) else
    if signB c then Out.pre ⟨3, i, [c]⟩ (tokens (i + 1) r) else ([], some (i, 13)) := by
  have a : ∀ j i, scan r.length i (r.drop j) = tokens i (r.drop j) := fun j i => scan_tokens (by rw [List.length_drop]; omega)
  have b := a 0
  rw [List.drop_zero] at b
  show scan (r.length + 1) i (c :: r) = _
  simp only [scan, a, b]

theorem span_append {p : Int → Bool} {b : Int} (hb : p b = false) : ∀ (xs ys : List Int), span p (xs ++ b :: ys) = span p xs
  | [], ys => by simp [span, hb]
  | c :: r, ys => by
    rw [List.cons_append, span, span, span_append hb r ys]
theorem span_all {p : Int → Bool} : ∀ {l : List Int}, (∀ c ∈ l, p c = true) → span p l = l.length
  | [], _ => rfl
  | c :: r, h => by rw [span, if_pos (h c (by simp)), span_all fun x hx => h x (by simp [hx]), List.length_cons]

/-- Behind a line's end tokens are as they are alone. -/
theorem tokens_join : ∀ (n : Nat) (xs ys : List Int) (i : Nat), xs.length ≤ n → tokens i (xs ++ 10 :: ys) =
    if (tokens i xs).2.isSome then tokens i xs else ((tokens i xs).1 ++ (tokens (i + xs.length + 1) ys).1, (tokens (i + xs.length + 1) ys).2)
  | n, [], ys, i, h => by
    rw [List.nil_append, tokens_cons, if_pos (by decide), tokens_nil]
    simp
  | 0, c :: r, ys, i, h => by simp at h
  | n + 1, c :: r, ys, i, h => by
    rw [List.length_cons] at h
    have n1 : noteB 10 = false := by decide
    have n2 : wordB 10 = false := by decide
    have n3 : digitB 10 = false := by decide
    have dr : ∀ p : Int → Bool, (r ++ 10 :: ys).drop (span p r) = r.drop (span p r) ++ 10 :: ys := fun p => by
      rw [List.drop_append_of_le_length (span_le p r)]
    have tk : ∀ p : Int → Bool, (r ++ 10 :: ys).take (span p r) = r.take (span p r) := fun p => by
      rw [List.take_append_of_le_length (span_le p r)]
    have ih : ∀ p : Int → Bool, ∀ i, tokens i (r.drop (span p r) ++ 10 :: ys) = _ := fun p i => tokens_join n (r.drop (span p r)) ys i (by rw [List.length_drop]; omega)
    have ih0 := fun i => tokens_join n r ys i (by omega)
    have ln : ∀ p : Int → Bool, ∀ i, i + 1 + span p r + (r.drop (span p r)).length + 1 = i + (c :: r).length + 1 := fun p i => by
      have := span_le p r
      rw [List.length_drop, List.length_cons]
      omega
    have l0 : i + 1 + r.length + 1 = i + (c :: r).length + 1 := by rw [List.length_cons]; omega
    rw [List.cons_append, tokens_cons, tokens_cons, span_append n1, span_append n2, span_append n3, dr, dr, dr, tk, tk]
    by_cases h1 : blankB c = true
    · rw [if_pos h1, if_pos h1, ih0, l0]
    rw [if_neg h1, if_neg h1]
    by_cases h2 : c = 35
    · rw [if_pos h2, if_pos h2, ih, ln]
    rw [if_neg h2, if_neg h2]
    by_cases h3 : letterB c = true
    · rw [if_pos h3, if_pos h3, ih, ln]
      simp only [Out.pre]
      split <;> (rename_i hq; simp [hq])
    rw [if_neg h3, if_neg h3]
    by_cases h4 : digitB c = true
    · rw [if_pos h4, if_pos h4]
      by_cases h5 : 10 < 1 + span digitB r ∨ (c = 48 ∧ 0 < span digitB r)
      · rw [if_pos h5, if_pos h5]
        simp
      · rw [if_neg h5, if_neg h5, ih, ln]
        simp only [Out.pre]
        split <;> (rename_i hq; simp [hq])
    rw [if_neg h4, if_neg h4]
    by_cases h5 : signB c = true
    · rw [if_pos h5, if_pos h5, ih0, l0]
      simp only [Out.pre]
      split <;> (rename_i hq; simp [hq])
    · rw [if_neg h5, if_neg h5]
      simp

/-- Further to the right the same tokens, further to the right. -/
def Tk.by (d : Nat) (t : Tk) : Tk := { t with pos := t.pos + d }
theorem tokens_shift (d : Nat) : ∀ (n : Nat) (l : List Int) (i : Nat), l.length ≤ n → tokens (i + d) l = ((tokens i l).1.map (Tk.by d), (tokens i l).2.map fun e => (e.1 + d, e.2))
  | n, [], i, h => rfl
  | 0, c :: r, i, h => by simp at h
  | n + 1, c :: r, i, h => by
    rw [List.length_cons] at h
    have ih : ∀ p : Int → Bool, ∀ i, tokens (i + d) (r.drop (span p r)) = _ := fun p i => tokens_shift d n (r.drop (span p r)) i (by rw [List.length_drop]; omega)
    have ih0 := fun i => tokens_shift d n r i (by omega)
    have e1 : ∀ k, i + d + 1 + k = i + 1 + k + d := fun k => by omega
    have e0 : i + d + 1 = i + 1 + d := by omega
    rw [tokens_cons, tokens_cons, e1, e1, e1, e0, ih, ih, ih, ih0]
    by_cases h1 : blankB c = true
    · rw [if_pos h1, if_pos h1]
    rw [if_neg h1, if_neg h1]
    by_cases h2 : c = 35
    · rw [if_pos h2, if_pos h2]
    rw [if_neg h2, if_neg h2]
    by_cases h3 : letterB c = true
    · rw [if_pos h3, if_pos h3]
      simp [Out.pre, Tk.by]
    rw [if_neg h3, if_neg h3]
    by_cases h4 : digitB c = true
    · rw [if_pos h4, if_pos h4]
      split <;> simp [Out.pre, Tk.by]
    rw [if_neg h4, if_neg h4]
    by_cases h5 : signB c = true
    · rw [if_pos h5, if_pos h5]
      simp [Out.pre, Tk.by]
    · rw [if_neg h5, if_neg h5]
      simp

/-- Where tokens stand. -/
theorem tokens_places : ∀ (n : Nat) (l : List Int) (i : Nat), l.length ≤ n → ∀ (s : List Int), (∀ k, s[i + k]? = l[k]?) → ∀ (j : Nat) (t : Tk), (tokens i l).1[j]? = some t →
    i ≤ t.pos ∧ t.pos + t.text.length ≤ i + l.length ∧ t.text ≠ [] ∧ t.kind ≠ 0 ∧ (t.kind = 1 ∨ t.kind = 2 ∨ t.kind = 3) ∧ (s.drop t.pos).take t.text.length = t.text ∧ ∀ t', (tokens i l).1[j + 1]? = some t' → t.pos + t.text.length ≤ t'.pos
  | n, [], i, h, s, hs, j, t, ht => by simp [tokens_nil] at ht
  | 0, c :: r, i, h, s, hs, j, t, ht => by simp at h
  | n + 1, c :: r, i, h, s, hs, j, t, ht => by
    rw [List.length_cons] at h ⊢
    have ih : ∀ p : Int → Bool, _ := fun p => tokens_places n (r.drop (span p r)) (i + 1 + span p r) (by rw [List.length_drop]; omega) s (fun k => by
      rw [show i + 1 + span p r + k = i + (span p r + k + 1) by omega, hs, List.getElem?_cons_succ, List.getElem?_drop])
    have ih0 := tokens_places n r (i + 1) (by omega) s (fun k => by
      rw [show i + 1 + k = i + (k + 1) by omega, hs, List.getElem?_cons_succ])
    have sub : ∀ p : Int → Bool, (s.drop i).take (c :: r.take (span p r)).length = c :: r.take (span p r) := fun p => by
      refine List.ext_getElem? fun k => ?_
      have hl := span_le p r
      rw [List.getElem?_take, List.getElem?_drop, hs]
      cases k with
      | zero => simp
      | succ k =>
        simp only [List.length_cons, List.getElem?_cons_succ, List.getElem?_take, List.length_take, Nat.add_lt_add_iff_right]
        rw [Nat.min_eq_left hl]
    have sub1 : (s.drop i).take 1 = [c] := by
      refine List.ext_getElem? fun k => ?_
      rw [List.getElem?_take, List.getElem?_drop, hs]
      cases k with
      | zero => simp
      | succ k => simp
    have step : ∀ {o : Out} {t0 : Tk} {e : Nat}, (Out.pre t0 o).1[j]? = some t → t0.pos = i → e = i + t0.text.length → e ≤ i + (r.length + 1) → t0.text ≠ [] → (t0.kind = 1 ∨ t0.kind = 2 ∨ t0.kind = 3) → (s.drop i).take t0.text.length = t0.text →
        (∀ (j : Nat) (t : Tk), o.1[j]? = some t → e ≤ t.pos ∧ t.pos + t.text.length ≤ i + (r.length + 1) ∧ t.text ≠ [] ∧ t.kind ≠ 0 ∧ (t.kind = 1 ∨ t.kind = 2 ∨ t.kind = 3) ∧ (s.drop t.pos).take t.text.length = t.text ∧ ∀ t', o.1[j + 1]? = some t' → t.pos + t.text.length ≤ t'.pos) →
        i ≤ t.pos ∧ t.pos + t.text.length ≤ i + (r.length + 1) ∧ t.text ≠ [] ∧ t.kind ≠ 0 ∧ (t.kind = 1 ∨ t.kind = 2 ∨ t.kind = 3) ∧ (s.drop t.pos).take t.text.length = t.text ∧ ∀ t', (Out.pre t0 o).1[j + 1]? = some t' → t.pos + t.text.length ≤ t'.pos := by
      intro o t0 e hj hp he hle hne hk hsub hall
      cases j with
      | zero =>
        simp only [Out.pre, List.getElem?_cons_zero, Option.some.injEq] at hj
        subst hj
        refine ⟨by omega, by omega, hne, by omega, hk, by rw [hp]; exact hsub, fun t' ht' => ?_⟩
        simp only [Out.pre, List.getElem?_cons_succ] at ht'
        have := (hall 0 t' ht').1
        omega
      | succ j =>
        simp only [Out.pre, List.getElem?_cons_succ] at hj ⊢
        have := hall j t hj
        exact ⟨by omega, this.2⟩
    rw [tokens_cons] at ht ⊢
    by_cases h1 : blankB c = true
    · rw [if_pos h1] at ht ⊢
      have := ih0 j t ht
      exact ⟨by omega, by omega, this.2.2⟩
    rw [if_neg h1] at ht ⊢
    by_cases h2 : c = 35
    · rw [if_pos h2] at ht ⊢
      have := ih noteB j t ht
      have hl := span_le noteB r
      rw [List.length_drop] at this
      exact ⟨by omega, by omega, this.2.2⟩
    rw [if_neg h2] at ht ⊢
    have fin : ∀ p : Int → Bool, ∀ (j : Nat) (t : Tk), (tokens (i + 1 + span p r) (r.drop (span p r))).1[j]? = some t → i + 1 + span p r ≤ t.pos ∧ t.pos + t.text.length ≤ i + (r.length + 1) ∧ t.text ≠ [] ∧ t.kind ≠ 0 ∧ (t.kind = 1 ∨ t.kind = 2 ∨ t.kind = 3) ∧ (s.drop t.pos).take t.text.length = t.text ∧ ∀ t', (tokens (i + 1 + span p r) (r.drop (span p r))).1[j + 1]? = some t' → t.pos + t.text.length ≤ t'.pos := by
      intro p j t ht
      have := ih p j t ht
      have hl := span_le p r
      rw [List.length_drop] at this
      exact ⟨by omega, by omega, this.2.2⟩
    have len : ∀ p : Int → Bool, i + 1 + span p r = i + (c :: r.take (span p r)).length := fun p => by
      have := span_le p r
      rw [List.length_cons, List.length_take]
      omega
    by_cases h3 : letterB c = true
    · rw [if_pos h3] at ht ⊢
      exact step ht rfl (len wordB) (by have := span_le wordB r; omega) (by simp) (.inl rfl) (sub wordB) (fin wordB)
    rw [if_neg h3] at ht ⊢
    by_cases h4 : digitB c = true
    · rw [if_pos h4] at ht ⊢
      by_cases h5 : 10 < 1 + span digitB r ∨ (c = 48 ∧ 0 < span digitB r)
      · rw [if_pos h5] at ht
        simp at ht
      · rw [if_neg h5] at ht ⊢
        exact step ht rfl (len digitB) (by have := span_le digitB r; omega) (by simp) (.inr (.inl rfl)) (sub digitB) (fin digitB)
    rw [if_neg h4] at ht ⊢
    by_cases h5 : signB c = true
    · rw [if_pos h5] at ht ⊢
      refine step (e := i + 1) ht rfl rfl (by omega) (by simp) (.inr (.inr rfl)) sub1 fun j t ht => ?_
      have := ih0 j t ht
      exact ⟨by omega, by omega, this.2.2⟩
    · rw [if_neg h5] at ht
      simp at ht
end Go.AM.Lex
namespace Go.AM.Lex
open Go Go.AM.Crc
variable {P : Program} {t : TypeId}
theorem index_str {k1 : IntKind} (ht : P.underlying t = some .string) {bs : List Int} (hb : Bytes bs) {k : Nat} {J : Int} (hJ : J = k) (hk : k < bs.length) : opIndex P t (.string (strOf bs)) (.int k1 J) = some (.int .u8 bs[k]) := by
  subst hJ
  have h := hb bs[k] (List.getElem_mem _)
  simp only [opIndex, ht]
  rw [if_pos (by omega)]
  have e : (strOf bs).data[(k : Int).toNat]? = some (UInt8.ofNat bs[k].toNat) := by
    simp only [strOf, Int.toNat_natCast, List.getElem?_toArray, List.getElem?_map, List.getElem?_eq_getElem hk, Option.map_some]
  rw [e]
  simp
  omega
theorem extract_str {bs : List Int} {l h : Nat} : (strOf bs).extract l h = strOf ((bs.drop l).take (h - l)) := by
  refine ByteArray.ext ?_
  simp only [ByteArray.data_extract, strOf]
  refine Array.ext' ?_
  simp [List.extract_eq_take_drop, List.map_take, List.map_drop]
theorem slice_str {k1 k2 : IntKind} (ht : P.underlying t = some .string) {bs : List Int} {L H : Int} {l h : Nat} (hL : L = l) (hH : H = h) (h1 : l ≤ h) (h2 : h ≤ bs.length) : opSlice P t (.string (strOf bs)) (some (.int k1 L)) (some (.int k2 H)) = some (.string (strOf ((bs.drop l).take (h - l)))) := by
  subst hL hH
  simp only [opSlice, ht, boundOf]
  rw [if_pos (by omega), if_pos (by omega)]
  simp only [Int.toNat_natCast]
  rw [if_pos ⟨h1, by rw [strOf_size]; exact h2⟩, extract_str]
theorem cat_str {x y : List Int} (h : x.length + y.length ≤ 9223372036854775807) : binV P .add t (.string (strOf x)) (.string (strOf y)) = some (.string (strOf (x ++ y))) := by
  rw [bin_cat, strOf_size, strOf_size, if_pos h, strOf_append]
theorem len_str (ht : P.underlying t = some .string) {bs : List Int} : opLen P (some t) (.string (strOf bs)) = some (.int .i64 bs.length) := by
  simp only [opLen, ht, strOf_size]
end Go.AM.Lex
