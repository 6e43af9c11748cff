/- CrcMixes comes to true on all arguments. -/
import Derived.Test.YtpjihjfelobkoaaAmC02
import Derived.Test.YtpjihjfelobkoaaAmArgs3
set_option linter.unusedSimpArgs false
set_option linter.unusedVariables false
set_option maxRecDepth 100000
set_option maxHeartbeats 4000000
namespace Go.Proofs.Ytpjihjfelobkoaa
open Go Go.AM Go.AM.Crc

theorem bytes_wf {bs : List Int} (h : ∀ z ∈ bs, (Lit.int .u8 z).wf = true) : Bytes bs := by
  intro z hz
  have := h z hz
  simp [Lit.wf, IntKind.min, IntKind.max, IntKind.signed, IntKind.bits] at this
  omega
theorem len_small {n : Nat} {e : TypeId} (h : n * Try.prog.bytesOf e ≤ reachBytes) (he : Try.prog.bytesOf e = 1) : (n : Int) < 2 ^ 62 := by
  rw [he] at h
  have := reachBytes_lt
  omega

theorem mixed_vecs {xs ms : List Int} (hx : Bytes xs) (hm : Bytes ms) (n : Nat) (h1 : n ≤ xs.length) (h2 : n ≤ ms.length) : mixed xs ms n n = nums (List.zipWith (· ^^^ ·) (vecs (xs.take n)) (vecs (ms.take n))) := by
  refine List.ext_getElem (by simp [mixed, nums, vecs, h1, h2]) fun i q1 q2 => ?_
  have hi : i < n := by simpa [mixed] using q1
  simp only [mixed, nums, vecs, List.getElem_map, List.getElem_range, List.getElem_zipWith, List.getElem_take, if_pos hi]
  rw [List.getD_eq_getElem?_getD, List.getD_eq_getElem?_getD, List.getElem?_eq_getElem (by omega), List.getElem?_eq_getElem (by omega)]
  have a := hx xs[i] (List.getElem_mem _)
  have b := hm ms[i] (List.getElem_mem _)
  have c1 : (((BitVec.ofInt 8 xs[i]).toNat : Nat) : Int) = xs[i] := by simp only [BitVec.toNat_ofInt]; omega
  have c2 : (((BitVec.ofInt 8 ms[i]).toNat : Nat) : Int) = ms[i] := by simp only [BitVec.toNat_ofInt]; omega
  rw [← xor8, c1, c2]
  rfl

theorem mix_sum {xs ms : List Int} (hx : Bytes xs) (hm : Bytes ms) (n : Nat) (h1 : n ≤ xs.length) (h2 : n ≤ ms.length) :
    bits .xor .u32 (crcSum (mixed xs ms n n)) (crcSum (xs.take n)) = (((vecs (ms.take n)).foldl byteB 0#32).toNat : Int) := by
  have ht : Bytes (xs.take n) := fun b hb => hx b (List.mem_of_mem_take hb)
  have e := sum_eq (vecs (xs.take n))
  rw [nums_vecs ht] at e
  rw [mixed_vecs hx hm n h1 h2, sum_eq, e, xor32, sum_mix _ _ (by simp [vecs, h1, h2])]

theorem crcMixes_true {H : Type} {m : Mem} {xs : List Value} {ds : List (DataW H)} (hd : IsDs Try.prog 8 [22, 22, 22] ds) (hl : LieAll Try.prog m [22, 22, 22] ds xs) : Ret Try.prog 3 xs m fun v _ => v = .bool true := by
  match ds, hd with
  | [d0, d1, d2], hd =>
    obtain ⟨i0, i1, i2, _⟩ := hd
    obtain ⟨v0, _, rfl, l0, v1, _, rfl, l1, v2, _, rfl, l2, rfl⟩ := hl
    obtain ⟨z0, w0, b0, s0, u0⟩ := lies_ints (k := 6) Try.underlying22 Try.underlying5 (by kernel_rfl) i0 l0
    obtain ⟨z1, w1, b1, s1, u1⟩ := lies_ints (k := 6) Try.underlying22 Try.underlying5 (by kernel_rfl) i1 l1
    obtain ⟨z2, w2, b2, s2, u2⟩ := lies_ints (k := 6) Try.underlying22 Try.underlying5 (by kernel_rfl) i2 l2
    have hb : Try.prog.bytesOf 5 = 1 := by kernel_rfl
    refine mixes_ret s0 s1 s2 u0 u1 u2 (len_small b0 hb) (len_small b1 hb) (len_small b2 hb) _ rfl fun m' => ?_
    rw [mix_sum (bytes_wf w0) (bytes_wf w2) _ (by omega) (by omega), mix_sum (bytes_wf w1) (bytes_wf w2) _ (by omega) (by omega)]
    exact congrArg Value.bool (decide_eq_true rfl)
end Go.Proofs.Ytpjihjfelobkoaa
