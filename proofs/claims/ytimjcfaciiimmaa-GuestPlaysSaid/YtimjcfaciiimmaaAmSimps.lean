/- Single operations of the abstract machine, as rewriting laws. -/
import Derived.Test.YtimjcfaciiimmaaAmWalk
import Derived.Laws.Strings
set_option linter.unusedSimpArgs false
set_option linter.unusedVariables false
namespace Go.AM
open Go
variable {P : Program} {t : TypeId} {k k' : IntKind} {a b : Int} {x y : ByteArray} {m : Mem} {env : Env}

theorem bin_add : binV P .add t (.int k a) (.int k b) = some (.int k (k.wrap (a + b))) := by simp [binV, intBin]
theorem bin_sub : binV P .sub t (.int k a) (.int k b) = some (.int k (k.wrap (a - b))) := by simp [binV, intBin]
theorem bin_mul : binV P .mul t (.int k a) (.int k b) = some (.int k (k.wrap (a * b))) := by simp [binV, intBin]
theorem bin_quo : binV P .quo t (.int k a) (.int k b) = if b = 0 then none else some (.int k (k.wrap (a.tdiv b))) := by simp [binV, intBin]
theorem bin_rem : binV P .rem t (.int k a) (.int k b) = if b = 0 then none else some (.int k (a.tmod b)) := by simp [binV, intBin]
theorem bin_and : binV P .and t (.int k a) (.int k b) = some (.int k (bits .and k a b)) := by simp [binV, intBin]
theorem bin_or : binV P .or t (.int k a) (.int k b) = some (.int k (bits .or k a b)) := by simp [binV, intBin]
theorem bin_xor : binV P .xor t (.int k a) (.int k b) = some (.int k (bits .xor k a b)) := by simp [binV, intBin]
theorem bin_andNot : binV P .andNot t (.int k a) (.int k b) = some (.int k (bits .andNot k a b)) := by simp [binV, intBin]
theorem bin_eql : binV P .eql t (.int k a) (.int k b) = some (.bool (decide (a = b))) := by simp [binV, intBin, BEq.beq]
theorem bin_neq : binV P .neq t (.int k a) (.int k b) = some (.bool (decide (a ≠ b))) := by simp [binV, intBin, bne, BEq.beq]
theorem bin_lss : binV P .lss t (.int k a) (.int k b) = some (.bool (decide (a < b))) := by simp [binV, intBin]
theorem bin_leq : binV P .leq t (.int k a) (.int k b) = some (.bool (decide (a ≤ b))) := by simp [binV, intBin]
theorem bin_gtr : binV P .gtr t (.int k a) (.int k b) = some (.bool (decide (b < a))) := by simp [binV, intBin]
theorem bin_geq : binV P .geq t (.int k a) (.int k b) = some (.bool (decide (b ≤ a))) := by simp [binV, intBin]
theorem bin_shl : binV P .shl t (.int k a) (.int k' b) = if b < 0 then none else some (.int k (k.wrap (a * 2 ^ (min b.toNat k.bits)))) := rfl
theorem bin_shr : binV P .shr t (.int k a) (.int k' b) = if b < 0 then none else some (.int k (a.fdiv (2 ^ (min b.toNat k.bits)))) := rfl
theorem bin_cat : binV P .add t (.string x) (.string y) = if x.size + y.size ≤ 9223372036854775807 then some (.string (x ++ y)) else none := rfl
theorem bin_seql : binV P .eql t (.string x) (.string y) = some (.bool (decide (x = y))) := by
  have : (x.toList == y.toList) = decide (x = y) := by
    rw [Bool.eq_iff_iff]
    simp only [beq_iff_eq, decide_eq_true_eq]
    constructor
    · intro h
      rw [Go.ByteArray.toList_eq, Go.ByteArray.toList_eq] at h
      exact ByteArray.ext (Array.toList_inj.1 h)
    · rintro rfl; rfl
  simp [binV, strBin, this]
theorem un_neg : unV .neg (.int k a) = some (.int k (k.wrap (0 - a))) := rfl
theorem un_xor : unV .xor (.int k a) = some (.int k (bits .xor k (if k.signed then -1 else k.max) a)) := rfl
theorem un_not {c : Bool} : unV .not (.bool c) = some (.bool !c) := rfl
theorem keep_some {v : Value} : keep m (some v) = some (v, m) := rfl
end Go.AM
