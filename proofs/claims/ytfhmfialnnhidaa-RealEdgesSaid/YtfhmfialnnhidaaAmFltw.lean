/- Floats of 64 bits in a walk. -/
import Derived.Test.YtfhmfialnnhidaaAmFlt3
import Derived.Test.YtfhmfialnnhidaaAmBun
import Derived.Laws.FloatArith
set_option linter.unusedSimpArgs false
set_option linter.unusedVariables false
namespace Go.AM.Flt
open Go Go.AM
section
variable {P : Program} {t : TypeId} {x y : Nat}
abbrev fv (x : Nat) : Value := .float .f64 x
/-- The NaN that a program is told as the one. -/
def one : Nat := 0x7ff8000000000000
def lax : Nat := nanOf .f64
theorem bin_fadd : binV P .add t (.float .f64 x) (.float .f64 y) = some (.float .f64 ((F.add x y).getD lax)) := rfl
theorem bin_fmul : binV P .mul t (.float .f64 x) (.float .f64 y) = some (.float .f64 ((F.mul x y).getD lax)) := rfl
theorem bin_fquo : binV P .quo t (.float .f64 x) (.float .f64 y) = some (.float .f64 ((F.div x y).getD lax)) := rfl
theorem bin_fsub : binV P .sub t (.float .f64 x) (.float .f64 y) = some (.float .f64 ((F.sub x y).getD lax)) := rfl
theorem bin_feql : binV P .eql t (.float .f64 x) (.float .f64 y) = some (.bool (F.order x y == some .eq)) := rfl
theorem bin_fneq : binV P .neq t (.float .f64 x) (.float .f64 y) = some (.bool (F.order x y != some .eq)) := rfl
theorem bin_flss : binV P .lss t (.float .f64 x) (.float .f64 y) = some (.bool (F.order x y == some .lt)) := rfl
theorem bin_fleq : binV P .leq t (.float .f64 x) (.float .f64 y) = some (.bool (F.order x y == some .lt || F.order x y == some .eq)) := rfl
theorem bin_fgtr : binV P .gtr t (.float .f64 x) (.float .f64 y) = some (.bool (F.order x y == some .gt)) := rfl
theorem bin_fgeq : binV P .geq t (.float .f64 x) (.float .f64 y) = some (.bool (F.order x y == some .gt || F.order x y == some .eq)) := rfl
theorem un_fneg : unV .neg (.float .f64 x) = some (.float .f64 (if x = lax then x else neg x)) := rfl
theorem lax_nan : nanX lax = true := by decide
theorem one_nan : nanX one = true := by decide
theorem lax_big : 2 ^ 64 ≤ lax := by decide
/-- What is told: of any NaN the one. -/
def tell (x : Nat) : Nat := if nanX x = true then one else x
theorem tell_lt (h : x < 2 ^ 64 ∨ x = lax) : tell x < 2 ^ 64 := by
  unfold tell
  split
  · decide
  · rename_i hn
    rcases h with h | rfl
    · exact h
    · exact (hn lax_nan).elim
theorem nan_tell : nanX (tell x) = nanX x := by
  unfold tell
  split
  · rename_i h; rw [h]; rfl
  · rfl
theorem getD_ok {o : Option Nat} (h : ∀ r, o = some r → r < 2 ^ 64) : o.getD lax < 2 ^ 64 ∨ o.getD lax = lax := by
  cases o with
  | none => exact .inr rfl
  | some r => exact .inl (h r rfl)
theorem add_ok : (F.add x y).getD lax < 2 ^ 64 ∨ (F.add x y).getD lax = lax := getD_ok fun _ h => F.add_lt h
theorem mul_ok : (F.mul x y).getD lax < 2 ^ 64 ∨ (F.mul x y).getD lax = lax := getD_ok fun _ h => F.mul_lt h
theorem div_ok : (F.div x y).getD lax < 2 ^ 64 ∨ (F.div x y).getD lax = lax := getD_ok fun _ h => F.div_lt h
theorem neqf_self (x : Nat) : (F.order x x != some .eq) = nanX x := by
  rw [order_self]
  cases nanX x <;> rfl
theorem eqf_self (x : Nat) : (F.order x x == some .eq) = !nanX x := by
  rw [order_self]
  cases nanX x <;> rfl
end
end Go.AM.Flt
