/-
  LCronB0: what is awake, and the stars.
-/
import Derived.Test.YtceclaaopomcnaaDoorLCronA
namespace Go.T
open Go Go.Ab Go.Proofs

theorem awake_ok : matinslaw06_awake 4000000 = some true := by kernel_rfl
theorem stars : cron_Parse 4000000 [42, 32, 42, 32, 42, 32, 42, 32, 42] = some (⟨1152921504606846975, 16777215, 4294967294, 8190, 127, true, true⟩, 0, 0) := by kernel_rfl
theorem has_week (n : Int) (h0 : 0 ≤ n) (h1 : n ≤ 6) : hasB 127 n = true := by
  have h : n = 0 ∨ n = 1 ∨ n = 2 ∨ n = 3 ∨ n = 4 ∨ n = 5 ∨ n = 6 := by omega
  rcases h with rfl | rfl | rfl | rfl | rfl | rfl | rfl <;> decide
theorem has_day (n : Int) (h0 : 1 ≤ n) (h1 : n ≤ 31) : hasB 4294967294 n = true := by
  obtain ⟨k, rfl⟩ := Int.eq_ofNat_of_zero_le (show 0 ≤ n by omega)
  have h : ∀ k : Nat, k < 32 → 1 ≤ k → hasB 4294967294 (k : Int) = true := by decide
  exact h k (by omega) (by omega)
end Go.T
