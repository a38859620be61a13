/-
  LCronB: the law CronEither in plain Lean: days and weekdays, one or both.
-/
import Derived.Test.YtceclaaopomcnaaDoorLCronA
namespace Go.T
open Go Go.Ab Go.Proofs

theorem awake_ok : matinslaw06_awake 2000000 = some true := by kernel_rfl
theorem stars : cron_Parse 2000000 [42, 32, 42, 32, 42, 32, 42, 32, 42] = some (⟨1152921504606846975, 16777215, 4294967294, 8190, 127, true, true⟩, 0, 0) := by kernel_rfl
theorem has_week (n : Int) (h0 : 0 ≤ n) (h1 : n ≤ 6) : hasB 127 n = true := by
  have h : n = 0 ∨ n = 1 ∨ n = 2 ∨ n = 3 ∨ n = 4 ∨ n = 5 ∨ n = 6 := by omega
  rcases h with rfl | rfl | rfl | rfl | rfl | rfl | rfl <;> decide
theorem has_day (n : Int) (h0 : 1 ≤ n) (h1 : n ≤ 31) : hasB 4294967294 n = true := by
  obtain ⟨k, rfl⟩ := Int.eq_ofNat_of_zero_le (show 0 ≤ n by omega)
  have h : ∀ k : Nat, k < 32 → 1 ≤ k → hasB 4294967294 (k : Int) = true := by decide
  exact h k (by omega) (by omega)
theorem CronEither_true (c : api_Cron) (m : api_Civil) : matinslaw06_CronEither 2000000 c m = some true := by
  unfold matinslaw06_CronEither
  obtain ⟨v, hv, _, ok, hok, hf⟩ := fits_eq 1999994 c m
  have hc := check_eq 1999994 c
  simp only [show 1999994 + 6 = 2000000 from rfl] at hf hc
  simp only [awake_ok, stars, Option.bind_some, hc, hf, Bool.not_true, cond_false, show ((0 : Int) != 0) = false from rfl]
  cases hk : chkB c
  · simp
  · have e1 : chkB ⟨c.Minute, c.Hour, c.Day, c.Month, 127, c.AnyDay, true⟩ = true := by
      simp only [chkB, Bool.and_eq_true] at hk ⊢
      obtain ⟨⟨⟨⟨⟨⟨a, b⟩, d⟩, e⟩, f⟩, g⟩, h⟩ := hk
      exact ⟨⟨⟨⟨⟨⟨a, b⟩, d⟩, e⟩, by decide⟩, g⟩, by decide⟩
    have e2 : chkB ⟨c.Minute, c.Hour, 4294967294, c.Month, c.Week, true, c.AnyWeek⟩ = true := by
      simp only [chkB, Bool.and_eq_true] at hk ⊢
      obtain ⟨⟨⟨⟨⟨⟨a, b⟩, d⟩, e⟩, f⟩, g⟩, h⟩ := hk
      exact ⟨⟨⟨⟨⟨⟨a, b⟩, by decide⟩, e⟩, f⟩, by decide⟩, h⟩
    simp only [e1, e2, Bool.not_true, cond_false, Bool.and_true]
    cases ok with
    | false => cases c.AnyDay <;> cases c.AnyWeek <;> rfl
    | true =>
      obtain ⟨q1, q2, q3, q4, _⟩ := hok rfl
      simp only [fitsB, has_week _ q3 q4, has_day _ q1 q2]
      cases c.AnyDay <;> cases c.AnyWeek <;> cases hasB c.Minute m.Minute <;> cases hasB c.Hour m.Hour <;> cases hasB c.Month m.Month <;> cases hasB c.Day m.Day <;> cases hasB c.Week m.Week <;> rfl
end Go.T
