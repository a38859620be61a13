/-
  LCronA: what the expressions of five fields are: whether one is right, and which minutes it fits; in plain Lean.
-/
import Derived.Test.YtceclaaopomcnaaDoorSem
import Derived.KernelRfl
namespace Go.T
open Go Go.Ab Go.Proofs

theorem full0 (F : Nat) : cron_full F 0 = some 1152921504606846975 := rfl
theorem full1 (F : Nat) : cron_full F 1 = some 16777215 := rfl
theorem full2 (F : Nat) : cron_full F 2 = some 4294967294 := rfl
theorem full3 (F : Nat) : cron_full F 3 = some 8190 := rfl
theorem full4 (F : Nat) : cron_full F 4 = some 127 := rfl

/-- are a field's bits right? -/
def okF (b full : Int) : Bool := b != 0 && ibits BinOp.andNot IntKind.u64 b full == 0
def chkB (c : api_Cron) : Bool :=
  okF c.Minute 1152921504606846975 && okF c.Hour 16777215 && okF c.Day 4294967294 && okF c.Month 8190 && okF c.Week 127 &&
    (!c.AnyDay || c.Day == 4294967294) && (!c.AnyWeek || c.Week == 127)
theorem chk_step (F n : Nat) (a : A_5_uint64) (i : Int) (b f : Int) (h0 : 0 ≤ i) (h5 : i < 5) (hf : cron_full F i = some f)
    (hb : b = if i = 0 then a.e0 else if i = 1 then a.e1 else if i = 2 then a.e2 else if i = 3 then a.e3 else a.e4) :
    cron_Check_l0 F a (n + 1) i = bif okF b f then cron_Check_l0 F a n (i + 1) else some (.inl false) := by
  rw [cron_Check_l0.eq_2, hf]
  have hw : IntKind.wrap IntKind.i64 (i + 1) = i + 1 := by simp [IntKind.wrap, IntKind.signed, IntKind.bits]; omega
  rw [hw]
  have h : i = 0 ∨ i = 1 ∨ i = 2 ∨ i = 3 ∨ i = 4 := by omega
  have e : (bif decide ((0 : Int) ≤ i) then (bif decide (i < 5) then (bif i == 0 then some a.e0 else bif i == 1 then some a.e1 else bif i == 2 then some a.e2 else bif i == 3 then some a.e3 else bif i == 4 then some a.e4 else none) else none) else none) = some b := by
    rcases h with rfl | rfl | rfl | rfl | rfl <;> (subst hb; rfl)
  rw [e]
  clear e hb h hw
  simp only [h5, decide_true, cond_true, Option.bind_some, okF, bne]
  cases (b == 0) <;> cases (ibits BinOp.andNot IntKind.u64 b f == 0) <;> rfl
theorem check_eq (k : Nat) (c : api_Cron) : cron_Check (k + 6) c = some (chkB c) := by
  have h0 := chk_step (k + 6) (k + 5) ⟨c.Minute, c.Hour, c.Day, c.Month, c.Week⟩ 0 _ _ (by decide) (by decide) (full0 _) rfl
  have h1 := chk_step (k + 6) (k + 4) ⟨c.Minute, c.Hour, c.Day, c.Month, c.Week⟩ 1 _ _ (by decide) (by decide) (full1 _) rfl
  have h2 := chk_step (k + 6) (k + 3) ⟨c.Minute, c.Hour, c.Day, c.Month, c.Week⟩ 2 _ _ (by decide) (by decide) (full2 _) rfl
  have h3 := chk_step (k + 6) (k + 2) ⟨c.Minute, c.Hour, c.Day, c.Month, c.Week⟩ 3 _ _ (by decide) (by decide) (full3 _) rfl
  have h4 := chk_step (k + 6) (k + 1) ⟨c.Minute, c.Hour, c.Day, c.Month, c.Week⟩ 4 _ _ (by decide) (by decide) (full4 _) rfl
  have h5 : cron_Check_l0 (k + 6) ⟨c.Minute, c.Hour, c.Day, c.Month, c.Week⟩ (k + 1) 5 = some (.inr ()) := rfl
  simp only [show (0 : Int) + 1 = 1 from rfl, show (1 : Int) + 1 = 2 from rfl, show (2 : Int) + 1 = 3 from rfl, show (3 : Int) + 1 = 4 from rfl, show (4 : Int) + 1 = 5 from rfl] at h0 h1 h2 h3 h4
  simp only [if_true, show ¬ (1 : Int) = 0 by decide, show ¬ (2 : Int) = 0 by decide, show ¬ (3 : Int) = 0 by decide, show ¬ (4 : Int) = 0 by decide, show ¬ (2 : Int) = 1 by decide, show ¬ (3 : Int) = 1 by decide,
    show ¬ (4 : Int) = 1 by decide, show ¬ (3 : Int) = 2 by decide, show ¬ (4 : Int) = 2 by decide, show ¬ (4 : Int) = 3 by decide, if_false] at h0 h1 h2 h3 h4
  unfold cron_Check cron_fields
  simp only [Option.bind_some, h0, h1, h2, h3, h4, h5, full2, full4, chkB]
  cases okF c.Minute 1152921504606846975 <;> cases okF c.Hour 16777215 <;> cases okF c.Day 4294967294 <;> cases okF c.Month 8190 <;> cases okF c.Week 127 <;> try rfl
  cases c.AnyDay <;> cases c.AnyWeek <;> simp
  all_goals cases c.Day == 4294967294 <;> rfl

/-- is a minute one? -/
theorem days_le (F : Nat) (y mo : Int) : ∃ d, civil_Days F y mo = some d ∧ d ≤ 31 ∧ (1 ≤ d → 1 ≤ mo ∧ mo ≤ 12) := by
  unfold civil_Days civil_leap
  cases h1 : decide (y < 1970) <;> cases h2 : decide (2399 < y) <;> cases h3 : decide (mo < 1) <;> cases h4 : decide (12 < mo) <;> simp only [cond_true, cond_false, Option.bind_some]
  all_goals try exact ⟨0, rfl, by decide, fun h => absurd h (by decide)⟩
  have q : 1 ≤ mo ∧ mo ≤ 12 := by
    have a := of_decide_eq_false h3
    have b := of_decide_eq_false h4
    omega
  cases mo == 2 <;> cases Int.tmod y 4 == 0 <;> cases Int.tmod y 100 != 0 <;> cases Int.tmod y 400 == 0 <;> cases mo == 4 <;> cases mo == 6 <;> cases mo == 9 <;> cases mo == 11 <;>
    exact ⟨_, rfl, by decide, fun _ => q⟩
theorem to_eq (F : Nat) (m : api_Civil) : ∃ t e, civil_To F m = some (t, e) ∧ (e = 0 → 1 ≤ m.Day ∧ m.Day ≤ 31 ∧ 0 ≤ m.Hour ∧ m.Hour ≤ 23 ∧ 0 ≤ m.Minute ∧ m.Minute ≤ 59 ∧ 1 ≤ m.Month ∧ m.Month ≤ 12) := by
  obtain ⟨d, hd, hd1, hd2⟩ := days_le F m.Year m.Month
  unfold civil_To civil_number
  simp only [hd, Option.bind_some]
  cases h1 : decide (m.Day < 1) <;> cases h2 : decide (d < m.Day) <;> cases h3 : decide (m.Hour < 0) <;> cases h4 : decide (23 < m.Hour) <;> cases h5 : decide (m.Minute < 0) <;> cases h6 : decide (59 < m.Minute) <;>
    simp only [cond_true, cond_false, Option.bind_some]
  all_goals try exact ⟨_, _, rfl, fun h => absurd h (by decide)⟩
  have a1 := of_decide_eq_false h1
  have a2 := of_decide_eq_false h2
  have a3 := of_decide_eq_false h3
  have a4 := of_decide_eq_false h4
  have a5 := of_decide_eq_false h5
  have a6 := of_decide_eq_false h6
  have a7 := hd2 (by omega)
  cases decide (m.Month ≤ 2) <;> exact ⟨_, _, rfl, fun _ => by omega⟩

/-- has a set a number? -/
def hasB (b n : Int) : Bool := ibits BinOp.and IntKind.u64 (Int.fdiv b (2 ^ (min n.toNat 64))) 1 == 1
theorem has01 (b n : Int) : (ibits BinOp.and IntKind.u64 (Int.fdiv b (2 ^ (min n.toNat 64))) 1 == 0) = !hasB b n := by
  unfold hasB
  generalize Int.fdiv b _ = x
  have h : ibits BinOp.and IntKind.u64 x 1 = 0 ∨ ibits BinOp.and IntKind.u64 x 1 = 1 := by
    unfold ibits
    have h2 : (BitVec.ofInt (IntKind.bits .u64) x &&& BitVec.ofInt (IntKind.bits .u64) 1).toNat ≤ 1 := by
      rw [BitVec.toNat_and]
      exact Nat.le_trans Nat.and_le_right (by decide)
    have h3 : (BitVec.ofInt (IntKind.bits .u64) x &&& BitVec.ofInt (IntKind.bits .u64) 1).toNat = 0 ∨ (BitVec.ofInt (IntKind.bits .u64) x &&& BitVec.ofInt (IntKind.bits .u64) 1).toNat = 1 := by omega
    rcases h3 with h3 | h3 <;> simp only [h3] <;> decide
  rcases h with h | h <;> rw [h] <;> decide
/-- which minutes an expression fits, of those that are right -/
def fitsB (c : api_Cron) (m : api_Civil) : Bool :=
  hasB c.Minute m.Minute && hasB c.Hour m.Hour && hasB c.Month m.Month && (if c.AnyDay || c.AnyWeek then hasB c.Day m.Day && hasB c.Week m.Week else hasB c.Day m.Day || hasB c.Week m.Week)
theorem fits_eq (k : Nat) (c : api_Cron) (m : api_Civil) : ∃ v, cron_Fits (k + 6) c m = some v ∧
    (v = true → chkB c = true) ∧
    ∃ ok : Bool, (ok = true → 1 ≤ m.Day ∧ m.Day ≤ 31 ∧ 0 ≤ m.Week ∧ m.Week ≤ 6 ∧ 0 ≤ m.Minute ∧ 0 ≤ m.Hour ∧ 0 ≤ m.Month) ∧ (∀ c', cron_Fits (k + 6) c' m = some (ok && chkB c' && fitsB c' m)) := by
  obtain ⟨t, e, h, hr⟩ := to_eq (k + 6) m
  have key : ∀ c', cron_Fits (k + 6) c' m = some ((e == 0 && (decide (0 ≤ m.Week) && decide (m.Week ≤ 6))) && chkB c' && fitsB c' m) := by
    intro c'
    unfold cron_Fits
    simp only [h, Option.bind_some, check_eq, has01]
    cases he : (e == 0)
    · simp [bne, he]
    · have h0 : e = 0 := by simpa using he
      obtain ⟨q1, q2, q3, q4, q5, q6, q7, q8⟩ := hr h0
      have d1 : decide ((0 : Int) ≤ m.Minute) = true := decide_eq_true q5
      have d2 : decide ((0 : Int) ≤ m.Hour) = true := decide_eq_true q3
      have d3 : decide ((0 : Int) ≤ m.Month) = true := decide_eq_true (by omega)
      have d4 : decide ((0 : Int) ≤ m.Day) = true := decide_eq_true (by omega)
      simp only [bne, he, d1, d2, d3, d4, Bool.not_true, cond_false, cond_true]
      by_cases hw0 : m.Week < 0
      · have a : decide (m.Week < 0) = true := decide_eq_true hw0
        have b : decide (0 ≤ m.Week) = false := decide_eq_false (by omega)
        rw [a, b]
        cases chkB c' <;> rfl
      · have a : decide (m.Week < 0) = false := decide_eq_false hw0
        have b : decide (0 ≤ m.Week) = true := decide_eq_true (by omega)
        rw [a, b]
        by_cases hw1 : 6 < m.Week
        · have a : decide (6 < m.Week) = true := decide_eq_true hw1
          have b : decide (m.Week ≤ 6) = false := decide_eq_false (by omega)
          rw [a, b]
          cases chkB c' <;> rfl
        · have a : decide (6 < m.Week) = false := decide_eq_false hw1
          have b : decide (m.Week ≤ 6) = true := decide_eq_true (by omega)
          rw [a, b]
          unfold fitsB
          have u1 : (ibits BinOp.and IntKind.u64 (Int.fdiv c'.Day (2 ^ (min m.Day.toNat 64))) 1 == 1) = hasB c'.Day m.Day := rfl
          have u2 : (ibits BinOp.and IntKind.u64 (Int.fdiv c'.Week (2 ^ (min m.Week.toNat 64))) 1 == 1) = hasB c'.Week m.Week := rfl
          simp only [u1, u2]
          cases chkB c' <;> cases hasB c'.Minute m.Minute <;> cases hasB c'.Hour m.Hour <;> cases hasB c'.Month m.Month <;> cases c'.AnyDay <;> cases c'.AnyWeek <;> cases hasB c'.Day m.Day <;> cases hasB c'.Week m.Week <;> rfl
  refine ⟨_, key c, fun hv => ?_, (e == 0 && (decide (0 ≤ m.Week) && decide (m.Week ≤ 6))), fun ho => ?_, key⟩
  · simp only [Bool.and_eq_true] at hv; exact hv.1.2
  · simp only [Bool.and_eq_true, decide_eq_true_eq, beq_iff_eq] at ho
    obtain ⟨a, b, d, _, e, _, g, _⟩ := hr ho.1
    exact ⟨a, b, ho.2.1, ho.2.2, e, d, by omega⟩
end Go.T
