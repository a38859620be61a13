/-
  LCronF: the reference's words for expressions: what is right, and what fits a minute.
-/
import Derived.Test.YtceclaaopomcnaaGreatDoorLCronN
namespace Go.T
open Go Go.Ab Go.Proofs

theorem rfull0 : matinsref06_Full 2000000 0 = some 1152921504606846975 := by kernel_rfl
theorem rfull1 : matinsref06_Full 2000000 1 = some 16777215 := by kernel_rfl
theorem rfull2 : matinsref06_Full 2000000 2 = some 4294967294 := by kernel_rfl
theorem rfull3 : matinsref06_Full 2000000 3 = some 8190 := by kernel_rfl
theorem rfull4 : matinsref06_Full 2000000 4 = some 127 := by kernel_rfl
theorem or_sub (a f : Nat) : a ||| f = f ↔ ∀ i, a.testBit i = true → f.testBit i = true := by
  constructor
  · intro h i hi
    rw [← h, Nat.testBit_or, hi, Bool.true_or]
  · intro h
    apply Nat.eq_of_testBit_eq
    intro i
    rw [Nat.testBit_or]
    have q := h i
    clear h
    revert q
    cases a.testBit i <;> cases f.testBit i <;> simp
theorem right_eq (a f : Nat) (i : Int) (ha : a < 2 ^ 64) (hf : f < 2 ^ 64) (h : matinsref06_Full 2000000 i = some (f : Int)) : matinsref06_right 2000000 (a : Int) i = some (okF a f) := by
  unfold matinsref06_right
  rw [h]
  simp only [Option.bind_some, ib_or a f ha hf]
  have h1 := okF_nat a f ha hf
  by_cases h0 : a = 0
  · subst h0; rfl
  · have e0 : ((a : Int) != 0) = true := by simpa using h0
    rw [e0]
    simp only [cond_true]
    congr 1
    rw [Bool.eq_iff_iff, h1, beq_iff_eq]
    constructor
    · intro e
      refine ⟨h0, (or_sub a f).1 ?_⟩
      omega
    · rintro ⟨_, e⟩
      rw [(or_sub a f).2 e]
theorem rcheck_eq (c : api_Cron) (hc : api_Cron.ok 1048576 c) : matinsref06_Check 2000000 c = some (chkB c) := by
  obtain ⟨mi, ho, da, mo, we, ad, aw⟩ := c
  obtain ⟨c1, c2, c3, c4, c5, -⟩ := hc
  have q1 := okI_u64 c1
  have q2 := okI_u64 c2
  have q3 := okI_u64 c3
  have q4 := okI_u64 c4
  have q5 := okI_u64 c5
  obtain ⟨a1, rfl⟩ := Int.eq_ofNat_of_zero_le q1.1
  obtain ⟨a2, rfl⟩ := Int.eq_ofNat_of_zero_le q2.1
  obtain ⟨a3, rfl⟩ := Int.eq_ofNat_of_zero_le q3.1
  obtain ⟨a4, rfl⟩ := Int.eq_ofNat_of_zero_le q4.1
  obtain ⟨a5, rfl⟩ := Int.eq_ofNat_of_zero_le q5.1
  have l1 : a1 < 2 ^ 64 := by have := q1.2; simp only at this; omega
  have l2 : a2 < 2 ^ 64 := by have := q2.2; simp only at this; omega
  have l3 : a3 < 2 ^ 64 := by have := q3.2; simp only at this; omega
  have l4 : a4 < 2 ^ 64 := by have := q4.2; simp only at this; omega
  have l5 : a5 < 2 ^ 64 := by have := q5.2; simp only at this; omega
  have r1 := right_eq a1 1152921504606846975 0 l1 (by decide) rfull0
  have r2 := right_eq a2 16777215 1 l2 (by decide) rfull1
  have r3 := right_eq a3 4294967294 2 l3 (by decide) rfull2
  have r4 := right_eq a4 8190 3 l4 (by decide) rfull3
  have r5 := right_eq a5 127 4 l5 (by decide) rfull4
  unfold matinsref06_Check
  simp only [r1, r2, r3, r4, r5, rfull2, rfull4, Option.bind_some, chkB]
  simp only [show ((1152921504606846975 : Nat) : Int) = 1152921504606846975 from rfl, show ((16777215 : Nat) : Int) = 16777215 from rfl, show ((4294967294 : Nat) : Int) = 4294967294 from rfl, show ((8190 : Nat) : Int) = 8190 from rfl, show ((127 : Nat) : Int) = 127 from rfl]
  cases okF (a1 : Int) 1152921504606846975 <;> cases okF (a2 : Int) 16777215 <;> cases okF (a3 : Int) 4294967294 <;> cases okF (a4 : Int) 8190 <;> cases okF (a5 : Int) 127 <;> try rfl
  cases ad <;> cases aw <;> simp
  all_goals cases ((a3 : Int) == 4294967294) <;> rfl

/-- has a set a number? -/
theorem rhas_eq (F a : Nat) (n : Int) (ha : a < 2 ^ 64) (h0 : 0 ≤ n) (h1 : n < 9223372036854775808) : matinsref06_Has F a n = some (hasB a n) := by
  obtain ⟨k, rfl⟩ := Int.eq_ofNat_of_zero_le h0
  unfold matinsref06_Has hasB
  rw [wrap_u64 k (by omega)]
  have e : Int.fdiv (a : Int) ((2 : Int) ^ (min ((k : Int)).toNat 64)) = ((a / 2 ^ (min k 64) : Nat) : Int) := by
    rw [Int.toNat_natCast, show ((2 : Int) ^ (min k 64)) = ((2 ^ (min k 64) : Nat) : Int) by simp, Int.fdiv_eq_ediv_of_nonneg _ (Int.natCast_nonneg _)]
    rfl
  have hlt : a / 2 ^ (min k 64) < 2 ^ 64 := Nat.lt_of_le_of_lt (Nat.div_le_self _ _) ha
  have q := ib_and (a / 2 ^ (min k 64)) 1 hlt (by decide)
  rw [show ((1 : Nat) : Int) = 1 from rfl] at q
  rw [e, q, Nat.and_one_is_mod, decide_eq_true (show (0 : Int) ≤ k by omega)]
  rfl

theorem leap_eq (F : Nat) (y : Int) : civil_leap F y = matinsref04_Leap F y := by
  unfold civil_leap matinsref04_Leap
  have h : (Int.tmod y 400 == 0) = true → (Int.tmod y 4 == 0) = true := by
    simp only [beq_iff_eq]
    intro h
    have : (400 : Int) ∣ y := Int.dvd_of_tmod_eq_zero h
    exact Int.tmod_eq_zero_of_dvd (Int.dvd_trans (by decide) this)
  revert h
  cases (Int.tmod y 400 == 0) <;> cases (Int.tmod y 4 == 0) <;> cases hq : (Int.tmod y 100 == 0) <;> simp [bne, hq]
theorem days_eq (F : Nat) (y m : Int) : civil_Days F y m = matinsref04_Days F y m := by
  unfold civil_Days matinsref04_Days
  rw [leap_eq]
  cases h1 : decide (y < 1970) <;> cases h2 : decide (2399 < y) <;> cases h3 : decide (m < 1) <;> cases h4 : decide (12 < m) <;> simp only [cond_true, cond_false, Option.bind_some]
  have a := of_decide_eq_false h3
  have b := of_decide_eq_false h4
  have h : m = 1 ∨ m = 2 ∨ m = 3 ∨ m = 4 ∨ m = 5 ∨ m = 6 ∨ m = 7 ∨ m = 8 ∨ m = 9 ∨ m = 10 ∨ m = 11 ∨ m = 12 := by omega
  clear h1 h2 h3 h4
  rcases h with rfl | rfl | rfl | rfl | rfl | rfl | rfl | rfl | rfl | rfl | rfl | rfl
  all_goals first
    | rfl
    | (unfold matinsref04_Leap
       cases (Int.tmod y 400 == 0) <;> cases (Int.tmod y 4 == 0) <;> cases (Int.tmod y 100 != 0) <;> rfl)

theorem wrap_i64 (n : Int) (h0 : -9223372036854775808 ≤ n) (h1 : n < 9223372036854775808) : IntKind.wrap .i64 n = n := by
  simp only [IntKind.wrap, IntKind.signed, IntKind.bits]
  simp
  omega
theorem year_ex (F : Nat) (y : Int) : ∃ d, matinsref04_year F y = some d := by
  unfold matinsref04_year matinsref04_Leap
  cases (Int.tmod y 400 == 0) <;> cases (Int.tmod y 4 == 0) <;> cases (Int.tmod y 100 != 0) <;> exact ⟨_, rfl⟩
theorem to_l0 (F : Nat) (c : api_Civil) (hy : c.Year ≤ 2399) : ∀ (n : Nat) (d y : Int), 1970 ≤ y → (c.Year - y).toNat < n → ∃ r, matinsref04_To_l0 F c n d y = some r := by
  intro n
  induction n with
  | zero => intro d y _ h; omega
  | succ n ih =>
    intro d y h0 h
    rw [matinsref04_To_l0.eq_2]
    by_cases hlt : y < c.Year
    · obtain ⟨q, hq⟩ := year_ex F y
      rw [decide_eq_true hlt, cond_true, hq, Option.bind_some, wrap_i64 (y + 1) (by omega) (by omega)]
      exact ih _ _ (by omega) (by omega)
    · rw [decide_eq_false hlt]; exact ⟨_, rfl⟩
theorem to_l1 (F : Nat) (c : api_Civil) (hm : c.Month ≤ 12) : ∀ (n : Nat) (d m : Int), 1 ≤ m → (c.Month - m).toNat < n → ∃ r, matinsref04_To_l1 F c n d m = some r := by
  intro n
  induction n with
  | zero => intro d m _ h; omega
  | succ n ih =>
    intro d m h0 h
    rw [matinsref04_To_l1.eq_2]
    by_cases hlt : m < c.Month
    · obtain ⟨q, hq, _⟩ := days_le F c.Year m
      rw [days_eq] at hq
      rw [decide_eq_true hlt, cond_true, hq, Option.bind_some, wrap_i64 (m + 1) (by omega) (by omega)]
      exact ih _ _ (by omega) (by omega)
    · rw [decide_eq_false hlt]; exact ⟨_, rfl⟩
theorem days_year (F : Nat) (y mo d : Int) (h : civil_Days F y mo = some d) (h1 : 1 ≤ d) : 1970 ≤ y ∧ y ≤ 2399 := by
  unfold civil_Days at h
  by_cases a : y < 1970
  · rw [decide_eq_true a] at h; simp at h; omega
  by_cases b : 2399 < y
  · rw [decide_eq_false a, decide_eq_true b] at h; simp at h; omega
  omega
theorem to_both (m : api_Civil) : ∃ t t' e, civil_To 2000000 m = some (t, e) ∧ matinsref04_To 2000000 m = some (t', e) ∧ (e = 0 → 1 ≤ m.Day ∧ m.Day ≤ 31 ∧ 0 ≤ m.Hour ∧ m.Hour ≤ 23 ∧ 0 ≤ m.Minute ∧ m.Minute ≤ 59 ∧ 1 ≤ m.Month ∧ m.Month ≤ 12) := by
  obtain ⟨d, hd, hd1, hd2⟩ := days_le 2000000 m.Year m.Month
  have hdr := hd
  rw [days_eq] at hdr
  unfold civil_To matinsref04_To civil_number
  simp only [hd, hdr, Option.bind_some]
  cases h1 : decide (m.Day < 1) <;> cases h2 : decide (d < m.Day) <;> cases h3 : decide (m.Hour < 0) <;> cases h4 : decide (23 < m.Hour) <;> cases h5 : decide (m.Minute < 0) <;> cases h6 : decide (59 < m.Minute) <;>
    simp only [cond_true, cond_false, Option.bind_some]
  all_goals try exact ⟨_, _, _, rfl, rfl, fun h => absurd h (by decide)⟩
  have a1 := of_decide_eq_false h1
  have a2 := of_decide_eq_false h2
  have a3 := of_decide_eq_false h3
  have a4 := of_decide_eq_false h4
  have a5 := of_decide_eq_false h5
  have a6 := of_decide_eq_false h6
  have a7 := hd2 (by omega)
  have a8 := days_year 2000000 _ _ _ hd (by omega)
  obtain ⟨r0, e0⟩ := to_l0 2000000 m a8.2 2000000 (IntKind.wrap IntKind.i64 (m.Day - 1)) 1970 (by decide) (by omega)
  obtain ⟨r1, e1⟩ := to_l1 2000000 m a7.2 2000000 r0 1 (by decide) (by omega)
  rw [e0, Option.bind_some, e1, Option.bind_some]
  cases decide (m.Month ≤ 2) <;> exact ⟨_, _, _, rfl, rfl, fun _ => by omega⟩
theorem rfits_eq (c : api_Cron) (hc : api_Cron.ok 1048576 c) (m : api_Civil) : matinsref06_Fits 2000000 c m = cron_Fits 2000000 c m := by
  obtain ⟨t, t', e, h, h', hr⟩ := to_both m
  have hk := check_eq 1999994 c
  simp only [show 1999994 + 6 = 2000000 from rfl] at hk
  unfold matinsref06_Fits cron_Fits
  simp only [h, h', Option.bind_some, hk, rcheck_eq c hc, has01]
  cases he : (e == 0)
  · simp [bne, he]
  have h0 : e = 0 := by simpa using he
  obtain ⟨q1, q2, q3, q4, q5, q6, q7, q8⟩ := hr h0
  have d1 : decide ((0 : Int) ≤ m.Minute) = true := decide_eq_true q5
  have d2 : decide ((0 : Int) ≤ m.Hour) = true := decide_eq_true q3
  have d3 : decide ((0 : Int) ≤ m.Month) = true := decide_eq_true (by omega)
  have d4 : decide ((0 : Int) ≤ m.Day) = true := decide_eq_true (by omega)
  simp only [bne, he, d1, d2, d3, d4, Bool.not_true, cond_false, cond_true]
  cases chkB c with
  | false => rfl
  | true =>
  by_cases hw0 : m.Week < 0
  · rw [decide_eq_true hw0]; rfl
  rw [decide_eq_false hw0, decide_eq_true (show (0 : Int) ≤ m.Week by omega)]
  by_cases hw1 : 6 < m.Week
  · rw [decide_eq_true hw1]; rfl
  rw [decide_eq_false hw1]
  obtain ⟨mi, ho, da, mo, we, ad, aw⟩ := c
  obtain ⟨c1, c2, c3, c4, c5, -⟩ := hc
  have p1 := okI_u64 c1
  have p2 := okI_u64 c2
  have p3 := okI_u64 c3
  have p4 := okI_u64 c4
  have p5 := okI_u64 c5
  obtain ⟨a1, rfl⟩ := Int.eq_ofNat_of_zero_le p1.1
  obtain ⟨a2, rfl⟩ := Int.eq_ofNat_of_zero_le p2.1
  obtain ⟨a3, rfl⟩ := Int.eq_ofNat_of_zero_le p3.1
  obtain ⟨a4, rfl⟩ := Int.eq_ofNat_of_zero_le p4.1
  obtain ⟨a5, rfl⟩ := Int.eq_ofNat_of_zero_le p5.1
  have l1 : a1 < 2 ^ 64 := by have := p1.2; simp only at this; omega
  have l2 : a2 < 2 ^ 64 := by have := p2.2; simp only at this; omega
  have l3 : a3 < 2 ^ 64 := by have := p3.2; simp only at this; omega
  have l4 : a4 < 2 ^ 64 := by have := p4.2; simp only at this; omega
  have l5 : a5 < 2 ^ 64 := by have := p5.2; simp only at this; omega
  have u1 : ∀ b n : Int, (ibits BinOp.and IntKind.u64 (Int.fdiv b (2 ^ (min n.toNat 64))) 1 == 1) = hasB b n := fun _ _ => rfl
  unfold matinsref06_Day
  simp only [u1, rhas_eq 2000000 a1 m.Minute l1 q5 (by omega), rhas_eq 2000000 a2 m.Hour l2 q3 (by omega), rhas_eq 2000000 a3 m.Day l3 (by omega) (by omega), rhas_eq 2000000 a4 m.Month l4 (by omega) (by omega), rhas_eq 2000000 a5 m.Week l5 (by omega) (by omega), Option.bind_some]
  cases hasB a1 m.Minute <;> cases hasB a2 m.Hour <;> cases hasB a4 m.Month <;> cases ad <;> cases aw <;> cases hasB a3 m.Day <;> cases hasB a5 m.Week <;> rfl
end Go.T
