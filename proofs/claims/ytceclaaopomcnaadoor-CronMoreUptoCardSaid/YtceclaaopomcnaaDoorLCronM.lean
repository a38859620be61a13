/-
  LCronM: bits of numbers; the law CronMore in plain Lean: more bits fit more.
-/
import Derived.Test.YtceclaaopomcnaaDoorLCronB
namespace Go.T
open Go Go.Ab Go.Proofs

theorem wrap_u64 (n : Nat) (h : n < 2 ^ 64) : IntKind.wrap .u64 (n : Int) = n := by
  simp only [IntKind.wrap, IntKind.signed, IntKind.bits]
  simp
  omega
theorem ofInt_nat (a : Nat) : BitVec.ofInt 64 (a : Int) = BitVec.ofNat 64 a := by simp [BitVec.ofInt_natCast]
theorem ib_or (a b : Nat) (ha : a < 2 ^ 64) (hb : b < 2 ^ 64) : ibits .or .u64 (a : Int) (b : Int) = ((a ||| b : Nat) : Int) := by
  have : (BitVec.ofInt (IntKind.bits .u64) (a : Int) ||| BitVec.ofInt (IntKind.bits .u64) (b : Int)).toNat = a ||| b := by
    show (BitVec.ofInt 64 (a : Int) ||| BitVec.ofInt 64 (b : Int)).toNat = _
    rw [ofInt_nat, ofInt_nat, BitVec.toNat_or, BitVec.toNat_ofNat, BitVec.toNat_ofNat, Nat.mod_eq_of_lt ha, Nat.mod_eq_of_lt hb]
  unfold ibits
  simp only [this]
  exact wrap_u64 _ (Nat.or_lt_two_pow ha hb)
theorem ib_and (a b : Nat) (ha : a < 2 ^ 64) (hb : b < 2 ^ 64) : ibits .and .u64 (a : Int) (b : Int) = ((a &&& b : Nat) : Int) := by
  have : (BitVec.ofInt (IntKind.bits .u64) (a : Int) &&& BitVec.ofInt (IntKind.bits .u64) (b : Int)).toNat = a &&& b := by
    show (BitVec.ofInt 64 (a : Int) &&& BitVec.ofInt 64 (b : Int)).toNat = _
    rw [ofInt_nat, ofInt_nat, BitVec.toNat_and, BitVec.toNat_ofNat, BitVec.toNat_ofNat, Nat.mod_eq_of_lt ha, Nat.mod_eq_of_lt hb]
  unfold ibits
  simp only [this]
  exact wrap_u64 _ (Nat.and_lt_two_pow _ hb)
/-- what one has and the other has not -/
def diffN (a b : Nat) : Nat := (BitVec.ofNat 64 a &&& ~~~BitVec.ofNat 64 b).toNat
theorem diffN_lt (a b : Nat) : diffN a b < 2 ^ 64 := BitVec.isLt _
theorem ib_not (a b : Nat) : ibits .andNot .u64 (a : Int) (b : Int) = (diffN a b : Int) := by
  have : (BitVec.ofInt (IntKind.bits .u64) (a : Int) &&& ~~~BitVec.ofInt (IntKind.bits .u64) (b : Int)).toNat = diffN a b := by
    show (BitVec.ofInt 64 (a : Int) &&& ~~~BitVec.ofInt 64 (b : Int)).toNat = _
    rw [ofInt_nat, ofInt_nat]; rfl
  unfold ibits
  simp only [this]
  exact wrap_u64 _ (diffN_lt a b)
theorem diffN_bit (a b i : Nat) (ha : a < 2 ^ 64) (hb : b < 2 ^ 64) : (diffN a b).testBit i = (a.testBit i && !b.testBit i) := by
  unfold diffN
  by_cases hi : i < 64
  · rw [← BitVec.getLsbD, BitVec.getLsbD_and, BitVec.getLsbD_not]
    have e1 : a % 18446744073709551616 = a := Nat.mod_eq_of_lt ha
    have e2 : b % 18446744073709551616 = b := Nat.mod_eq_of_lt hb
    simp [BitVec.getLsbD, hi, e1, e2]
  · rw [Nat.testBit_lt_two_pow (Nat.lt_of_lt_of_le (BitVec.isLt _) (Nat.pow_le_pow_right (by decide) (by omega))), Nat.testBit_lt_two_pow (Nat.lt_of_lt_of_le ha (Nat.pow_le_pow_right (by decide) (by omega)))]
    rfl
theorem diffN_zero (a b : Nat) (ha : a < 2 ^ 64) (hb : b < 2 ^ 64) : diffN a b = 0 ↔ ∀ i, a.testBit i = true → b.testBit i = true := by
  constructor
  · intro h i hi
    have := diffN_bit a b i ha hb
    rw [h, Nat.zero_testBit, hi] at this
    simpa using this
  · intro h
    apply Nat.eq_of_testBit_eq
    intro i
    rw [diffN_bit a b i ha hb, Nat.zero_testBit]
    have q := h i
    clear h
    revert q
    cases a.testBit i <;> cases b.testBit i <;> simp
theorem okF_nat (a f : Nat) (ha : a < 2 ^ 64) (hf : f < 2 ^ 64) : okF a f = true ↔ a ≠ 0 ∧ ∀ i, a.testBit i = true → f.testBit i = true := by
  unfold okF
  rw [ib_not, Bool.and_eq_true]
  constructor
  · rintro ⟨h1, h2⟩
    refine ⟨by simpa using h1, (diffN_zero a f ha hf).1 ?_⟩
    have := beq_iff_eq.1 h2
    omega
  · rintro ⟨h1, h2⟩
    refine ⟨by simpa using h1, ?_⟩
    rw [(diffN_zero a f ha hf).2 h2]; rfl
theorem hasB_nat (a : Nat) (n : Int) (ha : a < 2 ^ 64) (hn : 0 ≤ n) : hasB a n = a.testBit n.toNat := by
  unfold hasB
  obtain ⟨k, rfl⟩ := Int.eq_ofNat_of_zero_le hn
  have e : Int.fdiv (a : Int) ((2 : Int) ^ (min ((k : Int)).toNat 64)) = ((a / 2 ^ (min k 64) : Nat) : Int) := by
    rw [Int.toNat_natCast, show ((2 : Int) ^ (min k 64)) = ((2 ^ (min k 64) : Nat) : Int) by simp, Int.fdiv_eq_ediv_of_nonneg _ (Int.natCast_nonneg _)]
    rfl
  rw [e]
  have hlt : a / 2 ^ (min k 64) < 2 ^ 64 := Nat.lt_of_le_of_lt (Nat.div_le_self _ _) ha
  have h1 := ib_and (a / 2 ^ (min k 64)) 1 hlt (by decide)
  rw [show ((1 : Nat) : Int) = 1 from rfl] at h1
  rw [h1, Nat.and_one_is_mod, Int.toNat_natCast, Nat.testBit_eq_decide_div_mod_eq]
  by_cases hk : k ≤ 64
  · rw [Nat.min_eq_left hk, Bool.eq_iff_iff]
    simp only [beq_iff_eq, decide_eq_true_eq]
    omega
  · rw [Nat.min_eq_right (by omega)]
    have z1 : a / 2 ^ 64 = 0 := Nat.div_eq_of_lt ha
    have z2 : a / 2 ^ k = 0 := Nat.div_eq_of_lt (Nat.lt_of_lt_of_le ha (Nat.pow_le_pow_right (by decide) (by omega)))
    rw [z1, z2]; rfl
/-- a bit more is right where it may be, and nothing is lost -/
theorem more_ok (a f k : Nat) (ha : a < 2 ^ 64) (hf : f < 2 ^ 64) (hk : k < 64) (hb : f.testBit k = true) (h : okF a f = true) : okF ((a ||| 2 ^ k : Nat) : Int) f = true := by
  have h2 : (2 : Nat) ^ k < 2 ^ 64 := Nat.pow_lt_pow_right (by decide) hk
  have h := (okF_nat a f ha hf).1 h
  refine (okF_nat _ f (Nat.or_lt_two_pow ha h2) hf).2 ⟨fun e => ?_, fun i hi => ?_⟩
  · have : (a ||| 2 ^ k).testBit k = true := by rw [Nat.testBit_or, Nat.testBit_two_pow_self, Bool.or_true]
    rw [e, Nat.zero_testBit] at this; cases this
  · rw [Nat.testBit_or, Bool.or_eq_true] at hi
    rcases hi with hi | hi
    · exact h.2 i hi
    · rw [Nat.testBit_two_pow] at hi
      have : k = i := by simpa using hi
      subst this; exact hb
theorem more_has (a k : Nat) (n : Int) (ha : a < 2 ^ 64) (hk : k < 64) (hn : 0 ≤ n) (h : hasB a n = true) : hasB ((a ||| 2 ^ k : Nat) : Int) n = true := by
  have h2 : (2 : Nat) ^ k < 2 ^ 64 := Nat.pow_lt_pow_right (by decide) hk
  rw [hasB_nat _ n (Nat.or_lt_two_pow ha h2) hn, Nat.testBit_or, ← hasB_nat a n ha hn, h]; rfl
theorem one_shl (x : Int) (k : Nat) (hx : x = k) (hk : k < 64) : IntKind.wrap .u64 ((1 : Int) * (2 : Int) ^ (min (Int.toNat (IntKind.wrap .u64 x)) 64)) = ((2 ^ k : Nat) : Int) := by
  subst hx
  rw [wrap_u64 k (by omega), Int.toNat_natCast, Nat.min_eq_left (by omega), Int.one_mul, show ((2 : Int) ^ k) = ((2 ^ k : Nat) : Int) by simp]
  exact wrap_u64 _ (Nat.pow_lt_pow_right (by decide) hk)
theorem CronMore_true (c : api_Cron) (bit : Int) (m : api_Civil) (hc : api_Cron.ok 1048576 c) : matinslaw06_CronMore 2000000 c bit m = some true := by
  unfold matinslaw06_CronMore
  obtain ⟨v, hv, _, ok, hok, hf⟩ := fits_eq 1999994 c m
  have hk := fun c => check_eq 1999994 c
  simp only [show 1999994 + 6 = 2000000 from rfl] at hf hk
  simp only [awake_ok, Option.bind_some, hk, hf, Bool.not_true, cond_false]
  by_cases b0 : bit < 0
  · simp [b0]
  by_cases b1 : 59 < bit
  · simp [b0, b1]
  obtain ⟨k, rfl⟩ := Int.eq_ofNat_of_zero_le (show 0 ≤ bit by omega)
  have hk60 : k < 60 := by omega
  rw [decide_eq_false b0, decide_eq_false b1]
  simp only [cond_false]
  cases h1 : chkB c
  · rfl
  cases h2 : (ok && true && fitsB c m)
  · simp
  have h3 : ok = true := by cases ok <;> simp_all
  subst h3
  have h4 : fitsB c m = true := by simpa using h2
  obtain ⟨mi, ho, da, mo, we, ad, aw⟩ := c
  obtain ⟨c1, c2, c3, c4, c5, -⟩ := hc
  have q1 := okI_u64 c1
  have q2 := okI_u64 c2
  have q4 := okI_u64 c4
  obtain ⟨a1, rfl⟩ := Int.eq_ofNat_of_zero_le q1.1
  obtain ⟨a2, rfl⟩ := Int.eq_ofNat_of_zero_le q2.1
  obtain ⟨a4, rfl⟩ := Int.eq_ofNat_of_zero_le q4.1
  have l1 : a1 < 2 ^ 64 := by have := q1.2; simp only at this; omega
  have l2 : a2 < 2 ^ 64 := by have := q2.2; simp only at this; omega
  have l4 : a4 < 2 ^ 64 := by have := q4.2; simp only at this; omega
  have t24 : Int.tmod (k : Int) 24 = ((k % 24 : Nat) : Int) := rfl
  have t12 : Int.tmod (k : Int) 12 = ((k % 12 : Nat) : Int) := rfl
  have w12 : IntKind.wrap .i64 ((1 : Int) + ((k % 12 : Nat) : Int)) = ((1 + k % 12 : Nat) : Int) := by
    have : k % 12 < 12 := Nat.mod_lt _ (by decide)
    simp only [IntKind.wrap, IntKind.signed, IntKind.bits]
    simp
    omega
  have m24 : k % 24 < 24 := Nat.mod_lt _ (by decide)
  have m12 : k % 12 < 12 := Nat.mod_lt _ (by decide)
  have g1 : decide ((0 : Int) ≤ IntKind.wrap .u64 (k : Int)) = true := decide_eq_true (by rw [wrap_u64 k (by omega)]; omega)
  have g2 : decide ((0 : Int) ≤ IntKind.wrap .u64 (((k % 24 : Nat) : Int))) = true := decide_eq_true (by rw [wrap_u64 _ (by omega)]; omega)
  have g3 : decide ((0 : Int) ≤ IntKind.wrap .u64 (((1 + k % 12 : Nat) : Int))) = true := decide_eq_true (by rw [wrap_u64 _ (by omega)]; omega)
  have z1 := one_shl (k : Int) k rfl (by omega)
  have z2 := one_shl ((k % 24 : Nat) : Int) (k % 24) rfl (by omega)
  have z3 := one_shl ((1 + k % 12 : Nat) : Int) (1 + k % 12) rfl (by omega)
  have p1 : (2 : Nat) ^ k < 2 ^ 64 := Nat.pow_lt_pow_right (by decide) (by omega)
  have p2 : (2 : Nat) ^ (k % 24) < 2 ^ 64 := Nat.pow_lt_pow_right (by decide) (by omega)
  have p3 : (2 : Nat) ^ (1 + k % 12) < 2 ^ 64 := Nat.pow_lt_pow_right (by decide) (by omega)
  simp only [t24, t12, w12, g1, g2, g3, z1, z2, z3, ib_or _ _ l1 p1, ib_or _ _ l2 p2, ib_or _ _ l4 p3, cond_true, Bool.not_true, cond_false]
  simp only [chkB, Bool.and_eq_true] at h1
  obtain ⟨⟨⟨⟨⟨⟨k1, k2⟩, k3⟩, k4⟩, k5⟩, k6⟩, k7⟩ := h1
  have f0 : ∀ k : Nat, k < 60 → (1152921504606846975 : Nat).testBit k = true := by decide
  have f1 : ∀ k : Nat, k < 24 → (16777215 : Nat).testBit k = true := by decide
  have f3 : ∀ k : Nat, k < 12 → (8190 : Nat).testBit (1 + k) = true := by decide
  have n1 := more_ok a1 1152921504606846975 k l1 (by decide) (by omega) (f0 k hk60) k1
  have n2 := more_ok a2 16777215 (k % 24) l2 (by decide) (by omega) (f1 _ m24) k2
  have n3 := more_ok a4 8190 (1 + k % 12) l4 (by decide) (by omega) (f3 _ m12) k4
  obtain ⟨-, -, -, -, r1, r2, r3⟩ := hok rfl
  have e1 : chkB ⟨((a1 ||| 2 ^ k : Nat) : Int), a2, da, a4, we, ad, aw⟩ = true := by
    simp only [chkB, Bool.and_eq_true]; exact ⟨⟨⟨⟨⟨⟨n1, k2⟩, k3⟩, k4⟩, k5⟩, k6⟩, k7⟩
  have e2 : chkB ⟨a1, ((a2 ||| 2 ^ (k % 24) : Nat) : Int), da, a4, we, ad, aw⟩ = true := by
    simp only [chkB, Bool.and_eq_true]; exact ⟨⟨⟨⟨⟨⟨k1, n2⟩, k3⟩, k4⟩, k5⟩, k6⟩, k7⟩
  have e3 : chkB ⟨a1, a2, da, ((a4 ||| 2 ^ (1 + k % 12) : Nat) : Int), we, ad, aw⟩ = true := by
    simp only [chkB, Bool.and_eq_true]; exact ⟨⟨⟨⟨⟨⟨k1, k2⟩, k3⟩, n3⟩, k5⟩, k6⟩, k7⟩
  unfold fitsB at h4
  rw [Bool.and_eq_true, Bool.and_eq_true, Bool.and_eq_true] at h4
  obtain ⟨⟨⟨s1, s2⟩, s3⟩, s4⟩ := h4
  have u1 := more_has a1 k _ l1 (by omega) r1 s1
  have u2 := more_has a2 (k % 24) _ l2 (by omega) r2 s2
  have u3 := more_has a4 (1 + k % 12) _ l4 (by omega) r3 s3
  have d1 : fitsB ⟨((a1 ||| 2 ^ k : Nat) : Int), a2, da, a4, we, ad, aw⟩ m = true := by
    unfold fitsB; rw [Bool.and_eq_true, Bool.and_eq_true, Bool.and_eq_true]; exact ⟨⟨⟨u1, s2⟩, s3⟩, s4⟩
  have d2 : fitsB ⟨a1, ((a2 ||| 2 ^ (k % 24) : Nat) : Int), da, a4, we, ad, aw⟩ m = true := by
    unfold fitsB; rw [Bool.and_eq_true, Bool.and_eq_true, Bool.and_eq_true]; exact ⟨⟨⟨s1, u2⟩, s3⟩, s4⟩
  have d3 : fitsB ⟨a1, a2, da, ((a4 ||| 2 ^ (1 + k % 12) : Nat) : Int), we, ad, aw⟩ m = true := by
    unfold fitsB; rw [Bool.and_eq_true, Bool.and_eq_true, Bool.and_eq_true]; exact ⟨⟨⟨s1, s2⟩, u3⟩, s4⟩
  simp only [e1, e2, e3, d1, d2, d3, Bool.and_true, cond_true]
  rfl
end Go.T
