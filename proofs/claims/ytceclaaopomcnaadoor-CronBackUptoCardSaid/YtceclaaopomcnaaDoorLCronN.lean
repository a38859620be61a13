/-
  LCronN: bits of numbers.
-/
import Derived.Test.YtceclaaopomcnaaDoorLCronB0
namespace Go.T
open Go Go.Ab Go.Proofs

theorem wrap_u64 (n : Nat) (h : n < 2 ^ 64) : IntKind.wrap .u64 (n : Int) = n := by
  simp only [IntKind.wrap, IntKind.signed, IntKind.bits]
  simp
  omega
theorem ofInt_nat (a : Nat) : BitVec.ofInt 64 (a : Int) = BitVec.ofNat 64 a := by simp [BitVec.ofInt_natCast]
theorem ib_or (a b : Nat) (ha : a < 2 ^ 64) (hb : b < 2 ^ 64) : ibits .or .u64 (a : Int) (b : Int) = ((a ||| b : Nat) : Int) := by
  have : (BitVec.ofInt (IntKind.bits .u64) (a : Int) ||| BitVec.ofInt (IntKind.bits .u64) (b : Int)).toNat = a ||| b := by
    show (BitVec.ofInt 64 (a : Int) ||| BitVec.ofInt 64 (b : Int)).toNat = _
    rw [ofInt_nat, ofInt_nat, BitVec.toNat_or, BitVec.toNat_ofNat, BitVec.toNat_ofNat, Nat.mod_eq_of_lt ha, Nat.mod_eq_of_lt hb]
  unfold ibits
  simp only [this]
  exact wrap_u64 _ (Nat.or_lt_two_pow ha hb)
theorem ib_and (a b : Nat) (ha : a < 2 ^ 64) (hb : b < 2 ^ 64) : ibits .and .u64 (a : Int) (b : Int) = ((a &&& b : Nat) : Int) := by
  have : (BitVec.ofInt (IntKind.bits .u64) (a : Int) &&& BitVec.ofInt (IntKind.bits .u64) (b : Int)).toNat = a &&& b := by
    show (BitVec.ofInt 64 (a : Int) &&& BitVec.ofInt 64 (b : Int)).toNat = _
    rw [ofInt_nat, ofInt_nat, BitVec.toNat_and, BitVec.toNat_ofNat, BitVec.toNat_ofNat, Nat.mod_eq_of_lt ha, Nat.mod_eq_of_lt hb]
  unfold ibits
  simp only [this]
  exact wrap_u64 _ (Nat.and_lt_two_pow _ hb)
/-- what one has and the other has not -/
def diffN (a b : Nat) : Nat := (BitVec.ofNat 64 a &&& ~~~BitVec.ofNat 64 b).toNat
theorem diffN_lt (a b : Nat) : diffN a b < 2 ^ 64 := BitVec.isLt _
theorem ib_not (a b : Nat) : ibits .andNot .u64 (a : Int) (b : Int) = (diffN a b : Int) := by
  have : (BitVec.ofInt (IntKind.bits .u64) (a : Int) &&& ~~~BitVec.ofInt (IntKind.bits .u64) (b : Int)).toNat = diffN a b := by
    show (BitVec.ofInt 64 (a : Int) &&& ~~~BitVec.ofInt 64 (b : Int)).toNat = _
    rw [ofInt_nat, ofInt_nat]; rfl
  unfold ibits
  simp only [this]
  exact wrap_u64 _ (diffN_lt a b)
theorem diffN_bit (a b i : Nat) (ha : a < 2 ^ 64) (hb : b < 2 ^ 64) : (diffN a b).testBit i = (a.testBit i && !b.testBit i) := by
  unfold diffN
  by_cases hi : i < 64
  · rw [← BitVec.getLsbD, BitVec.getLsbD_and, BitVec.getLsbD_not]
    have e1 : a % 18446744073709551616 = a := Nat.mod_eq_of_lt ha
    have e2 : b % 18446744073709551616 = b := Nat.mod_eq_of_lt hb
    simp [BitVec.getLsbD, hi, e1, e2]
  · rw [Nat.testBit_lt_two_pow (Nat.lt_of_lt_of_le (BitVec.isLt _) (Nat.pow_le_pow_right (by decide) (by omega))), Nat.testBit_lt_two_pow (Nat.lt_of_lt_of_le ha (Nat.pow_le_pow_right (by decide) (by omega)))]
    rfl
theorem diffN_zero (a b : Nat) (ha : a < 2 ^ 64) (hb : b < 2 ^ 64) : diffN a b = 0 ↔ ∀ i, a.testBit i = true → b.testBit i = true := by
  constructor
  · intro h i hi
    have := diffN_bit a b i ha hb
    rw [h, Nat.zero_testBit, hi] at this
    simpa using this
  · intro h
    apply Nat.eq_of_testBit_eq
    intro i
    rw [diffN_bit a b i ha hb, Nat.zero_testBit]
    have q := h i
    clear h
    revert q
    cases a.testBit i <;> cases b.testBit i <;> simp
theorem okF_nat (a f : Nat) (ha : a < 2 ^ 64) (hf : f < 2 ^ 64) : okF a f = true ↔ a ≠ 0 ∧ ∀ i, a.testBit i = true → f.testBit i = true := by
  unfold okF
  rw [ib_not, Bool.and_eq_true]
  constructor
  · rintro ⟨h1, h2⟩
    refine ⟨by simpa using h1, (diffN_zero a f ha hf).1 ?_⟩
    have := beq_iff_eq.1 h2
    omega
  · rintro ⟨h1, h2⟩
    refine ⟨by simpa using h1, ?_⟩
    rw [(diffN_zero a f ha hf).2 h2]; rfl
theorem hasB_nat (a : Nat) (n : Int) (ha : a < 2 ^ 64) (hn : 0 ≤ n) : hasB a n = a.testBit n.toNat := by
  unfold hasB
  obtain ⟨k, rfl⟩ := Int.eq_ofNat_of_zero_le hn
  have e : Int.fdiv (a : Int) ((2 : Int) ^ (min ((k : Int)).toNat 64)) = ((a / 2 ^ (min k 64) : Nat) : Int) := by
    rw [Int.toNat_natCast, show ((2 : Int) ^ (min k 64)) = ((2 ^ (min k 64) : Nat) : Int) by simp, Int.fdiv_eq_ediv_of_nonneg _ (Int.natCast_nonneg _)]
    rfl
  rw [e]
  have hlt : a / 2 ^ (min k 64) < 2 ^ 64 := Nat.lt_of_le_of_lt (Nat.div_le_self _ _) ha
  have h1 := ib_and (a / 2 ^ (min k 64)) 1 hlt (by decide)
  rw [show ((1 : Nat) : Int) = 1 from rfl] at h1
  rw [h1, Nat.and_one_is_mod, Int.toNat_natCast, Nat.testBit_eq_decide_div_mod_eq]
  by_cases hk : k ≤ 64
  · rw [Nat.min_eq_left hk, Bool.eq_iff_iff]
    simp only [beq_iff_eq, decide_eq_true_eq]
    omega
  · rw [Nat.min_eq_right (by omega)]
    have z1 : a / 2 ^ 64 = 0 := Nat.div_eq_of_lt ha
    have z2 : a / 2 ^ k = 0 := Nat.div_eq_of_lt (Nat.lt_of_lt_of_le ha (Nat.pow_le_pow_right (by decide) (by omega)))
    rw [z1, z2]; rfl
/-- a bit more is right where it may be, and nothing is lost -/
theorem more_ok (a f k : Nat) (ha : a < 2 ^ 64) (hf : f < 2 ^ 64) (hk : k < 64) (hb : f.testBit k = true) (h : okF a f = true) : okF ((a ||| 2 ^ k : Nat) : Int) f = true := by
  have h2 : (2 : Nat) ^ k < 2 ^ 64 := Nat.pow_lt_pow_right (by decide) hk
  have h := (okF_nat a f ha hf).1 h
  refine (okF_nat _ f (Nat.or_lt_two_pow ha h2) hf).2 ⟨fun e => ?_, fun i hi => ?_⟩
  · have : (a ||| 2 ^ k).testBit k = true := by rw [Nat.testBit_or, Nat.testBit_two_pow_self, Bool.or_true]
    rw [e, Nat.zero_testBit] at this; cases this
  · rw [Nat.testBit_or, Bool.or_eq_true] at hi
    rcases hi with hi | hi
    · exact h.2 i hi
    · rw [Nat.testBit_two_pow] at hi
      have : k = i := by simpa using hi
      subst this; exact hb
theorem more_has (a k : Nat) (n : Int) (ha : a < 2 ^ 64) (hk : k < 64) (hn : 0 ≤ n) (h : hasB a n = true) : hasB ((a ||| 2 ^ k : Nat) : Int) n = true := by
  have h2 : (2 : Nat) ^ k < 2 ^ 64 := Nat.pow_lt_pow_right (by decide) hk
  rw [hasB_nat _ n (Nat.or_lt_two_pow ha h2) hn, Nat.testBit_or, ← hasB_nat a n ha hn, h]; rfl
theorem one_shl (x : Int) (k : Nat) (hx : x = k) (hk : k < 64) : IntKind.wrap .u64 ((1 : Int) * (2 : Int) ^ (min (Int.toNat (IntKind.wrap .u64 x)) 64)) = ((2 ^ k : Nat) : Int) := by
  subst hx
  rw [wrap_u64 k (by omega), Int.toNat_natCast, Nat.min_eq_left (by omega), Int.one_mul, show ((2 : Int) ^ k) = ((2 ^ k : Nat) : Int) by simp]
  exact wrap_u64 _ (Nat.pow_lt_pow_right (by decide) hk)
end Go.T
