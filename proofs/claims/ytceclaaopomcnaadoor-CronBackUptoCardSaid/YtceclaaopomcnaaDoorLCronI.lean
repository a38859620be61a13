/-
  LCronI: numbers, items and fields of an expression's text.
-/
import Derived.Test.YtceclaaopomcnaaDoorLCronN
import Derived.Test.YtceclaaopomcnaaDoorLStrA
namespace Go.T
open Go Go.Ab Go.Proofs

/-! numbers -/
def digB (c : UInt8) : Bool := ([48, 49, 50, 51, 52, 53, 54, 55, 56, 57] : List UInt8).contains c
theorem digB_nat (c : UInt8) (h : digB c = true) : 48 ≤ c.toNat ∧ c.toNat ≤ 57 := by
  have : ∀ n : Nat, n < 256 → digB (UInt8.ofNat n) = true → 48 ≤ n ∧ n ≤ 57 := by decide +kernel
  have q := this c.toNat (UInt8.toNat_lt c)
  rw [UInt8.ofNat_toNat] at q
  exact q h
def numV (l : List UInt8) : Nat := l.foldl (fun a c => a * 10 + (c.toNat - 48)) 0
theorem parse_dig : ∀ (l : List UInt8) (acc k : Nat), (∀ c, c ∈ l → digB c = true) → acc < 10 ^ k → k + l.length ≤ 18 → Lib.parseUint10 acc l = .ok (l.foldl (fun a c => a * 10 + (c.toNat - 48)) acc) ∧ l.foldl (fun a c => a * 10 + (c.toNat - 48)) acc < 10 ^ (k + l.length) := by
  intro l
  induction l with
  | nil => intro acc k _ h _; exact ⟨rfl, by simpa using h⟩
  | cons c r ih =>
    intro acc k hd ha hk
    have hc := digB_nat c (hd c List.mem_cons_self)
    simp only [List.length_cons] at hk
    have h17 : (10 : Nat) ^ k ≤ 10 ^ 17 := Nat.pow_le_pow_right (by decide) (by omega)
    have hb : acc * 10 + (c.toNat - 48) < 10 ^ (k + 1) := by rw [Nat.pow_succ]; omega
    obtain ⟨h1, h2⟩ := ih _ (k + 1) (fun d hd' => hd d (List.mem_cons_of_mem _ hd')) hb (by omega)
    simp only [Lib.parseUint10, List.foldl_cons, List.length_cons]
    rw [if_pos hc, if_neg (by omega), if_neg (by omega)]
    exact ⟨h1, by rw [show k + (r.length + 1) = k + 1 + r.length by omega]; exact h2⟩
theorem numV_lt (l : List UInt8) (h : ∀ c, c ∈ l → digB c = true) (hl : l.length ≤ 4) : numV l ≤ 9999 := by
  have := (parse_dig l 0 0 h (by decide) (by omega)).2
  have h2 : (10 : Nat) ^ (0 + l.length) ≤ 10 ^ 4 := Nat.pow_le_pow_right (by decide) (by omega)
  unfold numV
  omega
theorem atoi_dig (l : List UInt8) (h : ∀ c, c ∈ l → digB c = true) (h1 : 1 ≤ l.length) (hl : l.length ≤ 4) : Lib.atoiAll l = .ok (numV l : Int) := by
  cases l with
  | nil => simp at h1
  | cons c r =>
    have hc := digB_nat c (h c List.mem_cons_self)
    have hp := (parse_dig (c :: r) 0 0 h (by decide) (by omega)).1
    have hm : Lib.parseMag (c :: r) = .ok (numV (c :: r)) := by
      unfold Lib.parseMag
      rw [if_neg (by simp), hp]; rfl
    have hlt := numV_lt (c :: r) h hl
    have n43 : ¬ (c.toNat = 43 ∨ c.toNat = 45) := by omega
    have n45 : ¬ c.toNat = 45 := by omega
    unfold Lib.atoiAll
    simp only [n45, show ¬ c.toNat = 43 by omega, or_self, false_and, not_false_eq_true, true_and, if_false]
    rw [hm]
    simp only []
    rw [if_neg (by omega)]
theorem dw_nil {α : Type} (p : α → Bool) (l : List α) : l.dropWhile p = [] ↔ ∀ x, x ∈ l → p x = true := by
  induction l with
  | nil => simp
  | cons x l ih =>
    rw [List.dropWhile_cons]
    by_cases h : p x = true
    · rw [if_pos h, ih]
      constructor
      · intro q y hy
        rcases List.mem_cons.1 hy with rfl | hy
        · exact h
        · exact q y hy
      · intro q y hy
        exact q y (List.mem_cons_of_mem _ hy)
    · rw [if_neg h]
      constructor
      · intro q; cases q
      · intro q; exact absurd (q x List.mem_cons_self) h
theorem trim_nil (l cs : List UInt8) : Lib.trimS l cs = [] ↔ ∀ c, c ∈ l → cs.contains c = true := by
  unfold Lib.trimS Lib.trimLeftS Lib.trimRightS
  constructor
  · intro h
    have h1 := (dw_nil _ _).1 h
    by_cases hd : l.reverse.dropWhile (cs.contains ·) = []
    · intro c hc
      exact (dw_nil _ _).1 hd c (List.mem_reverse.2 hc)
    · exfalso
      obtain ⟨x, r, hx⟩ := List.exists_cons_of_ne_nil hd
      have hn : ¬ cs.contains x = true := by
        have := List.head_dropWhile_not (p := (cs.contains ·)) (l := l.reverse) (by simpa using hd)
        simp only [hx, List.head_cons] at this
        rw [this]; decide
      exact hn (h1 x (by rw [hx]; simp))
  · intro h
    have : l.reverse.dropWhile (cs.contains ·) = [] := (dw_nil _ _).2 fun c hc => h c (List.mem_reverse.1 hc)
    rw [this]; rfl
/-- is it a number? -/
def isNum (s : List UInt8) : Bool := decide (1 ≤ s.length) && decide (s.length ≤ 4) && s.all digB
theorem number_eq (F : Nat) (s : List UInt8) : cron_number F s = some (if isNum s then ((numV s : Int), true) else (0, false)) := by
  unfold cron_number isNum
  by_cases h1 : 1 ≤ s.length
  · rw [decide_eq_false (show ¬ ((s.length : Nat) : Int) < 1 by omega), decide_eq_true h1]
    by_cases h2 : s.length ≤ 4
    · rw [decide_eq_false (show ¬ (4 : Int) < ((s.length : Nat) : Int) by omega), decide_eq_true h2]
      simp only [cond_false, Bool.true_and]
      unfold strings_Trim
      rw [decide_eq_true (show s.length ≤ LIM ∧ _ ∧ _ from ⟨by unfold LIM; omega, by decide, by decide⟩)]
      simp only [cond_true, Option.bind_some]
      by_cases h3 : s.all digB = true
      · have hd : ∀ c, c ∈ s → digB c = true := List.all_eq_true.1 h3
        have ht : Lib.trimS s [48, 49, 50, 51, 52, 53, 54, 55, 56, 57] = [] := (trim_nil _ _).2 hd
        rw [ht, h3, if_pos rfl]
        unfold strconv_Atoi
        rw [atoi_dig s hd h1 h2, decide_eq_true (show s.length ≤ LIM by unfold LIM; omega)]
        rfl
      · have ht : Lib.trimS s [48, 49, 50, 51, 52, 53, 54, 55, 56, 57] ≠ [] := fun e => h3 (List.all_eq_true.2 ((trim_nil _ _).1 e))
        have hb : (Lib.trimS s [48, 49, 50, 51, 52, 53, 54, 55, 56, 57] == ([] : List UInt8)) = false := by simpa using ht
        rw [hb, if_neg h3]; rfl
    · rw [decide_eq_true (show (4 : Int) < ((s.length : Nat) : Int) by omega), decide_eq_false h2]; rfl
  · rw [decide_eq_true (show ((s.length : Nat) : Int) < 1 by omega), decide_eq_false h1]; rfl
theorem isNum_dig {s : List UInt8} (h : isNum s = true) : (∀ c, c ∈ s → digB c = true) ∧ 1 ≤ s.length ∧ s.length ≤ 4 := by
  unfold isNum at h
  simp only [Bool.and_eq_true, decide_eq_true_eq] at h
  exact ⟨List.all_eq_true.1 h.2, h.1.1, h.1.2⟩
theorem number_ex (F : Nat) (s : List UInt8) : ∃ (n : Nat) (ok : Bool), cron_number F s = some ((n : Int), ok) ∧ n ≤ 9999 := by
  rw [number_eq]
  by_cases h : isNum s = true
  · rw [if_pos h]
    exact ⟨_, _, rfl, numV_lt s (isNum_dig h).1 (isNum_dig h).2.2⟩
  · rw [if_neg h]; exact ⟨0, false, rfl, by decide⟩
/-! items -/
theorem cut_len (c : UInt8) (l : List UInt8) : (Lib.cut l [c]).1.length ≤ l.length ∧ (Lib.cut l [c]).2.1.length ≤ l.length := by
  rcases cut_one c l with ⟨_, e⟩ | ⟨p, r, h, _, e⟩
  · rw [e]; simp
  · rw [e, h]; simp; omega
theorem cut_eq (F : Nat) (s sep : List UInt8) (h : s.length ≤ 1000) : strings_Cut F s sep = some (Lib.cut s sep) := by
  unfold strings_Cut
  rw [decide_eq_true (by omega)]; rfl
theorem read_ex (F : Nat) (s : List UInt8) (f : cron_span) (hs : s.length ≤ 1000) (h0 : 0 ≤ f.least) : ∃ it ok, cron_read F s f = some (it, ok) ∧ 0 ≤ it.step ∧ it.step ≤ 9999 ∧ 0 ≤ it.from_ := by
  unfold cron_read
  rw [cut_eq F s _ hs, Option.bind_some]
  have hl := (cut_len 47 s).1
  have key : ∃ (n : Nat) (ok : Bool), (bif (Lib.cut s [47]).2.2 then (Option.bind (cron_number F (Lib.cut s [47]).2.1) fun y_4 => some (y_4.1, y_4.2)) else some ((1 : Int), true)) = some ((n : Int), ok) ∧ n ≤ 9999 := by
    cases (Lib.cut s [47]).2.2
    · exact ⟨1, true, rfl, by decide⟩
    · obtain ⟨n, ok, h, hn⟩ := number_ex F (Lib.cut s [47]).2.1
      rw [h]; exact ⟨n, ok, rfl, hn⟩
  obtain ⟨n, ok, hk, hn⟩ := key
  rw [hk, Option.bind_some]
  simp only []
  cases (Lib.cut s [47]).1 == ([42] : List UInt8)
  · simp only [cond_false]
    rw [cut_eq F (Lib.cut s [47]).1 _ (by omega), Option.bind_some]
    obtain ⟨a, oka, ha, _⟩ := number_ex F (Lib.cut (Lib.cut s [47]).1 [45]).1
    obtain ⟨b, okb, hb, _⟩ := number_ex F (Lib.cut (Lib.cut s [47]).1 [45]).2.1
    rw [ha, Option.bind_some]
    cases (Lib.cut (Lib.cut s [47]).1 [45]).2.2 <;> cases ok <;> cases oka <;> cases okb <;> (try rw [hb]) <;> exact ⟨_, _, rfl, by simp, by simp; omega, by simp⟩
  · exact ⟨_, _, rfl, by simp, by simp; omega, h0⟩
/-- a run of bits with steps -/
theorem range_loop (F : Nat) (y : cron_item × Bool) (c : Int) (hc : c ≤ 63) (h1 : 1 ≤ y.1.step) (h2 : y.1.step ≤ 9999) : ∀ (n : Nat) (k : Int), 0 ≤ k → k ≤ 10100 → (c + 1 - k).toNat < n →
    ∃ R : Nat, R < 2 ^ 64 ∧ (∀ B : Nat, B < 2 ^ 64 → cron_field_l1 F y c n (B : Int) k = some ((B ||| R : Nat) : Int)) ∧ (∀ i, R.testBit i = true → k ≤ (i : Int) ∧ (i : Int) ≤ c) ∧ (k ≤ c → R.testBit k.toNat = true) := by
  intro n
  induction n with
  | zero => intro k _ _ h; omega
  | succ n ih =>
    intro k hk hk2 h
    by_cases hkc : k ≤ c
    · obtain ⟨j, rfl⟩ := Int.eq_ofNat_of_zero_le hk
      have hj : j < 64 := by omega
      have p1 : (2 : Nat) ^ j < 2 ^ 64 := Nat.pow_lt_pow_right (by decide) hj
      have w : IntKind.wrap .i64 ((j : Int) + y.1.step) = (j : Int) + y.1.step := by
        simp only [IntKind.wrap, IntKind.signed, IntKind.bits]
        simp
        omega
      obtain ⟨R, r1, r2, r3, r4⟩ := ih ((j : Int) + y.1.step) (by omega) (by omega) (by omega)
      refine ⟨2 ^ j ||| R, Nat.or_lt_two_pow p1 r1, fun B hB => ?_, fun i hi => ?_, fun _ => ?_⟩
      · rw [cron_field_l1.eq_2, decide_eq_true hkc, decide_eq_true hk]
        simp only [cond_true]
        have e : IntKind.wrap .u64 ((1 : Int) * (2 : Int) ^ (min (Int.toNat (j : Int)) 64)) = ((2 ^ j : Nat) : Int) := by
          rw [Int.toNat_natCast, Nat.min_eq_left (by omega), Int.one_mul, show ((2 : Int) ^ j) = ((2 ^ j : Nat) : Int) by simp]
          exact wrap_u64 _ p1
        rw [e, ib_or B (2 ^ j) hB p1, w, r2 _ (Nat.or_lt_two_pow hB p1), Nat.or_assoc]
      · rw [Nat.testBit_or, Bool.or_eq_true] at hi
        rcases hi with hi | hi
        · rw [Nat.testBit_two_pow] at hi
          have : j = i := by simpa using hi
          omega
        · have := r3 i hi; omega
      · rw [Nat.testBit_or, Int.toNat_natCast, Nat.testBit_two_pow_self, Bool.true_or]
    · refine ⟨0, by decide, fun B hB => ?_, fun i hi => by simp at hi, fun q => absurd q hkc⟩
      rw [cron_field_l1.eq_2, decide_eq_false hkc]
      simp
end Go.T
