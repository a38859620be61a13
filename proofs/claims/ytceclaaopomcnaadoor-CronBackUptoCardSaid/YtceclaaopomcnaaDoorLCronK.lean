/-
  LCronK: whole expressions, as they are read; what is read is right.
-/
import Derived.Test.YtceclaaopomcnaaDoorLCronJ
namespace Go.T
open Go Go.Ab Go.Proofs

theorem splitA_len (c : UInt8) : ∀ (l cur : List UInt8), (∀ p, p ∈ splitA c l cur → p.length ≤ cur.length + l.length) ∧ (splitA c l cur).length ≤ l.length + 1 := by
  intro l
  induction l with
  | nil => intro cur; exact ⟨fun p hp => by simp [splitA] at hp; subst hp; simp, by simp [splitA]⟩
  | cons x l ih =>
    intro cur
    unfold splitA
    by_cases h : x = c
    · rw [if_pos h]
      obtain ⟨i1, i2⟩ := ih []
      refine ⟨fun p hp => ?_, by simp; omega⟩
      rcases List.mem_cons.1 hp with rfl | hp
      · omega
      · have := i1 p hp; simp at this ⊢; omega
    · rw [if_neg h]
      obtain ⟨i1, i2⟩ := ih (cur ++ [x])
      refine ⟨fun p hp => ?_, by simp; omega⟩
      have := i1 p hp; simp at this ⊢; omega
theorem splitA_ne (c : UInt8) : ∀ (l cur : List UInt8), splitA c l cur ≠ [] := by
  intro l
  induction l with
  | nil => intro cur; simp [splitA]
  | cons x l ih =>
    intro cur
    unfold splitA
    split
    · simp
    · exact ih _
theorem wordsA_len : ∀ (l cur : List UInt8), (∀ p, p ∈ wordsA l cur → p.length ≤ cur.length + l.length) ∧ (wordsA l cur).length ≤ l.length + 1 := by
  intro l
  induction l with
  | nil =>
    intro cur
    unfold wordsA
    split
    · exact ⟨fun p hp => (by cases hp), by simp⟩
    · exact ⟨fun p hp => (by simp at hp; subst hp; simp), by simp⟩
  | cons x l ih =>
    intro cur
    unfold wordsA
    by_cases h : blankB x = true
    · rw [if_pos h]
      obtain ⟨i1, i2⟩ := ih []
      by_cases hc : cur = []
      · rw [if_pos hc]
        exact ⟨fun p hp => (by have := i1 p hp; simp at this ⊢; omega), by simp; omega⟩
      · rw [if_neg hc]
        refine ⟨fun p hp => ?_, by simp; omega⟩
        rcases List.mem_cons.1 hp with rfl | hp
        · omega
        · have := i1 p hp; simp at this ⊢; omega
    · rw [if_neg h]
      obtain ⟨i1, i2⟩ := ih (cur ++ [x])
      exact ⟨fun p hp => (by have := i1 p hp; simp at this ⊢; omega), by simp; omega⟩
def loF (n : Nat) : Int := if n = 2 ∨ n = 3 then 1 else 0
def hiF (n : Nat) : Int := if n = 0 then 59 else if n = 1 then 23 else if n = 2 then 31 else if n = 3 then 12 else 7
def postF (n b : Nat) : Nat := if n = 4 ∧ b / 128 ≠ 0 then (b &&& 127) ||| 1 else b
def fieldO (n : Nat) (w : List UInt8) : Option (Nat × Int) := foldO ((splitA 44 w []).map (itemO n (loF n) (hiF n))) (0, 0)
/-- what a field's items say together is of its numbers -/
theorem foldO_bits (A : List IO3) (lo hi : Int) (hA : ∀ R, IO3.good R ∈ A → R < 2 ^ 64 ∧ R ≠ 0 ∧ ∀ i, R.testBit i = true → lo ≤ (i : Int) ∧ (i : Int) ≤ hi) :
    ∀ (b : Nat) (e : Int) (s : Nat × Int), b < 2 ^ 64 → (∀ i, b.testBit i = true → lo ≤ (i : Int) ∧ (i : Int) ≤ hi) → foldO A (b, e) = some s →
      s.1 < 2 ^ 64 ∧ (∀ i, s.1.testBit i = true → lo ≤ (i : Int) ∧ (i : Int) ≤ hi) ∧ (s.2 = e ∨ s.2 = 51) ∧ (b ≠ 0 → s.1 ≠ 0) ∧ (A ≠ [] → s.2 ≠ 51 → s.1 ≠ 0) := by
  induction A with
  | nil => intro b e s hb hi' h; cases h; exact ⟨hb, hi', .inl rfl, id, fun q => absurd rfl q⟩
  | cons a A ih =>
    intro b e s hb hi' h
    have hA' := fun R hR => hA R (List.mem_cons_of_mem _ hR)
    cases a with
    | syn => cases h
    | bad =>
      obtain ⟨i1, i2, i3, i4, i5⟩ := ih hA' b 51 s hb hi' h
      have : s.2 = 51 := by rcases i3 with q | q <;> exact q
      exact ⟨i1, i2, .inr this, i4, fun _ q => absurd this q⟩
    | good R =>
      obtain ⟨r1, r2, r3⟩ := hA R List.mem_cons_self
      have hne : b ||| R ≠ 0 := by
        intro q
        have : R = 0 := by
          apply Nat.eq_of_testBit_eq
          intro i
          have := congrArg (fun n => n.testBit i) q
          simp only [Nat.testBit_or, Nat.zero_testBit, Bool.or_eq_false_iff] at this
          rw [this.2, Nat.zero_testBit]
        exact r2 this
      obtain ⟨i1, i2, i3, i4, i5⟩ := ih hA' (b ||| R) e s (Nat.or_lt_two_pow hb r1) (fun i hbi => by
        rw [Nat.testBit_or, Bool.or_eq_true] at hbi
        rcases hbi with q | q
        · exact hi' i q
        · exact r3 i q) h
      exact ⟨i1, i2, i3, fun _ => i4 hne, fun _ _ => i4 hne⟩
theorem field_eq (n : Nat) (hn : n < 5) (w : List UInt8) (hw : w.length ≤ 900) :
    cron_field 4000000 w (n : Int) = match fieldO n w with | none => some (0, 50) | some s => some ((postF n s.1 : Int), s.2) := by
  have hb : ∀ s, fieldO n w = some s → s.1 < 2 ^ 64 ∧ (n = 4 → s.1 < 256) := by
    intro s hs
    obtain ⟨i1, i2, _⟩ := foldO_bits _ (loF n) (max (hiF n) 6) (fun R hR => by
      obtain ⟨x, hx, hR⟩ := List.mem_map.1 hR
      have hl := (splitA_len 44 w []).1 x hx
      exact (item_step n (loF n) (hiF n) (by unfold loF; split <;> decide) (by unfold hiF; (repeat' split) <;> decide) (fun h => by unfold loF; rw [if_neg (by omega)]) x (by simp at hl; omega)).1 R hR) 0 0 s (by decide) (fun i h => by simp at h) hs
    refine ⟨i1, fun h4 => ?_⟩
    have : s.1 < 2 ^ 8 := Nat.lt_pow_two_of_testBit _ fun i hi => by
      cases hq : s.1.testBit i
      · rfl
      · have := (i2 i hq).2
        subst h4
        unfold hiF at this
        simp at this
        omega
    exact this
  have key : cron_field_l0 4000000 (n : Int) (loF n) (hiF n) (splitA 44 w []) 4000000 0 0 0 = match fieldO n w with | none => some (.inl (0, 50)) | some s => some (.inr ((s.1 : Int), s.2)) := by
    have := l0_fold n (loF n) (hiF n) (by unfold loF; split <;> decide) (by unfold hiF; (repeat' split) <;> decide) (fun h => by unfold loF; rw [if_neg (by omega)]) (splitA 44 w []) (fun x hx => by
      have := (splitA_len 44 w []).1 x hx; simp at this; omega) (by have := (splitA_len 44 w []).2; omega) 4000000 0 0 0 (by decide) (Nat.zero_le _) (by have := (splitA_len 44 w []).2; omega)
    rw [List.drop_zero] at this
    exact this
  have hS : strings_Split 4000000 w [44] = some (splitA 44 w []) := by
    unfold strings_Split
    rw [decide_eq_true (show w.length ≤ 1048576000 ∧ 1 ≤ ([44] : List UInt8).length from ⟨by omega, by decide⟩), cond_true, split_one 44 w.length w (Nat.le_refl _)]
  have h5 : n = 0 ∨ n = 1 ∨ n = 2 ∨ n = 3 ∨ n = 4 := by omega
  unfold cron_field
  have e1 : (bif decide ((0 : Int) ≤ (n : Int)) then (bif decide ((n : Int) < (5 : Int)) then (bif ((n : Int) == (0 : Int)) then some ((0 : Int), (59 : Int)) else (bif ((n : Int) == (1 : Int)) then some ((0 : Int), (23 : Int)) else (bif ((n : Int) == (2 : Int)) then some ((1 : Int), (31 : Int)) else (bif ((n : Int) == (3 : Int)) then some ((1 : Int), (12 : Int)) else (bif ((n : Int) == (4 : Int)) then some ((0 : Int), (7 : Int)) else none))))) else none) else none) = some (loF n, hiF n) := by
    rcases h5 with rfl | rfl | rfl | rfl | rfl <;> rfl
  rw [e1, Option.bind_some]
  simp only []
  rw [hS, Option.bind_some, key]
  cases hq : fieldO n w with
  | none => rfl
  | some s =>
    obtain ⟨q1, q2⟩ := hb s hq
    obtain ⟨b, e⟩ := s
    simp only [Option.bind_some, Sum.elim_inr]
    by_cases h4 : n = 4
    · have e4 : ((n : Int) == 4) = true := by subst h4; rfl
      have e7 : Int.fdiv (b : Int) ((2 : Int) ^ (min (Int.toNat (7 : Int)) 64)) = ((b / 128 : Nat) : Int) := by
        rw [show (min (Int.toNat (7 : Int)) 64) = 7 from rfl, show ((2 : Int) ^ 7) = ((128 : Nat) : Int) from rfl, Int.fdiv_eq_ediv_of_nonneg _ (Int.natCast_nonneg _)]
        rfl
      simp only [e4, cond_true, Option.bind_some, e7]
      by_cases hd : b / 128 = 0
      · have : (((b / 128 : Nat) : Int) != 0) = false := by rw [hd]; rfl
        rw [this]
        simp only [cond_false, Option.bind_some, postF]
        rw [if_neg (fun q => q.2 hd)]
      · have : (((b / 128 : Nat) : Int) != 0) = true := by simp; omega
        have ha : cron_all 4000000 0 6 = some ((127 : Nat) : Int) := rfl
        rw [this, ha]
        simp only [cond_true, Option.bind_some, postF, ib_and b 127 q1 (by decide)]
        have := ib_or (b &&& 127) 1 (Nat.and_lt_two_pow _ (by decide)) (by decide)
        rw [show ((1 : Nat) : Int) = 1 from rfl] at this
        rw [this, if_pos ⟨h4, hd⟩]
    · have e4 : ((n : Int) == 4) = false := by simp; omega
      simp only [e4, cond_false, Option.bind_some, postF]
      rw [if_neg (fun q => h4 q.1)]
/-- a field that is read without a fault, and its bits -/
def FR (n : Nat) (w : List UInt8) (b : Nat) : Prop := cron_field 4000000 w (n : Int) = some ((b : Int), 0)
/-- Parse_l0, a field at a time -/
theorem parse_step (W : List (List UInt8)) (hW : W.length = 5) (k i : Nat) (hi : i < 5) (c0 c1 c2 c3 c4 : Int) (w : List UInt8) (hw : W[i]? = some w) (b e : Int) (hf : cron_field 4000000 w (i : Int) = some (b, e)) :
    cron_Parse_l0 4000000 W (k + 1) (i : Int) c0 c1 c2 c3 c4 = if e ≠ 0 then some (.inl (⟨0, 0, 0, 0, 0, false, false⟩, (i : Int), e)) else
      cron_Parse_l0 4000000 W k ((i + 1 : Nat) : Int) (if i = 0 then b else c0) (if i = 1 then b else c1) (if i = 2 then b else c2) (if i = 3 then b else c3) (if i = 4 then b else c4) := by
  have w' : IntKind.wrap .i64 ((i : Int) + 1) = ((i + 1 : Nat) : Int) := by
    simp only [IntKind.wrap, IntKind.signed, IntKind.bits]
    simp
    omega
  rw [cron_Parse_l0.eq_2, hW, decide_eq_true (show (i : Int) < ((5 : Nat) : Int) by omega), decide_eq_true (show (0 : Int) ≤ (i : Int) by omega), Int.toNat_natCast, hw, w']
  simp only [cond_true, Option.bind_some, hf]
  by_cases he : e = 0
  · subst he
    rw [if_neg (by simp)]
    simp only [bne_self_eq_false, cond_false]
    have h5 : i = 0 ∨ i = 1 ∨ i = 2 ∨ i = 3 ∨ i = 4 := by omega
    rcases h5 with rfl | rfl | rfl | rfl | rfl <;> rfl
  · rw [if_pos he, show (e != 0) = true by simpa using he]; rfl
theorem field_ex (n : Nat) (hn : n < 5) (w : List UInt8) (hw : w.length ≤ 900) : ∃ (b : Nat) (e : Int), cron_field 4000000 w (n : Int) = some ((b : Int), e) := by
  rw [field_eq n hn w hw]
  cases fieldO n w with
  | none => exact ⟨0, 50, rfl⟩
  | some s => exact ⟨_, _, rfl⟩
theorem words_eq (t : List UInt8) (h : t.length ≤ 256) : strings_FieldsFunc 4000000 t = some (wordsA t []) := by
  unfold strings_FieldsFunc
  have := (wordsA_len t []).2
  rw [fields_words, decide_eq_true (show t.length ≤ LIM ∧ (wordsA t []).length ≤ LIM from ⟨by unfold LIM; omega, by unfold LIM; omega⟩)]; rfl
theorem parse_mk (t : List UInt8) (h : t.length ≤ 256) (w0 w1 w2 w3 w4 : List UInt8) (hw : wordsA t [] = [w0, w1, w2, w3, w4]) (b0 b1 b2 b3 b4 : Nat) (f0 : FR 0 w0 b0) (f1 : FR 1 w1 b1) (f2 : FR 2 w2 b2) (f3 : FR 3 w3 b3) (f4 : FR 4 w4 b4) :
    cron_Parse 4000000 t = some (⟨b0, b1, b2, b3, b4, w2 == [42], w4 == [42]⟩, 0, 0) := by
  unfold cron_Parse
  rw [words_eq t h, hw, decide_eq_false (show ¬ (256 : Int) < ((t.length : Nat) : Int) by omega)]
  have s0 := parse_step [w0, w1, w2, w3, w4] rfl 3999999 0 (by decide) 0 0 0 0 0 w0 rfl b0 0 f0
  have s1 := parse_step [w0, w1, w2, w3, w4] rfl 3999998 1 (by decide) b0 0 0 0 0 w1 rfl b1 0 f1
  have s2 := parse_step [w0, w1, w2, w3, w4] rfl 3999997 2 (by decide) b0 b1 0 0 0 w2 rfl b2 0 f2
  have s3 := parse_step [w0, w1, w2, w3, w4] rfl 3999996 3 (by decide) b0 b1 b2 0 0 w3 rfl b3 0 f3
  have s4 := parse_step [w0, w1, w2, w3, w4] rfl 3999995 4 (by decide) b0 b1 b2 b3 0 w4 rfl b4 0 f4
  have s5 : cron_Parse_l0 4000000 [w0, w1, w2, w3, w4] (3999994 + 1) 5 b0 b1 b2 b3 b4 = some (.inr (b0, b1, b2, b3, b4)) := by
    rw [cron_Parse_l0.eq_2]; rfl
  have hS : cron_Parse_l0 4000000 [w0, w1, w2, w3, w4] 4000000 0 0 0 0 0 0 = some (.inr (b0, b1, b2, b3, b4)) := by
    refine (s0.trans (if_neg (by simp))).trans ?_
    refine (s1.trans (if_neg (by simp))).trans ?_
    refine (s2.trans (if_neg (by simp))).trans ?_
    refine (s3.trans (if_neg (by simp))).trans ?_
    exact (s4.trans (if_neg (by simp))).trans s5
  simp only [cond_false, Option.bind_some, hS]
  rfl
theorem parse_ex (t : List UInt8) : ∃ r, cron_Parse 4000000 t = some r ∧ (r.2.2 ≠ 0 → r.1 = ⟨0, 0, 0, 0, 0, false, false⟩) ∧ (256 < t.length → r.2.2 = 2) ∧
    (r.2.2 = 0 → t.length ≤ 256 ∧ ∃ w0 w1 w2 w3 w4 : List UInt8, ∃ b0 b1 b2 b3 b4 : Nat, wordsA t [] = [w0, w1, w2, w3, w4] ∧ FR 0 w0 b0 ∧ FR 1 w1 b1 ∧ FR 2 w2 b2 ∧ FR 3 w3 b3 ∧ FR 4 w4 b4) := by
  by_cases h : t.length ≤ 256
  rotate_left
  · unfold cron_Parse
    rw [decide_eq_true (show (256 : Int) < ((t.length : Nat) : Int) by omega)]
    exact ⟨_, rfl, fun _ => rfl, fun _ => rfl, fun q => by cases q⟩
  by_cases h5 : (wordsA t []).length = 5
  rotate_left
  · unfold cron_Parse
    rw [words_eq t h, decide_eq_false (show ¬ (256 : Int) < ((t.length : Nat) : Int) by omega), cond_false, Option.bind_some]
    have : ((((wordsA t []).length : Nat) : Int) != 5) = true := by simp; omega
    rw [this]
    exact ⟨_, rfl, fun _ => rfl, fun q => absurd q (by omega), fun q => by cases q⟩
  have hlen := (wordsA_len t []).1
  obtain ⟨w0, w1, w2, w3, w4, hw⟩ : ∃ w0 w1 w2 w3 w4, wordsA t [] = [w0, w1, w2, w3, w4] := by
    match wordsA t [], h5 with
    | [w0, w1, w2, w3, w4], _ => exact ⟨w0, w1, w2, w3, w4, rfl⟩
  rw [hw] at hlen
  have hl : ∀ p, p ∈ [w0, w1, w2, w3, w4] → p.length ≤ 900 := fun p hp => by have := hlen p hp; simp at this; omega
  obtain ⟨b0, e0, f0⟩ := field_ex 0 (by decide) w0 (hl _ (by simp))
  obtain ⟨b1, e1, f1⟩ := field_ex 1 (by decide) w1 (hl _ (by simp))
  obtain ⟨b2, e2, f2⟩ := field_ex 2 (by decide) w2 (hl _ (by simp))
  obtain ⟨b3, e3, f3⟩ := field_ex 3 (by decide) w3 (hl _ (by simp))
  obtain ⟨b4, e4, f4⟩ := field_ex 4 (by decide) w4 (hl _ (by simp))
  have bad : ∀ (i : Nat) (e : Int), e ≠ 0 → cron_Parse_l0 4000000 [w0, w1, w2, w3, w4] 4000000 0 0 0 0 0 0 = some (.inl (⟨0, 0, 0, 0, 0, false, false⟩, (i : Int), e)) →
      ∃ r, cron_Parse 4000000 t = some r ∧ (r.2.2 ≠ 0 → r.1 = ⟨0, 0, 0, 0, 0, false, false⟩) ∧ (256 < t.length → r.2.2 = 2) ∧
        (r.2.2 = 0 → t.length ≤ 256 ∧ ∃ w0 w1 w2 w3 w4 : List UInt8, ∃ b0 b1 b2 b3 b4 : Nat, wordsA t [] = [w0, w1, w2, w3, w4] ∧ FR 0 w0 b0 ∧ FR 1 w1 b1 ∧ FR 2 w2 b2 ∧ FR 3 w3 b3 ∧ FR 4 w4 b4) := by
    intro i e he hS
    unfold cron_Parse
    rw [words_eq t h, hw, decide_eq_false (show ¬ (256 : Int) < ((t.length : Nat) : Int) by omega), cond_false, Option.bind_some]
    refine ⟨(⟨0, 0, 0, 0, 0, false, false⟩, (i : Int), e), ?_, fun _ => rfl, fun q => absurd q (by omega), fun q => absurd q he⟩
    simp only [hS]
    rfl
  have s0 := parse_step [w0, w1, w2, w3, w4] rfl 3999999 0 (by decide) 0 0 0 0 0 w0 rfl b0 e0 f0
  have s1 := parse_step [w0, w1, w2, w3, w4] rfl 3999998 1 (by decide) b0 0 0 0 0 w1 rfl b1 e1 f1
  have s2 := parse_step [w0, w1, w2, w3, w4] rfl 3999997 2 (by decide) b0 b1 0 0 0 w2 rfl b2 e2 f2
  have s3 := parse_step [w0, w1, w2, w3, w4] rfl 3999996 3 (by decide) b0 b1 b2 0 0 w3 rfl b3 e3 f3
  have s4 := parse_step [w0, w1, w2, w3, w4] rfl 3999995 4 (by decide) b0 b1 b2 b3 0 w4 rfl b4 e4 f4
  by_cases q0 : e0 = 0
  rotate_left
  · exact bad 0 e0 q0 (s0.trans (if_pos q0))
  by_cases q1 : e1 = 0
  rotate_left
  · exact bad 1 e1 q1 ((s0.trans (if_neg (by simpa using q0))).trans (s1.trans (if_pos q1)))
  by_cases q2 : e2 = 0
  rotate_left
  · exact bad 2 e2 q2 ((s0.trans (if_neg (by simpa using q0))).trans ((s1.trans (if_neg (by simpa using q1))).trans (s2.trans (if_pos q2))))
  by_cases q3 : e3 = 0
  rotate_left
  · exact bad 3 e3 q3 ((s0.trans (if_neg (by simpa using q0))).trans ((s1.trans (if_neg (by simpa using q1))).trans ((s2.trans (if_neg (by simpa using q2))).trans (s3.trans (if_pos q3)))))
  by_cases q4 : e4 = 0
  rotate_left
  · exact bad 4 e4 q4 ((s0.trans (if_neg (by simpa using q0))).trans ((s1.trans (if_neg (by simpa using q1))).trans ((s2.trans (if_neg (by simpa using q2))).trans ((s3.trans (if_neg (by simpa using q3))).trans (s4.trans (if_pos q4))))))
  subst q0; subst q1; subst q2; subst q3; subst q4
  exact ⟨_, parse_mk t h w0 w1 w2 w3 w4 hw b0 b1 b2 b3 b4 f0 f1 f2 f3 f4, fun q => absurd rfl q, fun q => absurd q (by omega), fun _ => ⟨h, w0, w1, w2, w3, w4, b0, b1, b2, b3, b4, hw, f0, f1, f2, f3, f4⟩⟩
end Go.T
