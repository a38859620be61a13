/-
  LCronJ: fields, and whole expressions, as they are read.
-/
import Derived.Test.YtceclaaopomcnaaDoorLCronI
namespace Go.T
open Go Go.Ab Go.Proofs

inductive IO3 where
  | syn | bad | good (R : Nat)
/-- what an item does to a field -/
def itemO (n lo hi : Int) (x : List UInt8) : IO3 :=
  match cron_read 4000000 x ⟨lo, hi⟩ with
  | none => .syn
  | some (it, ok) =>
    if ok = false then .syn
    else if it.from_ < lo ∨ hi < it.to_ ∨ it.to_ < it.from_ ∨ it.step = 0 then .bad
    else .good ((cron_field_l1 4000000 (it, ok) (if x = [42] ∧ n = 4 then 6 else it.to_) 4000000 0 it.from_).getD 0).toNat
theorem item_step (n lo hi : Int) (h0 : 0 ≤ lo) (h59 : hi ≤ 59) (h6 : n = 4 → lo = 0) (x : List UInt8) (hx : x.length ≤ 1000) :
    (∀ R, itemO n lo hi x = .good R → R < 2 ^ 64 ∧ R ≠ 0 ∧ ∀ i, R.testBit i = true → lo ≤ (i : Int) ∧ (i : Int) ≤ max hi 6) ∧
    ∀ (L : List (List UInt8)) (fuel idx : Nat) (b : Nat) (e : Int), L[idx]? = some x → b < 2 ^ 64 → L.length ≤ 1000 →
      cron_field_l0 4000000 n lo hi L (fuel + 1) (b : Int) e (idx : Int) = match itemO n lo hi x with
        | .syn => some (.inl (0, 50))
        | .bad => cron_field_l0 4000000 n lo hi L fuel (b : Int) 51 ((idx + 1 : Nat) : Int)
        | .good R => cron_field_l0 4000000 n lo hi L fuel ((b ||| R : Nat) : Int) e ((idx + 1 : Nat) : Int) := by
  obtain ⟨it, ok, hr, hs0, hs1, hf0⟩ := read_ex 4000000 x ⟨lo, hi⟩ hx h0
  have hit : itemO n lo hi x = if ok = false then .syn
    else if it.from_ < lo ∨ hi < it.to_ ∨ it.to_ < it.from_ ∨ it.step = 0 then .bad
    else .good ((cron_field_l1 4000000 (it, ok) (if x = [42] ∧ n = 4 then 6 else it.to_) 4000000 0 it.from_).getD 0).toNat := by unfold itemO; rw [hr]
  have pre : ∀ (L : List (List UInt8)) (fuel idx : Nat) (b : Nat) (e : Int), L[idx]? = some x → L.length ≤ 1000 →
      cron_field_l0 4000000 n lo hi L (fuel + 1) (b : Int) e (idx : Int) = Option.bind ((bif (!ok) then some (Sum.inl ((0 : Int), (50 : Int))) else (Option.bind (bif (decide (it.from_ < lo)) then some true else (bif (decide (hi < it.to_)) then some true else (bif (decide (it.to_ < it.from_)) then some true else some (it.step == (0 : Int))))) fun t55_43 => (bif t55_43 then some (Sum.inr ((b : Int), (51 : Int))) else (Option.bind (bif (x == ([42] : List UInt8)) then some (n == (4 : Int)) else some false) fun t61_44 => (Option.bind (bif t61_44 then some (6 : Int) else some it.to_) fun c_45 => (Option.bind (cron_field_l1 4000000 (it, ok) c_45 4000000 (b : Int) it.from_) fun bits_46 => some (Sum.inr (bits_46, e)))))))) : Option ((Int × Int) ⊕ (Int × Int))) (fun o21 => Sum.elim (fun r => some (Sum.inl r)) (fun x => cron_field_l0 4000000 n lo hi L fuel x.1 x.2 ((idx + 1 : Nat) : Int)) o21) := by
    intro L fuel idx b e hL hl
    have hidx : idx < L.length := (List.getElem?_eq_some_iff.1 hL).1
    rw [cron_field_l0.eq_2, decide_eq_true (show (idx : Int) < ((L.length : Nat) : Int) by omega), decide_eq_true (show (0 : Int) ≤ (idx : Int) by omega), Int.toNat_natCast, hL]
    simp only [cond_true, Option.bind_some, hr]
    have w : IntKind.wrap .i64 ((idx : Int) + 1) = ((idx + 1 : Nat) : Int) := by
      simp only [IntKind.wrap, IntKind.signed, IntKind.bits]
      simp
      omega
    rw [w]
  cases ok with
  | false =>
    rw [hit, if_pos rfl]
    refine ⟨fun R h => (by cases h), fun L fuel idx b e hL _ hl => ?_⟩
    rw [pre L fuel idx b e hL hl]; rfl
  | true =>
    rw [if_neg (by decide)] at hit
    by_cases hb : it.from_ < lo ∨ hi < it.to_ ∨ it.to_ < it.from_ ∨ it.step = 0
    · rw [hit, if_pos hb]
      refine ⟨fun R h => (by cases h), fun L fuel idx b e hL _ hl => ?_⟩
      rw [pre L fuel idx b e hL hl]
      have : (bif (decide (it.from_ < lo)) then some true else (bif (decide (hi < it.to_)) then some true else (bif (decide (it.to_ < it.from_)) then some true else some (it.step == (0 : Int))))) = some true := by
        by_cases q1 : it.from_ < lo
        · rw [decide_eq_true q1]; rfl
        rw [decide_eq_false q1]
        by_cases q2 : hi < it.to_
        · rw [decide_eq_true q2]; rfl
        rw [decide_eq_false q2]
        by_cases q3 : it.to_ < it.from_
        · rw [decide_eq_true q3]; rfl
        rw [decide_eq_false q3]
        have : it.step = 0 := by omega
        rw [this]; rfl
      rw [this]; rfl
    · rw [if_neg hb] at hit
      have g1 : ¬ it.from_ < lo := fun q => hb (.inl q)
      have g2 : ¬ hi < it.to_ := fun q => hb (.inr (.inl q))
      have g3 : ¬ it.to_ < it.from_ := fun q => hb (.inr (.inr (.inl q)))
      have g4 : it.step ≠ 0 := fun q => hb (.inr (.inr (.inr q)))
      have hto : (bif (x == ([42] : List UInt8)) then some (n == (4 : Int)) else some false) = some (decide (x = [42] ∧ n = 4)) := by
        by_cases q : x = [42]
        · have : (x == ([42] : List UInt8)) = true := by simpa using q
          rw [this, cond_true]
          by_cases q2 : n = 4
          · rw [decide_eq_true ⟨q, q2⟩, show (n == 4) = true by simpa using q2]
          · rw [decide_eq_false (fun h => q2 h.2), show (n == 4) = false by simpa using q2]
        · have : (x == ([42] : List UInt8)) = false := by simpa using q
          rw [this, cond_false, decide_eq_false (fun h => q h.1)]
      have hc : (bif decide (x = [42] ∧ n = 4) then some (6 : Int) else some it.to_) = some (if x = [42] ∧ n = 4 then 6 else it.to_) := by
        by_cases q : x = [42] ∧ n = 4
        · rw [decide_eq_true q, if_pos q]; rfl
        · rw [decide_eq_false q, if_neg q]; rfl
      generalize hcc : (if x = [42] ∧ n = 4 then 6 else it.to_) = c at hit hc
      have hc63 : c ≤ max hi 6 := by
        by_cases q : x = [42] ∧ n = 4
        · rw [if_pos q] at hcc; omega
        · rw [if_neg q] at hcc; omega
      have hfc : it.from_ ≤ c := by
        by_cases q : x = [42] ∧ n = 4
        · rw [if_pos q] at hcc
          have hl0 := h6 q.2
          -- the star: from the least number on
          have : cron_read 4000000 [42] ⟨lo, hi⟩ = some (⟨lo, hi, 1⟩, true) := rfl
          rw [q.1, this] at hr
          have := (Prod.mk.inj (Option.some.inj hr)).1
          rw [← this]
          show lo ≤ c
          omega
        · rw [if_neg q] at hcc; omega
      obtain ⟨R, r1, r2, r3, r4⟩ := range_loop 4000000 (it, true) c (by omega) (by simp; omega) hs1 4000000 it.from_ hf0 (by omega) (by omega)
      have hR : ((cron_field_l1 4000000 (it, true) c 4000000 0 it.from_).getD 0).toNat = R := by
        have := r2 0 (by decide)
        rw [show ((0 : Nat) : Int) = 0 from rfl] at this
        rw [this]; simp
      rw [hR] at hit
      rw [hit]
      refine ⟨fun R' h => ?_, fun L fuel idx b e hL hbl hl => ?_⟩
      · injection h with h
        subst h
        refine ⟨r1, fun e => ?_, fun i hi' => ?_⟩
        · have := r4 hfc
          rw [e, Nat.zero_testBit] at this; cases this
        · have := r3 i hi'; omega
      · rw [pre L fuel idx b e hL hl, decide_eq_false g1, decide_eq_false g2, decide_eq_false g3]
        have : (it.step == 0) = false := by simpa using g4
        simp only [this, cond_false, Bool.not_true, Option.bind_some, hto, hc, r2 b hbl]
        rfl
/-- the items' work, one behind the other -/
def foldO : List IO3 → Nat × Int → Option (Nat × Int)
  | [], s => some s
  | .syn :: _, _ => none
  | .bad :: r, (b, _) => foldO r (b, 51)
  | .good R :: r, (b, e) => foldO r (b ||| R, e)
theorem l0_fold (n lo hi : Int) (h0 : 0 ≤ lo) (h59 : hi ≤ 59) (h6 : n = 4 → lo = 0) (L : List (List UInt8)) (hL : ∀ x, x ∈ L → x.length ≤ 1000) (hl : L.length ≤ 1000) :
    ∀ (fuel idx : Nat) (b : Nat) (e : Int), b < 2 ^ 64 → idx ≤ L.length → L.length - idx < fuel →
      cron_field_l0 4000000 n lo hi L fuel (b : Int) e (idx : Int) = match foldO ((L.drop idx).map (itemO n lo hi)) (b, e) with | none => some (.inl (0, 50)) | some s => some (.inr ((s.1 : Int), s.2)) := by
  intro fuel
  induction fuel with
  | zero => intro idx b e _ _ h; omega
  | succ fuel ih =>
    intro idx b e hb hi' h
    by_cases hlt : idx < L.length
    · have hx : L[idx]? = some L[idx] := List.getElem?_eq_getElem hlt
      obtain ⟨hg, hst⟩ := item_step n lo hi h0 h59 h6 L[idx] (hL _ (List.getElem_mem hlt))
      rw [hst L fuel idx b e hx hb hl, List.drop_eq_getElem_cons hlt, List.map_cons]
      cases hq : itemO n lo hi L[idx] with
      | syn => rfl
      | bad => simp only [foldO]; exact ih (idx + 1) b 51 hb (by omega) (by omega)
      | good R => simp only [foldO]; exact ih (idx + 1) (b ||| R) e (Nat.or_lt_two_pow hb (hg R hq).1) (by omega) (by omega)
    · have : idx = L.length := by omega
      subst this
      rw [List.drop_length, List.map_nil, cron_field_l0.eq_2, decide_eq_false (by omega)]; rfl
theorem foldO_append (A B : List IO3) : ∀ s, foldO (A ++ B) s = (foldO A s).bind (foldO B) := by
  induction A with
  | nil => intro s; rfl
  | cons a A ih =>
    intro s
    obtain ⟨b, e⟩ := s
    cases a with
    | syn => rfl
    | bad => simp only [List.cons_append, foldO]; exact ih _
    | good R => simp only [List.cons_append, foldO]; exact ih _
theorem foldO_from (A : List IO3) : ∀ (b : Nat) (e : Int), foldO A (b, e) = (foldO A (0, 0)).map fun s => (b ||| s.1, if s.2 = 51 then 51 else e) := by
  suffices h : ∀ (A : List IO3) (b : Nat) (e : Int) (b0 : Nat), foldO A (b ||| b0, e) = (foldO A (b0, 0)).map (fun s => (b ||| s.1, if s.2 = 51 then 51 else e)) ∧ foldO A (b ||| b0, 51) = (foldO A (b0, 51)).map (fun s => (b ||| s.1, 51)) ∧ ∀ s, foldO A (b0, 51) = some s → s.2 = 51 by
    intro b e
    have := (h A b e 0).1
    rwa [Nat.or_zero] at this
  intro A
  induction A with
  | nil => intro b e b0; exact ⟨by simp [foldO], by simp [foldO], fun s hs => by cases hs; rfl⟩
  | cons a A ih =>
    intro b e b0
    cases a with
    | syn => exact ⟨rfl, rfl, fun s hs => by cases hs⟩
    | bad =>
      simp only [foldO]
      obtain ⟨-, i2, i3⟩ := ih b e b0
      refine ⟨?_, i2, i3⟩
      rw [i2]
      cases hq : foldO A (b0, 51) with
      | none => rfl
      | some s => have := i3 s hq; simp [this]
    | good R =>
      simp only [foldO]
      have := ih b e (b0 ||| R)
      rw [← Nat.or_assoc] at this
      exact this
end Go.T
