/-
  LCronR0: the code's text of an expression, a field at a time.
-/
import Derived.Test.YtceclaaopomcnaaDoorLCronQ0
import Derived.Lib.Join
namespace Go.T
open Go Go.Ab Go.Proofs
theorem WL.words {b p : Nat} {L : List (List UInt8)} (h : WL b p L) : ∀ w, w ∈ L → 1 ≤ w.length ∧ w.length ≤ 5 := by
  induction h with
  | done p _ => intro w hw; cases hw
  | cons p n e L h1 h2 h3 h4 h5 ih =>
    intro w hw
    rcases List.mem_cons.1 hw with rfl | hw
    · exact word_len n e
    · exact ih w hw
theorem tail_len : ∀ (L : List (List UInt8)) (k m : Nat) (sep : List UInt8), sep.length = m → (∀ w, w ∈ L → w.length ≤ k) → (Lib.joinTail sep L).length ≤ (k + m) * L.length := by
  intro L
  induction L with
  | nil => intro k m sep _ _; simp [Lib.joinTail]
  | cons w L ih =>
    intro k m sep hm h
    have h1 := h w List.mem_cons_self
    have h2 := ih k m sep hm fun w hw => h w (List.mem_cons_of_mem _ hw)
    simp only [Lib.joinTail, List.map_cons, List.flatten_cons, List.length_append, List.length_cons] at h2 ⊢
    rw [Nat.mul_add]
    omega
theorem join_len (L : List (List UInt8)) (k : Nat) (c : UInt8) (h : ∀ w, w ∈ L → w.length ≤ k) : (Lib.join L [c]).length ≤ (k + 1) * L.length := by
  cases L with
  | nil => simp [Lib.join_nil]
  | cons w L =>
    rw [Lib.join_cons, List.length_append]
    have h1 := h w List.mem_cons_self
    have h2 := tail_len L k 1 [c] rfl fun w hw => h w (List.mem_cons_of_mem _ hw)
    simp only [List.length_cons]
    rw [Nat.mul_add]
    omega
theorem print_step (c : api_Cron) (n : Nat) (a : A_5_uint64) (i b f : Int) (star : Bool) (l : List (List UInt8)) (t : List UInt8) (h0 : 0 ≤ i) (h5 : i < 5) (hf : cron_full 4000000 i = some f)
    (hb : b = if i = 0 then a.e0 else if i = 1 then a.e1 else if i = 2 then a.e2 else if i = 3 then a.e3 else a.e4)
    (hs : star = if i = 2 then c.AnyDay else if i = 4 then c.AnyWeek else (b == f)) (ht : (bif star then some ([42] : List UInt8) else cron_runs 4000000 b) = some t) (hl : l.length ≤ 10) :
    cron_Print_l0 4000000 c a (n + 1) i l = cron_Print_l0 4000000 c a n (i + 1) (l ++ [t]) := by
  rw [cron_Print_l0.eq_2, hf, wrap_i64 (i + 1) (by omega) (by omega)]
  have h : i = 0 ∨ i = 1 ∨ i = 2 ∨ i = 3 ∨ i = 4 := by omega
  have e : (bif decide ((0 : Int) ≤ i) then (bif decide (i < 5) then (bif i == 0 then some a.e0 else bif i == 1 then some a.e1 else bif i == 2 then some a.e2 else bif i == 3 then some a.e3 else bif i == 4 then some a.e4 else none) else none) else none) = some b := by
    rcases h with rfl | rfl | rfl | rfl | rfl <;> (subst hb; rfl)
  have e2 : (bif (i == 2) then some c.AnyDay else (bif (i == 4) then some c.AnyWeek else some (b == f))) = some star := by
    rcases h with rfl | rfl | rfl | rfl | rfl <;> (subst hs; rfl)
  rw [e, Option.bind_some, Option.bind_some, e2, Option.bind_some, decide_eq_true h5, cond_true]
  cases star with
  | true =>
    have : t = [42] := by simpa using ht.symm
    subst this
    rw [cond_true, decide_eq_true (show l.length + 1 ≤ LIM by unfold LIM; omega)]; rfl
  | false =>
    rw [cond_false] at ht ⊢
    rw [ht, Option.bind_some, decide_eq_true (show l.length + 1 ≤ LIM by unfold LIM; omega)]; rfl
theorem okF_lt (a f : Nat) (ha : a < 2 ^ 64) (hf : f < 2 ^ 60) (h : okF a f = true) : a < 2 ^ 60 := by
  have := (okF_nat a f ha (Nat.lt_trans hf (by decide))).1 h
  apply Nat.lt_pow_two_of_testBit
  intro i hi
  cases hq : a.testBit i
  · rfl
  · have := this.2 i hq
    rw [Nat.testBit_lt_two_pow (Nat.lt_of_lt_of_le hf (Nat.pow_le_pow_right (by decide) hi))] at this; cases this
end Go.T
