/-
  LCronL: what is read is right; the law CronLists in plain Lean.
-/
import Derived.Test.YtceclaaopomcnaaDoorLCronK
namespace Go.T
open Go Go.Ab Go.Proofs

def fullN (n : Nat) : Nat := if n = 0 then 1152921504606846975 else if n = 1 then 16777215 else if n = 2 then 4294967294 else if n = 3 then 8190 else 127
theorem fullN_bit (n i : Nat) (hn : n < 5) (h0 : loF n ≤ (i : Int)) (h1 : (i : Int) ≤ hiF n) (h4 : n = 4 → i ≤ 6) : (fullN n).testBit i = true := by
  have hall : ((List.range 5).all fun n => (List.range 60).all fun i => !(decide (loF n ≤ (i : Int)) && decide ((i : Int) ≤ hiF n) && (n != 4 || decide (i ≤ 6))) || (fullN n).testBit i) = true := by decide +kernel
  have h : i < 60 → (fullN n).testBit i = true := fun hi => by
    have := List.all_eq_true.1 (List.all_eq_true.1 hall n (List.mem_range.2 hn)) i (List.mem_range.2 hi)
    rw [decide_eq_true h0, decide_eq_true h1] at this
    have q : (n != 4 || decide (i ≤ 6)) = true := by
      by_cases h : n = 4
      · rw [decide_eq_true (h4 h), Bool.or_true]
      · rw [show (n != 4) = true by simpa using h]; rfl
    rw [q] at this
    simpa using this
  refine h ?_
  unfold hiF at h1
  by_cases a : n = 0
  · rw [if_pos a] at h1; omega
  rw [if_neg a] at h1
  by_cases b : n = 1
  · rw [if_pos b] at h1; omega
  rw [if_neg b] at h1
  by_cases c : n = 2
  · rw [if_pos c] at h1; omega
  rw [if_neg c] at h1
  by_cases d : n = 3
  · rw [if_pos d] at h1; omega
  rw [if_neg d] at h1; omega
theorem FR.fold {n : Nat} (hn : n < 5) {w : List UInt8} (hw : w.length ≤ 900) {b : Nat} (h : FR n w b) : ∃ s, fieldO n w = some (s, 0) ∧ b = postF n s ∧ s < 2 ^ 64 ∧ s ≠ 0 ∧ ∀ i, s.testBit i = true → loF n ≤ (i : Int) ∧ (i : Int) ≤ hiF n := by
  unfold FR at h
  rw [field_eq n hn w hw] at h
  cases hq : fieldO n w with
  | none => rw [hq] at h; cases h
  | some s =>
    rw [hq] at h
    obtain ⟨s, e⟩ := s
    simp only [Option.some.injEq, Prod.mk.injEq] at h
    obtain ⟨h1, rfl⟩ := h
    obtain ⟨i1, i2, _, _, i5⟩ := foldO_bits _ (loF n) (hiF n) (fun R hR => by
      obtain ⟨x, hx, hR⟩ := List.mem_map.1 hR
      have hl := (splitA_len 44 w []).1 x hx
      have := (item_step n (loF n) (hiF n) (by unfold loF; split <;> decide) (by unfold hiF; (repeat' split) <;> decide) (fun h => by unfold loF; rw [if_neg (by omega)]) x (by simp at hl; omega)).1 R hR
      refine ⟨this.1, this.2.1, fun i hi => ?_⟩
      have q := this.2.2 i hi
      have : max (hiF n) 6 = hiF n := by unfold hiF; (repeat' split) <;> decide
      rw [this] at q; exact q) 0 0 (s, 0) (by decide) (fun i h => by simp at h) hq
    refine ⟨s, rfl, by omega, i1, i5 (by simpa using splitA_ne 44 w []) (by simp), i2⟩
theorem FR.okF {n : Nat} (hn : n < 5) {w : List UInt8} (hw : w.length ≤ 900) {b : Nat} (h : FR n w b) : b < 2 ^ 64 ∧ okF (b : Int) ((fullN n : Nat) : Int) = true := by
  obtain ⟨s, _, rfl, h1, h2, h3⟩ := h.fold hn hw
  have hf : fullN n < 2 ^ 64 := by unfold fullN; (repeat' split) <;> decide
  by_cases hp : n = 4 ∧ s / 128 ≠ 0
  · have e : postF n s = (s &&& 127) ||| 1 := by unfold postF; rw [if_pos hp]
    have hl : (s &&& 127) ||| 1 < 2 ^ 64 := Nat.or_lt_two_pow (Nat.and_lt_two_pow _ (by decide)) (by decide)
    rw [e]
    refine ⟨hl, (okF_nat _ _ hl hf).2 ⟨fun q => ?_, fun i hi => ?_⟩⟩
    · have := congrArg (fun n => n.testBit 0) q
      simp at this
    · have hi7 : i < 7 := by
        apply Classical.byContradiction
        intro q
        have : ((s &&& 127) ||| 1).testBit i = false := Nat.testBit_lt_two_pow (Nat.lt_of_lt_of_le (Nat.or_lt_two_pow (Nat.and_lt_two_pow s (show 127 < 2 ^ 7 by decide)) (show 1 < 2 ^ 7 by decide)) (Nat.pow_le_pow_right (by decide) (by omega)))
        rw [hi] at this; cases this
      refine fullN_bit n i hn ?_ ?_ (fun _ => by omega)
      · rw [hp.1]; unfold loF; simp
      · rw [hp.1]; unfold hiF; simp; omega
  · have e : postF n s = s := by unfold postF; rw [if_neg hp]
    rw [e]
    refine ⟨h1, (okF_nat _ _ h1 hf).2 ⟨h2, fun i hi => ?_⟩⟩
    have q := h3 i hi
    refine fullN_bit n i hn q.1 q.2 (fun h4 => ?_)
    have hs : s / 128 = 0 := by
      apply Classical.byContradiction
      intro q; exact hp ⟨h4, q⟩
    have hs7 : s < 2 ^ 7 := by omega
    apply Classical.byContradiction
    intro q
    rw [Nat.testBit_lt_two_pow (Nat.lt_of_lt_of_le hs7 (Nat.pow_le_pow_right (by decide) (by omega)))] at hi; cases hi
theorem star2 : cron_field 4000000 [42] 2 = some (4294967294, 0) := by kernel_rfl
theorem star4 : cron_field 4000000 [42] 4 = some (127, 0) := by kernel_rfl
theorem read_chk (w0 w1 w2 w3 w4 : List UInt8) (hl : ∀ p, p ∈ [w0, w1, w2, w3, w4] → p.length ≤ 900) (b0 b1 b2 b3 b4 : Nat) (f0 : FR 0 w0 b0) (f1 : FR 1 w1 b1) (f2 : FR 2 w2 b2) (f3 : FR 3 w3 b3) (f4 : FR 4 w4 b4) :
    chkB ⟨b0, b1, b2, b3, b4, w2 == [42], w4 == [42]⟩ = true := by
  have o0 := (f0.okF (by decide) (hl _ (by simp))).2
  have o1 := (f1.okF (by decide) (hl _ (by simp))).2
  have o2 := (f2.okF (by decide) (hl _ (by simp))).2
  have o3 := (f3.okF (by decide) (hl _ (by simp))).2
  have o4 := (f4.okF (by decide) (hl _ (by simp))).2
  unfold chkB
  simp only [Bool.and_eq_true]
  refine ⟨⟨⟨⟨⟨⟨o0, o1⟩, o2⟩, o3⟩, o4⟩, ?_⟩, ?_⟩
  · by_cases h : w2 = [42]
    · subst h
      have := f2.symm.trans star2
      simp only [Option.some.injEq, Prod.mk.injEq] at this
      rw [this.1]; rfl
    · rw [show (w2 == ([42] : List UInt8)) = false by simpa using h]; rfl
  · by_cases h : w4 = [42]
    · subst h
      have := f4.symm.trans star4
      simp only [Option.some.injEq, Prod.mk.injEq] at this
      rw [this.1]; rfl
    · rw [show (w4 == ([42] : List UInt8)) = false by simpa using h]; rfl
/-- two lists put together: what both say -/
theorem FR.join {a b : List UInt8} (hl : a.length + b.length ≤ 800) {x y : Nat} (hx : FR 0 a x) (hy : FR 0 b y) : FR 0 (a ++ 44 :: b) (x ||| y) := by
  obtain ⟨s, h1, rfl, -, -, -⟩ := hx.fold (by decide) (by omega)
  obtain ⟨t, h2, rfl, -, -, -⟩ := hy.fold (by decide) (by omega)
  have e : ∀ s, postF 0 s = s := fun s => by unfold postF; rw [if_neg (by simp)]
  have h3 : fieldO 0 (a ++ 44 :: b) = some (x ||| y, 0) := by
    unfold fieldO at h1 h2 ⊢
    rw [splitA_append, List.map_append, foldO_append, h1, Option.bind_some, foldO_from, h2]
    rfl
  unfold FR
  rw [field_eq 0 (by decide) _ (by simp; omega), h3]
  simp only [e]
theorem blank_loop (a b : List UInt8) (h : a.length + b.length ≤ 3000000) : ∀ (n i : Nat), i ≤ a.length + b.length → a.length + b.length - i < n →
    matinslaw06_CronLists_l0 4000000 a b n (i : Int) = some (.inl true) ∨ (matinslaw06_CronLists_l0 4000000 a b n (i : Int) = some (.inr ()) ∧ ∀ j, i ≤ j → ∀ x, (a ++ b)[j]? = some x → blankB x = false) := by
  intro n
  induction n with
  | zero => intro i _ h; omega
  | succ n ih =>
    intro i hi hn
    have wr : ∀ k : Nat, k ≤ 4000000 → IntKind.wrap .i64 (k : Int) = k := fun k hk => by
      simp only [IntKind.wrap, IntKind.signed, IntKind.bits]
      simp
      omega
    rw [matinslaw06_CronLists_l0.eq_2, show (((a.length : Nat) : Int) + ((b.length : Nat) : Int)) = ((a.length + b.length : Nat) : Int) by omega, wr _ (by omega)]
    by_cases hlt : i < a.length + b.length
    · rw [decide_eq_true (show (i : Int) < ((a.length + b.length : Nat) : Int) by omega), cond_true]
      have hx : (a ++ b)[i]? = some ((a ++ b)[i]'(by simpa using hlt)) := List.getElem?_eq_getElem _
      generalize (a ++ b)[i]'(by simpa using hlt) = x at hx
      have key : (bif (decide ((i : Int) < ((a.length : Nat) : Int))) then (bif decide ((0 : Int) ≤ (i : Int)) then (Option.bind ((a)[(Int.toNat (i : Int))]?) fun y_34 => some (((UInt8.toNat y_34 : Nat) : Int))) else none) else (bif decide ((0 : Int) ≤ (IntKind.wrap IntKind.i64 ((i : Int) - ((a.length : Nat) : Int)))) then (Option.bind ((b)[(Int.toNat (IntKind.wrap IntKind.i64 ((i : Int) - ((a.length : Nat) : Int))))]?) fun y_35 => some (((UInt8.toNat y_35 : Nat) : Int))) else none)) = some (((UInt8.toNat x : Nat) : Int)) := by
        by_cases ha : i < a.length
        · rw [decide_eq_true (show (i : Int) < ((a.length : Nat) : Int) by omega), decide_eq_true (show (0 : Int) ≤ (i : Int) by omega), Int.toNat_natCast]
          rw [List.getElem?_append_left ha] at hx
          rw [hx]; rfl
        · rw [decide_eq_false (show ¬ (i : Int) < ((a.length : Nat) : Int) by omega), show (i : Int) - ((a.length : Nat) : Int) = ((i - a.length : Nat) : Int) by omega, wr _ (by omega), decide_eq_true (show (0 : Int) ≤ ((i - a.length : Nat) : Int) by omega)]
          rw [List.getElem?_append_right (by omega)] at hx
          simp only [cond_false, cond_true, Int.toNat_natCast]
          rw [hx]; rfl
      rw [key, Option.bind_some]
      have hbl : (bif ((((UInt8.toNat x : Nat) : Int)) == (32 : Int)) then some true else some ((((UInt8.toNat x : Nat) : Int)) == (9 : Int))) = some (blankB x) := by
        have : ∀ n : Nat, n < 256 → (bif ((n : Int) == (32 : Int)) then some true else some ((n : Int) == (9 : Int))) = some (blankB (UInt8.ofNat n)) := by decide +kernel
        have q := this x.toNat (UInt8.toNat_lt x)
        rwa [UInt8.ofNat_toNat] at q
      rw [hbl, Option.bind_some]
      cases hb : blankB x
      · rw [cond_false, show (i : Int) + 1 = ((i + 1 : Nat) : Int) by omega, wr _ (by omega)]
        rcases ih (i + 1) (by omega) (by omega) with q | ⟨q1, q2⟩
        · exact .inl q
        · refine .inr ⟨q1, fun j hj y hy => ?_⟩
          by_cases hji : j = i
          · subst hji
            rw [hx] at hy
            injection hy with hy
            subst hy; exact hb
          · exact q2 j (by omega) y hy
      · exact .inl rfl
    · rw [decide_eq_false (by omega), cond_false]
      refine .inr ⟨rfl, fun j hj y hy => ?_⟩
      have := (List.getElem?_eq_some_iff.1 hy).1
      simp at this; omega
theorem words_head (a r : List UInt8) (ha : a ≠ []) (hb : ∀ c, c ∈ a → blankB c = false) : wordsA (a ++ [32] ++ r) [] = a :: wordsA r [] := by
  rw [List.append_assoc, wordsA_no a _ [] hb, List.nil_append, List.singleton_append, wordsA, if_pos (by decide), if_neg ha]
theorem CronLists_true (a b rest : List UInt8) (m : api_Civil) (ha : a.length ≤ 1048576) (hb : b.length ≤ 1048576) (hr : rest.length ≤ 1048576) : matinslaw06_CronLists 4000000 a b rest m = some true := by
  unfold matinslaw06_CronLists
  rw [awake_ok, Option.bind_some]
  simp only [Bool.not_true, cond_false]
  have hB := blank_loop a b (by omega) 4000000 0 (Nat.zero_le _) (by omega)
  rw [show ((0 : Nat) : Int) = 0 from rfl] at hB
  rcases hB with hB | ⟨hB, hnb⟩
  · rw [hB]; rfl
  rw [hB, Option.bind_some]
  simp only [Sum.elim_inr]
  by_cases ha0 : a = []
  · subst ha0; rfl
  by_cases hb0 : b = []
  · subst hb0
    have : ((((a.length : Nat) : Int)) == 0) = false := by simpa using ha0
    rw [show (@Nat.cast Int instNatCastInt (List.length a) == 0) = false from this]; rfl
  have na : ((((a.length : Nat) : Int)) == 0) = false := by simpa using ha0
  have nb : ((((b.length : Nat) : Int)) == 0) = false := by simpa using hb0
  rw [show (@Nat.cast Int instNatCastInt (List.length a) == 0) = false from na, show (@Nat.cast Int instNatCastInt (List.length b) == 0) = false from nb]
  simp only [cond_false, Option.bind_some]
  have hna : ∀ c, c ∈ a → blankB c = false := fun c hc => by
    obtain ⟨j, hj, rfl⟩ := List.mem_iff_getElem.1 hc
    exact hnb j (Nat.zero_le _) _ (by rw [List.getElem?_append_left hj]; exact List.getElem?_eq_getElem hj)
  have hnb' : ∀ c, c ∈ b → blankB c = false := fun c hc => by
    obtain ⟨j, hj, rfl⟩ := List.mem_iff_getElem.1 hc
    exact hnb (a.length + j) (Nat.zero_le _) _ (by rw [List.getElem?_append_right (by omega), show a.length + j - a.length = j by omega]; exact List.getElem?_eq_getElem hj)
  obtain ⟨x, px, _, x256, xok⟩ := parse_ex (a ++ [32] ++ rest)
  obtain ⟨y, py, _, y256, yok⟩ := parse_ex (b ++ [32] ++ rest)
  obtain ⟨z, pz, _, z256, zok⟩ := parse_ex (a ++ [44] ++ b ++ [32] ++ rest)
  rw [px, py, pz]
  simp only [List.length_append, List.length_cons, List.length_nil]
  rw [decide_eq_true (show a.length + (0 + 1) ≤ 9223372036854775807 by omega), decide_eq_true (show a.length + (0 + 1) + rest.length ≤ 9223372036854775807 by omega), decide_eq_true (show b.length + (0 + 1) ≤ 9223372036854775807 by omega),
    decide_eq_true (show b.length + (0 + 1) + rest.length ≤ 9223372036854775807 by omega), decide_eq_true (show a.length + (0 + 1) + b.length ≤ 9223372036854775807 by omega),
    decide_eq_true (show a.length + (0 + 1) + b.length + (0 + 1) ≤ 9223372036854775807 by omega), decide_eq_true (show a.length + (0 + 1) + b.length + (0 + 1) + rest.length ≤ 9223372036854775807 by omega)]
  simp only [cond_true, Option.bind_some]
  by_cases ex : x.2.2 = 0
  rotate_left
  · rw [show (x.2.2 != 0) = true by simpa using ex]; rfl
  by_cases ey : y.2.2 = 0
  rotate_left
  · rw [show (x.2.2 != 0) = false by simpa using ex, show (y.2.2 != 0) = true by simpa using ey]; rfl
  rw [show (x.2.2 != 0) = false by simpa using ex, show (y.2.2 != 0) = false by simpa using ey]
  simp only [cond_false, Option.bind_some]
  by_cases hz : (a ++ [44] ++ b ++ [32] ++ rest).length ≤ 256
  rotate_left
  · have := z256 (by omega)
    rw [this]; rfl
  obtain ⟨hxl, u0, u1, u2, u3, u4, b0, b1, b2, b3, b4, hu, f0, f1, f2, f3, f4⟩ := xok ex
  obtain ⟨hyl, v0, v1, v2, v3, v4, c0, c1, c2, c3, c4, hv, g0, g1, g2, g3, g4⟩ := yok ey
  have wx := words_head a rest ha0 hna
  have wy := words_head b rest hb0 hnb'
  have wz := words_head (a ++ [44] ++ b) rest (by simp) (fun c hc => by
    simp only [List.mem_append, List.mem_singleton] at hc
    rcases hc with (hc | rfl) | hc
    · exact hna c hc
    · decide
    · exact hnb' c hc)
  have lx := (wordsA_len (a ++ [32] ++ rest) []).1
  have ly := (wordsA_len (b ++ [32] ++ rest) []).1
  rw [hu] at lx
  rw [hv] at ly
  have hux := wx.symm.trans hu
  have hvy := wy.symm.trans hv
  injection hux with e0 e1
  injection hvy with e2 e3
  subst e0; subst e2
  rw [e1] at wz e3
  injection e3 with k1 e3
  injection e3 with k2 e3
  injection e3 with k3 e3
  injection e3 with k4 e3
  subst k1; subst k2; subst k3; subst k4
  have hlx : ∀ p, p ∈ [a, u1, u2, u3, u4] → p.length ≤ 900 := fun p hp => by have := lx p hp; simp at this hxl; omega
  have hly : ∀ p, p ∈ [b, u1, u2, u3, u4] → p.length ≤ 900 := fun p hp => by have := ly p hp; simp at this hyl; omega
  have hab : a.length + b.length ≤ 800 := by simp at hz; omega
  have j0 := f0.join hab g0
  rw [show a ++ 44 :: b = a ++ [44] ++ b by simp] at j0
  have X := px.symm.trans (parse_mk _ hxl _ _ _ _ _ hu b0 b1 b2 b3 b4 f0 f1 f2 f3 f4)
  have Y := py.symm.trans (parse_mk _ hyl _ _ _ _ _ hv c0 c1 c2 c3 c4 g0 g1 g2 g3 g4)
  have Z := pz.symm.trans (parse_mk _ hz _ _ _ _ _ wz (b0 ||| c0) b1 b2 b3 b4 j0 f1 f2 f3 f4)
  injection X with X
  injection Y with Y
  injection Z with Z
  subst X; subst Y; subst Z
  have same : ∀ (n : Nat) (w : List UInt8) (p q : Nat), FR n w p → FR n w q → p = q := fun n w p q h1 h2 => by
    have := h1.symm.trans h2
    simp only [Option.some.injEq, Prod.mk.injEq] at this
    omega
  obtain rfl := same _ _ _ _ f1 g1
  obtain rfl := same _ _ _ _ f2 g2
  obtain rfl := same _ _ _ _ f3 g3
  obtain rfl := same _ _ _ _ f4 g4
  have l0 := (f0.okF (by decide) (hlx _ (by simp))).1
  have l0' := (g0.okF (by decide) (hly _ (by simp))).1
  have kx := read_chk _ _ _ _ _ hlx b0 b1 b2 b3 b4 f0 f1 f2 f3 f4
  have ky := read_chk _ _ _ _ _ hly c0 b1 b2 b3 b4 g0 f1 f2 f3 f4
  have kz := read_chk _ u1 u2 u3 u4 (fun p hp => by
    rcases List.mem_cons.1 hp with rfl | hp
    · simp; omega
    · exact hlx p (List.mem_cons_of_mem _ hp)) (b0 ||| c0) b1 b2 b3 b4 j0 f1 f2 f3 f4
  obtain ⟨_, _, _, ok, hok, hf⟩ := fits_eq 3999994 ⟨b0, b1, b2, b3, b4, u2 == [42], u4 == [42]⟩ m
  simp only [show 3999994 + 6 = 4000000 from rfl] at hf
  simp only [hf, kx, ky, kz, Bool.and_true, Option.bind_some, ib_or b0 c0 l0 l0', bne_self_eq_false, cond_false]
  cases ok with
  | false => simp
  | true =>
    obtain ⟨-, -, -, -, r1, -, -⟩ := hok rfl
    have hh : hasB ((b0 ||| c0 : Nat) : Int) m.Minute = (hasB b0 m.Minute || hasB c0 m.Minute) := by
      rw [hasB_nat _ _ (Nat.or_lt_two_pow l0 l0') r1, hasB_nat _ _ l0 r1, hasB_nat _ _ l0' r1, Nat.testBit_or]
    simp only [fitsB, hh, Bool.true_and, beq_self_eq_true, cond_true]
    generalize (if ((u2 == [42]) || (u4 == [42])) = true then hasB (b2 : Int) m.Day && hasB (b4 : Int) m.Week else hasB (b2 : Int) m.Day || hasB (b4 : Int) m.Week) = D
    cases hasB (b0 : Int) m.Minute <;> cases hasB (c0 : Int) m.Minute <;> cases hasB (b1 : Int) m.Hour <;> cases hasB (b3 : Int) m.Month <;> cases D <;> rfl
end Go.T
