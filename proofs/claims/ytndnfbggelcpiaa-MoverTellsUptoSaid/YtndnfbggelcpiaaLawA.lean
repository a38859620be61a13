/-
  LawA: general lemmas on loops and numbers of the typed functions.
-/
import Derived.Test.YtndnfbggelcpiaaSem
namespace Go.T
open Go Go.Ab

theorem wrap_id {x : Int} (h1 : -9223372036854775808 ≤ x) (h2 : x ≤ 9223372036854775807) : IntKind.wrap IntKind.i64 x = x := by
  rw [IntKind.wrap_i64]; omega

/-- a loop that goes on while all is good -/
theorem allLoop {ρ : Type} (L : Nat → Int → Option (ρ ⊕ Unit)) (len : Nat) (good : Nat → Bool) (bad : ρ)
    (h1 : ∀ n (i : Nat), i < len → L (n + 1) i = cond (good i) (L n ((i : Int) + 1)) (some (.inl bad)))
    (h2 : ∀ n (i : Nat), len ≤ i → L (n + 1) i = some (.inr ())) :
    ∀ n (i : Nat), len - i < n → ((∀ j, i ≤ j → j < len → good j = true) ∧ L n i = some (.inr ())) ∨ ((∃ j, i ≤ j ∧ j < len ∧ good j = false) ∧ L n i = some (.inl bad)) := by
  intro n
  induction n with
  | zero => intro i h; omega
  | succ n ih =>
    intro i h
    by_cases hi : i < len
    · rw [h1 n i hi]
      cases hg : good i with
      | true =>
        rw [cond_true, show ((i : Int) + 1) = ((i + 1 : Nat) : Int) by omega]
        rcases ih (i + 1) (by omega) with ⟨h3, h4⟩ | ⟨⟨j, h3, h4, h5⟩, h6⟩
        · refine .inl ⟨fun j hj1 hj2 => ?_, h4⟩
          by_cases e : j = i
          · subst e; exact hg
          · exact h3 j (by omega) hj2
        · exact .inr ⟨⟨j, by omega, h4, h5⟩, h6⟩
      | false => exact .inr ⟨⟨i, Nat.le_refl _, hi, hg⟩, rfl⟩
    · exact .inl ⟨fun j h1 h2 => by omega, h2 n i (by omega)⟩

/-- a loop that looks for the first hit -/
theorem findLoop (L : Nat → Int → Option (Int ⊕ Unit)) (len : Nat) (hit : Nat → Bool)
    (h1 : ∀ n (i : Nat), i < len → L (n + 1) i = cond (hit i) (some (.inl (i : Int))) (L n ((i : Int) + 1)))
    (h2 : ∀ n (i : Nat), len ≤ i → L (n + 1) i = some (.inr ())) :
    ∀ n (i : Nat), len - i < n → (∃ j : Nat, i ≤ j ∧ j < len ∧ hit j = true ∧ (∀ k, i ≤ k → k < j → hit k = false) ∧ L n i = some (.inl (j : Int))) ∨ ((∀ k, i ≤ k → k < len → hit k = false) ∧ L n i = some (.inr ())) := by
  intro n
  induction n with
  | zero => intro i h; omega
  | succ n ih =>
    intro i h
    by_cases hi : i < len
    · rw [h1 n i hi]
      cases hg : hit i with
      | true => exact .inl ⟨i, Nat.le_refl _, hi, hg, fun k h1 h2 => by omega, rfl⟩
      | false =>
        rw [cond_false, show ((i : Int) + 1) = ((i + 1 : Nat) : Int) by omega]
        rcases ih (i + 1) (by omega) with ⟨j, h3, h4, h5, h6, h7⟩ | ⟨h3, h4⟩
        · refine .inl ⟨j, by omega, h4, h5, fun k hk1 hk2 => ?_, h7⟩
          by_cases e : k = i
          · subst e; exact hg
          · exact h6 k (by omega) hk2
        · refine .inr ⟨fun k hk1 hk2 => ?_, h4⟩
          by_cases e : k = i
          · subst e; exact hg
          · exact h3 k (by omega) hk2
    · exact .inr ⟨fun k h1 h2 => by omega, h2 n i (by omega)⟩

def nameB (c : UInt8) : Bool := decide (97 ≤ c.toNat ∧ c.toNat ≤ 122) || decide (48 ≤ c.toNat ∧ c.toNat ≤ 57) || c.toNat == 45 || c.toNat == 46
def nm (s : List UInt8) : Bool := s.all nameB && decide (1 ≤ s.length) && decide (s.length ≤ 16)
def at_ (s : List UInt8) (i : Nat) : Bool := match s[i]? with | some c => nameB c | none => true
theorem at_lt {s : List UInt8} {i : Nat} (h : i < s.length) : at_ s i = nameB s[i] := by simp [at_, h]
theorem all_get {s : List UInt8} : (∀ j, 0 ≤ j → j < s.length → at_ s j = true) ↔ s.all nameB = true := by
  rw [List.all_eq_true]
  constructor
  · intro H x hx
    obtain ⟨i, hi, rfl⟩ := List.getElem_of_mem hx
    have := H i (Nat.zero_le _) hi
    rwa [at_lt hi] at this
  · intro H j _ h; rw [at_lt h]; exact H _ (List.getElem_mem h)

theorem jobs_Named_ok {F : Nat} {s : List UInt8} (hs : s.length ≤ 1048576) (hF : 1048577 ≤ F) : jobs_Named F s = some (nm s) := by
  have hl := allLoop (fun n i => jobs_Named_l0 F s n i) s.length (at_ s) false
    (fun n i hi => by
      simp only [jobs_Named_l0]
      have e1 : (decide ((i : Int) < ((List.length s : Nat) : Int))) = true := by simp [hi]
      have e2 : decide ((0 : Int) ≤ (i : Int)) = true := by simp
      simp only [e1, e2, cond_true, Int.toNat_natCast, List.getElem?_map, List.getElem?_eq_getElem hi, Option.map_some, Option.bind_some]
      rw [wrap_id (by omega) (by omega)]
      rw [at_lt hi]
      simp only [nameB]
      generalize s[i].toNat = c
      have k1 : decide (97 ≤ c ∧ c ≤ 122) = (!decide ((c : Int) < 97) && !decide (122 < (c : Int))) := by rw [Bool.eq_iff_iff]; simp; omega
      have k2 : decide (48 ≤ c ∧ c ≤ 57) = (!decide ((c : Int) < 48) && !decide (57 < (c : Int))) := by rw [Bool.eq_iff_iff]; simp; omega
      have k3 : (c == 45) = !((c : Int) != 45) := by rw [Bool.eq_iff_iff]; simp; omega
      have k4 : (c == 46) = !((c : Int) != 46) := by rw [Bool.eq_iff_iff]; simp; omega
      rw [k1, k2, k3, k4]
      generalize decide ((c : Int) < 97) = b1
      generalize decide (122 < (c : Int)) = b2
      generalize decide ((c : Int) < 48) = b3
      generalize decide (57 < (c : Int)) = b4
      generalize ((c : Int) != 45) = b5
      generalize ((c : Int) != 46) = b6
      cases b1 <;> cases b2 <;> cases b3 <;> cases b4 <;> cases b5 <;> cases b6 <;> simp)
    (fun n i hi => by
      simp only [jobs_Named_l0]
      have e1 : (decide ((i : Int) < ((List.length s : Nat) : Int))) = false := by simp; omega
      simp only [e1, cond_false]) F 0 (by omega)
  unfold jobs_Named
  have e1 : decide (List.length s ≤ LIM) = true := decide_eq_true (by unfold LIM; omega)
  simp only [e1, cond_true]
  simp only [Int.natCast_zero] at hl
  unfold nm
  rcases hl with ⟨ha, hl⟩ | ⟨⟨j, _, hj, ha⟩, hl⟩
  · rw [hl, all_get.1 ha]
    simp only [Option.bind_some, Sum.elim_inr, Bool.true_and]
    have k1 : decide ((1 : Int) ≤ ((s.length : Nat) : Int)) = decide (1 ≤ s.length) := decide_eq_decide.2 (by omega)
    have k1' : decide ((0 : Int) < ((s.length : Nat) : Int)) = decide (1 ≤ s.length) := decide_eq_decide.2 (by omega)
    have k2 : decide (((s.length : Nat) : Int) ≤ 16) = decide (s.length ≤ 16) := decide_eq_decide.2 (by omega)
    first | rw [k1, k2] | rw [k1', k2]
    cases decide (1 ≤ s.length) <;> cases decide (s.length ≤ 16) <;> rfl
  · rw [hl]
    have : s.all nameB = false := by
      cases hx : s.all nameB with
      | false => rfl
      | true => rw [all_get.2 hx j (Nat.zero_le _) hj] at ha; cases ha
    rw [this]; rfl

theorem ref09_Named_ok {F : Nat} {s : List UInt8} (hs : s.length ≤ 1048576) (hF : 1048577 ≤ F) : matinsref09_Named F s = some (nm s) := by
  have hl := allLoop (fun n i => matinsref09_Named_l0 F s n i) s.length (at_ s) false
    (fun n i hi => by
      simp only [matinsref09_Named_l0]
      have e1 : (decide ((i : Int) < ((List.length s : Nat) : Int))) = true := by simp [hi]
      have e2 : decide ((0 : Int) ≤ (i : Int)) = true := by simp
      simp only [e1, e2, cond_true, Int.toNat_natCast, List.getElem?_eq_getElem hi, Option.bind_some]
      rw [wrap_id (by omega) (by omega)]
      rw [at_lt hi]
      simp only [nameB]
      generalize s[i].toNat = c
      have k1 : decide (97 ≤ c ∧ c ≤ 122) = (decide (97 ≤ (c : Int)) && decide ((c : Int) ≤ 122)) := by rw [Bool.eq_iff_iff]; simp; omega
      have k2 : decide (48 ≤ c ∧ c ≤ 57) = (decide (48 ≤ (c : Int)) && decide ((c : Int) ≤ 57)) := by rw [Bool.eq_iff_iff]; simp; omega
      have k3 : (c == 45) = ((c : Int) == 45) := by rw [Bool.eq_iff_iff]; simp; omega
      have k4 : (c == 46) = ((c : Int) == 46) := by rw [Bool.eq_iff_iff]; simp; omega
      rw [k1, k2, k3, k4]
      generalize decide (97 ≤ (c : Int)) = b1
      generalize decide ((c : Int) ≤ 122) = b2
      generalize decide (48 ≤ (c : Int)) = b3
      generalize decide ((c : Int) ≤ 57) = b4
      generalize ((c : Int) == 45) = b5
      generalize ((c : Int) == 46) = b6
      cases b1 <;> cases b2 <;> cases b3 <;> cases b4 <;> cases b5 <;> cases b6 <;> simp)
    (fun n i hi => by
      simp only [matinsref09_Named_l0]
      have e1 : (decide ((i : Int) < ((List.length s : Nat) : Int))) = false := by simp; omega
      simp only [e1, cond_false]) F 0 (by omega)
  unfold matinsref09_Named
  simp only [Int.natCast_zero] at hl
  unfold nm
  rcases hl with ⟨ha, hl⟩ | ⟨⟨j, _, hj, ha⟩, hl⟩
  · rw [hl, all_get.1 ha]
    simp only [Option.bind_some, Sum.elim_inr, Bool.true_and]
    have k1 : decide ((1 : Int) ≤ ((s.length : Nat) : Int)) = decide (1 ≤ s.length) := decide_eq_decide.2 (by omega)
    have k1' : decide ((0 : Int) < ((s.length : Nat) : Int)) = decide (1 ≤ s.length) := decide_eq_decide.2 (by omega)
    have k2 : decide (((s.length : Nat) : Int) ≤ 16) = decide (s.length ≤ 16) := decide_eq_decide.2 (by omega)
    first | rw [k1, k2] | rw [k1', k2]
    cases decide (1 ≤ s.length) <;> cases decide (s.length ≤ 16) <;> rfl
  · rw [hl]
    have : s.all nameB = false := by
      cases hx : s.all nameB with
      | false => rfl
      | true => rw [all_get.2 hx j (Nat.zero_le _) hj] at ha; cases ha
    rw [this]; rfl

/-- the place of a shard's span, or -1 -/
def plc (l : List api_Span) (k : Int) : Int := match l.findIdx? (fun s => s.Shard == k) with | some i => (i : Int) | none => -1
theorem plc_spec (l : List api_Span) (k : Int) : (∃ (j : Nat) (h : j < l.length), l[j].Shard = k ∧ (∀ i (hi : i < j), l[i].Shard ≠ k) ∧ plc l k = j) ∨ ((∀ i (h : i < l.length), l[i].Shard ≠ k) ∧ plc l k = -1) := by
  unfold plc
  cases h : l.findIdx? (fun s => s.Shard == k) with
  | none =>
    right
    rw [List.findIdx?_eq_none_iff] at h
    exact ⟨fun i hi => by have := h _ (List.getElem_mem hi); simpa using this, rfl⟩
  | some j =>
    left
    rw [List.findIdx?_eq_some_iff_getElem] at h
    obtain ⟨hj, h1, h2⟩ := h
    exact ⟨j, hj, by simpa using h1, fun i hi => by have := h2 i hi; simpa using this, rfl⟩
theorem plc_unique {l : List api_Span} {k : Int} {j : Nat} (h : j < l.length) (h1 : l[j].Shard = k) (h2 : ∀ i (hi : i < j), l[i].Shard ≠ k) : plc l k = j := by
  rcases plc_spec l k with ⟨j', h', a, b, c⟩ | ⟨a, b⟩
  · rcases Nat.lt_trichotomy j j' with q | q | q
    · exact absurd h1 (b j q)
    · rw [c, q]
    · exact absurd a (h2 j' q)
  · exact absurd h1 (a j h)
theorem plc_none {l : List api_Span} {k : Int} (h : ∀ i (h : i < l.length), l[i].Shard ≠ k) : plc l k = -1 := by
  rcases plc_spec l k with ⟨j', h', a, b, c⟩ | ⟨a, b⟩
  · exact absurd a (h j' h')
  · exact b

def at_sh (l : List api_Span) (k : Int) (i : Nat) : Bool := match l[i]? with | some s => s.Shard == k | none => false
theorem at_sh_lt {l : List api_Span} {k : Int} {i : Nat} (h : i < l.length) : at_sh l k i = (l[i].Shard == k) := by simp [at_sh, h]
theorem atlas_place_ok {F : Nat} {a : api_Atlas} {k : Int} (hs : a.Spans.length ≤ 1048576) (hF : 1048577 ≤ F) : atlas_place F a k = some (plc a.Spans k) := by
  have hl := findLoop (fun n i => slices_IndexFunc___api_Span_api_Span__l0 F a.Spans k n i) a.Spans.length (at_sh a.Spans k)
    (fun n i hi => by
      simp only [slices_IndexFunc___api_Span_api_Span__l0, atlas_place_1]
      have e1 : (decide ((i : Int) < ((List.length a.Spans : Nat) : Int))) = true := by simp [hi]
      have e2 : decide ((0 : Int) ≤ (i : Int)) = true := by simp
      simp only [e1, e2, cond_true, Int.toNat_natCast, List.getElem?_eq_getElem hi, Option.bind_some]
      rw [wrap_id (by omega) (by omega)]
      rw [at_sh_lt hi])
    (fun n i hi => by
      simp only [slices_IndexFunc___api_Span_api_Span__l0]
      have e1 : (decide ((i : Int) < ((List.length a.Spans : Nat) : Int))) = false := by simp; omega
      simp only [e1, cond_false]) F 0 (by omega)
  unfold atlas_place slices_IndexFunc___api_Span_api_Span_
  simp only [Int.natCast_zero] at hl
  rcases hl with ⟨j, _, h2, h3, h4, h5⟩ | ⟨h3, h5⟩
  · rw [h5, plc_unique h2 (by rw [at_sh_lt h2] at h3; simpa using h3) (fun i hi e => by have := h4 i (Nat.zero_le _) hi; rw [at_sh_lt (by omega)] at this; simp [e] at this)]; rfl
  · rw [h5, plc_none (fun i hi e => by have := h3 i (Nat.zero_le _) hi; rw [at_sh_lt hi] at this; simp [e] at this)]; rfl
theorem ref19_Place_ok {F : Nat} {a : api_Atlas} {k : Int} (hs : a.Spans.length ≤ 1048576) (hF : 1048577 ≤ F) : matinsref19_Place F a k = some (plc a.Spans k) := by
  have hl := findLoop (fun n i => matinsref19_Place_l0 F a k n i) a.Spans.length (at_sh a.Spans k)
    (fun n i hi => by
      simp only [matinsref19_Place_l0]
      have e1 : (decide ((i : Int) < ((List.length a.Spans : Nat) : Int))) = true := by simp [hi]
      have e2 : decide ((0 : Int) ≤ (i : Int)) = true := by simp
      simp only [e1, e2, cond_true, Int.toNat_natCast, List.getElem?_eq_getElem hi, Option.bind_some]
      rw [wrap_id (by omega) (by omega)]
      rw [at_sh_lt hi])
    (fun n i hi => by
      simp only [matinsref19_Place_l0]
      have e1 : (decide ((i : Int) < ((List.length a.Spans : Nat) : Int))) = false := by simp; omega
      simp only [e1, cond_false]) F 0 (by omega)
  unfold matinsref19_Place
  simp only [Int.natCast_zero] at hl
  rcases hl with ⟨j, _, h2, h3, h4, h5⟩ | ⟨h3, h5⟩
  · rw [h5, plc_unique h2 (by rw [at_sh_lt h2] at h3; simpa using h3) (fun i hi e => by have := h4 i (Nat.zero_le _) hi; rw [at_sh_lt (by omega)] at this; simp [e] at this)]; rfl
  · rw [h5, plc_none (fun i hi e => by have := h3 i (Nat.zero_le _) hi; rw [at_sh_lt hi] at this; simp [e] at this)]; rfl
end Go.T
