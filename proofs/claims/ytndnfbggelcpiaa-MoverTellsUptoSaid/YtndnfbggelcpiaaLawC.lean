/-
  LawC: the plan of a map; Check.
-/
import Derived.Test.YtndnfbggelcpiaaLawB
namespace Go.T
open Go Go.Ab

theorem first_bad {α : Type} {b b' : Bool} {f g : Bool → Option α} {X Y : Option Bool} (h1 : X = some b) (h2 : Y = some b') : Option.bind X f = f b ∧ Option.bind Y g = g b' := by
  rw [h1, h2]; exact ⟨rfl, rfl⟩

theorem moving_ok {F : Nat} {a : api_Atlas} {s : api_Span} : ∃ b, atlas_moving F a s a.Plan = some b ∧ matinsref19_move F a s = some b := by
  unfold atlas_moving matinsref19_move
  by_cases h1 : a.Plan.Group = a.Plan.Past
  · refine ⟨false, ?_, ?_⟩
    · simp [h1]
    · by_cases h2 : a.Plan.Past < 1 <;> by_cases h3 : a.Groups < a.Plan.Past <;> simp [h1, h2, h3]
  by_cases h2 : a.Plan.Group < 1
  · have e : (if a.Plan.Past < a.Plan.Group then a.Plan.Past else a.Plan.Group) < 1 := by split <;> omega
    exact ⟨false, by simp [e], by simp [h2]⟩
  by_cases h3 : a.Plan.Past < 1
  · have e : (if a.Plan.Past < a.Plan.Group then a.Plan.Past else a.Plan.Group) < 1 := by split <;> omega
    exact ⟨false, by simp [e], by simp [h2, h3]⟩
  have e0 : ¬ (if a.Plan.Past < a.Plan.Group then a.Plan.Past else a.Plan.Group) < 1 := by split <;> omega
  by_cases h4 : a.Groups < a.Plan.Group
  · have e : a.Groups < (if a.Plan.Past > a.Plan.Group then a.Plan.Past else a.Plan.Group) := by split <;> omega
    exact ⟨false, by simp only [beq_eq_false_iff_ne.2 h1, decide_eq_false e0, decide_eq_true e, cond_true, cond_false, Option.bind_some], by simp [h2, h4]⟩
  by_cases h5 : a.Groups < a.Plan.Past
  · have e : a.Groups < (if a.Plan.Past > a.Plan.Group then a.Plan.Past else a.Plan.Group) := by split <;> omega
    exact ⟨false, by simp only [beq_eq_false_iff_ne.2 h1, decide_eq_false e0, decide_eq_true e, cond_true, cond_false, Option.bind_some], by simp [h2, h3, h4, h5]⟩
  have e1 : ¬ a.Groups < (if a.Plan.Past > a.Plan.Group then a.Plan.Past else a.Plan.Group) := by split <;> omega
  simp only [beq_eq_false_iff_ne.2 h1, decide_eq_false e0, decide_eq_false e1, decide_eq_false h2, decide_eq_false h3, decide_eq_false h4, decide_eq_false h5, cond_false]
  have c2 : ∀ x : Int, (a.Plan.Epoch == x) = (x == a.Plan.Epoch) := fun x => by rw [Bool.eq_iff_iff]; simp; exact eq_comm
  simp only [c2]
  generalize (a.Plan.Other != 0) = q1
  cases q1
  rotate_left
  · exact ⟨false, rfl, rfl⟩
  generalize (a.Plan.Key == []) = q2
  cases q2
  · exact ⟨false, rfl, rfl⟩
  generalize (a.Plan.Phase == 1) = q3
  generalize (a.Plan.Phase == 2) = q4
  generalize (a.Plan.Phase == 3) = q5
  generalize (a.Plan.Phase == 9) = q6
  generalize (s.Group == a.Plan.Past) = q7
  generalize (s.Group == a.Plan.Group) = q8
  cases q3 <;> cases q4 <;> cases q5 <;> cases q6 <;> cases q7 <;> cases q8 <;> exact ⟨_, rfl, rfl⟩

theorem less_flip : ∀ (x y : List UInt8), (!(Op.bytesLess x y || x == y)) = Op.bytesLess y x := by
  intro x
  induction x with
  | nil =>
    intro y
    cases y with
    | nil => rfl
    | cons b y => rfl
  | cons a x ih =>
    intro y
    cases y with
    | nil => rfl
    | cons b y =>
      have h := ih y
      have e : ((a :: x) == (b :: y)) = (a == b && x == y) := rfl
      simp only [Op.bytesLess, e]
      rw [← h]
      rcases Nat.lt_trichotomy a.toNat b.toNat with q | q | q
      · have h1 : decide (a < b) = true := decide_eq_true (UInt8.lt_iff_toNat_lt.2 q)
        have h2 : decide (b < a) = false := decide_eq_false (by rw [UInt8.lt_iff_toNat_lt]; omega)
        have h3 : (a == b) = false := by rw [beq_eq_false_iff_ne]; intro e; subst e; omega
        have h4 : (b == a) = false := by rw [beq_eq_false_iff_ne]; intro e; subst e; omega
        simp [h1, h2, h3, h4]
      · have e : a = b := UInt8.toNat_inj.1 q
        subst e
        have h1 : decide (a < a) = false := decide_eq_false (by rw [UInt8.lt_iff_toNat_lt]; omega)
        simp
      · have h1 : decide (a < b) = false := decide_eq_false (by rw [UInt8.lt_iff_toNat_lt]; omega)
        have h2 : decide (b < a) = true := decide_eq_true (UInt8.lt_iff_toNat_lt.2 q)
        have h3 : (a == b) = false := by rw [beq_eq_false_iff_ne]; intro e; subst e; omega
        have h4 : (b == a) = false := by rw [beq_eq_false_iff_ne]; intro e; subst e; omega
        simp [h1, h2, h3, h4]

theorem inside_ok {F : Nat} {s : api_Span} {k : List UInt8} (hk : k.length ≤ 1048576) (hF : 1048577 ≤ F) : ∃ b, atlas_inside F s k = some b ∧ matinsref19_inside F s k = some b := by
  unfold atlas_inside matinsref19_inside
  simp only [jobs_Named_ok hk hF, ref09_Named_ok hk hF, less_flip, Option.bind_some]
  cases nm k <;> cases Op.bytesLess s.From k <;> cases (s.To == []) <;> exact ⟨_, rfl, rfl⟩

theorem planned_ok {F : Nat} {a : api_Atlas} (ha : api_Atlas.ok 1048576 a) (hF : 1048577 ≤ F) (hS : SpansOk a) : ∃ b, atlas_planned F a = some b ∧ matinsref19_Check F a = some b := by
  have hs : a.Spans.length ≤ 1048576 := ha.2.2.1.1
  have hn : a.Spans.length ≤ 16 := hS.2.2.2.1.2.1
  have hk : a.Plan.Key.length ≤ 1048576 := ha.2.2.2.1.2.2.2.2.2.2.2.1
  unfold matinsref19_Check atlas_planned
  rcases spans_ok ha hF with ⟨_, h⟩ | ⟨h, _⟩
  rotate_left
  · exact absurd hS h
  simp only [h, Option.bind_some, Bool.not_true, cond_false, atlas_place_ok hs hF, ref19_Place_ok hs hF]
  generalize ((a.Plan.Kind == (0 : Int)) && _) = z
  cases z with
  | true => exact ⟨true, rfl, rfl⟩
  | false =>
    simp only [cond_false]
    rcases plc_spec a.Spans a.Plan.Shard with ⟨j, hj, _, _, hp⟩ | ⟨_, hp⟩
    rotate_left
    · rw [hp]; exact ⟨false, rfl, rfl⟩
    rw [hp]
    have e1 : decide ((j : Int) < 0) = false := decide_eq_false (by omega)
    have e2 : decide ((0 : Int) ≤ (j : Int)) = true := decide_eq_true (by omega)
    have e3 : IntKind.wrap IntKind.i64 ((j : Int) + 1) = ((j + 1 : Nat) : Int) := by rw [wrap_id (by omega) (by omega)]; omega
    have e4 : decide ((0 : Int) ≤ ((j + 1 : Nat) : Int)) = true := decide_eq_true (by omega)
    simp only [e1, e2, e3, e4, cond_true, cond_false, Int.toNat_natCast, List.getElem?_eq_getElem hj, Option.bind_some]
    generalize hs1 : a.Spans[j] = s
    by_cases g1 : a.Plan.Epoch < 1
    · refine ⟨false, by simp [g1], ?_⟩
      by_cases k1 : a.Plan.Kind < 1 <;> by_cases k2 : 3 < a.Plan.Kind <;> simp [g1, k1, k2]
    by_cases g2 : 1099511627774 < a.Plan.Epoch
    · refine ⟨false, by simp [g1, g2], ?_⟩
      by_cases k1 : a.Plan.Kind < 1 <;> by_cases k2 : 3 < a.Plan.Kind <;> simp [g1, g2, k1, k2]
    simp only [decide_eq_false g1, decide_eq_false g2, cond_false, Option.bind_some]
    obtain ⟨mb, m1, m2⟩ := moving_ok (F := F) (a := a) (s := s)
    obtain ⟨ib, i1, i2⟩ := inside_ok (F := F) (s := s) hk hF
    simp only [m1, m2, i1, i2, Option.bind_some]
    have c2 : ∀ x : Int, (a.Plan.Epoch != x) = (x != a.Plan.Epoch) := fun x => by rw [Bool.eq_iff_iff]; simp; exact ne_comm
    have c3 : (a.Plan.Group != s.Group) = (s.Group != a.Plan.Group) := by rw [Bool.eq_iff_iff]; simp; exact ne_comm
    simp only [c2, c3]
    have l1 : (a.Plan.Kind = 1 ∨ a.Plan.Kind = 2 ∨ a.Plan.Kind = 3) ∨ (a.Plan.Kind ≠ 1 ∧ a.Plan.Kind ≠ 2 ∧ a.Plan.Kind ≠ 3 ∧ (a.Plan.Kind < 1 ∨ 3 < a.Plan.Kind)) := by omega
    generalize (a.Plan.Past != (0 : Int)) = q1
    generalize (s.Group != a.Plan.Group) = q2
    rcases l1 with (k | k | k) | ⟨k1, k2, k3, k4⟩
    · rw [k]; exact ⟨mb, rfl, rfl⟩
    · rw [k]
      by_cases p1 : a.Plan.Phase = 1
      · rw [p1]
        generalize (s.Epoch != a.Plan.Epoch) = q3
        generalize (a.Plan.Other == a.Last) = q4
        generalize decide (plc a.Spans a.Plan.Other < 0) = q5
        cases q1 <;> cases q2 <;> cases q3 <;> cases q4 <;> cases q5 <;> cases ib <;> exact ⟨_, rfl, rfl⟩
      · by_cases p9 : a.Plan.Phase = 9
        · rw [p9]
          generalize (IntKind.wrap IntKind.i64 (s.Epoch - 2) != a.Plan.Epoch) = q3
          generalize (a.Plan.Other == a.Last) = q4
          generalize decide (plc a.Spans a.Plan.Other < 0) = q5
          cases q1 <;> cases q2 <;> cases q3 <;> cases q4 <;> cases q5 <;> cases ib <;> exact ⟨_, rfl, rfl⟩
        · have r1 : (a.Plan.Phase != 1) = true := by simpa using p1
          have r2 : (a.Plan.Phase != 9) = true := by simpa using p9
          rw [r1, r2]
          cases q1 <;> cases q2 <;> exact ⟨false, rfl, rfl⟩
    · rw [k]
      have hne : ((3 : Int) == 2) = false := rfl
      have tail : ∀ b : Bool, b = (a.Plan.Key == []) → ∃ r, (bif b then
          (bif decide (((j + 1 : Nat) : Int) < ((a.Spans.length : Nat) : Int)) then
            Option.bind (a.Spans[j + 1]?) fun y => bif (y.Shard == a.Plan.Other) then Option.bind (a.Spans[j + 1]?) fun y => (bif (y.Group == s.Group) then Option.bind (a.Spans[j + 1]?) fun y => some (decide (y.Epoch ≤ (1099511627774 : Int))) else some false) else some false
          else some false) else some false) = some r := by
        intro b _
        cases b
        · exact ⟨false, rfl⟩
        · by_cases hl : j + 1 < a.Spans.length
          · have : decide (((j + 1 : Nat) : Int) < ((a.Spans.length : Nat) : Int)) = true := decide_eq_true (by omega)
            rw [this, List.getElem?_eq_getElem hl]
            simp only [cond_true, Option.bind_some]
            cases (a.Spans[j + 1].Shard == a.Plan.Other) <;> cases (a.Spans[j + 1].Group == s.Group) <;> exact ⟨_, rfl⟩
          · have : decide (((j + 1 : Nat) : Int) < ((a.Spans.length : Nat) : Int)) = false := decide_eq_false (by omega)
            rw [this]; exact ⟨false, rfl⟩
      obtain ⟨r, hr⟩ := tail _ rfl
      by_cases p1 : a.Plan.Phase = 1
      · rw [p1]
        generalize (s.Epoch != a.Plan.Epoch) = q3
        cases q1 <;> cases q2 <;> cases q3 <;> first | exact ⟨false, rfl, rfl⟩ | exact ⟨r, hr, hr⟩
      · by_cases p9 : a.Plan.Phase = 9
        · rw [p9]
          generalize (IntKind.wrap IntKind.i64 (s.Epoch - 2) != a.Plan.Epoch) = q3
          cases q1 <;> cases q2 <;> cases q3 <;> first | exact ⟨false, rfl, rfl⟩ | exact ⟨r, hr, hr⟩
        · have r1 : (a.Plan.Phase != 1) = true := by simpa using p1
          have r2 : (a.Plan.Phase != 9) = true := by simpa using p9
          rw [r1, r2]
          cases q1 <;> cases q2 <;> exact ⟨false, rfl, rfl⟩
    · have z1 : (a.Plan.Kind == 1) = false := by simpa using k1
      have z2 : (a.Plan.Kind == 2) = false := by simpa using k2
      have z3 : (a.Plan.Kind == 3) = false := by simpa using k3
      have zr : (bif decide (a.Plan.Kind < 1) then some true else bif decide (3 < a.Plan.Kind) then some true else some false) = some true := by
        rcases k4 with k | k
        · rw [decide_eq_true k]; rfl
        · rw [decide_eq_true k, decide_eq_false (show ¬ a.Plan.Kind < 1 by omega)]; rfl
      simp only [zr, z1, z2, z3, cond_false, Option.bind_some, cond_true]
      refine ⟨false, ?_, rfl⟩
      by_cases p1 : a.Plan.Phase = 1
      · rw [p1]
        generalize (s.Epoch != a.Plan.Epoch) = q3
        cases q1 <;> cases q2 <;> cases q3 <;> rfl
      · by_cases p9 : a.Plan.Phase = 9
        · rw [p9]
          generalize (IntKind.wrap IntKind.i64 (s.Epoch - 2) != a.Plan.Epoch) = q3
          cases q1 <;> cases q2 <;> cases q3 <;> rfl
        · have r1 : (a.Plan.Phase != 1) = true := by simpa using p1
          have r2 : (a.Plan.Phase != 9) = true := by simpa using p9
          rw [r1, r2]
          cases q1 <;> cases q2 <;> rfl

/-- A MAP IS RIGHT for both, or for neither -/
theorem Check_same {F : Nat} {a : api_Atlas} (ha : api_Atlas.ok 1048576 a) (hF : 1048577 ≤ F) :
    ∃ b, atlas_Check F a = some b ∧ matinsref19_Check F a = some b ∧ (b = true → SpansOk a) := by
  rcases check_ok ha hF with ⟨h1, h2⟩ | ⟨h1, h2⟩
  · obtain ⟨b, h3, h4⟩ := planned_ok ha hF h1
    exact ⟨b, by rw [h2, h3], h4, fun _ => h1⟩
  · refine ⟨false, h2, ?_, fun h => by cases h⟩
    unfold matinsref19_Check
    rcases spans_ok ha hF with ⟨h3, _⟩ | ⟨_, h3⟩
    · exact absurd h3 h1
    · rw [h3]; rfl
end Go.T
