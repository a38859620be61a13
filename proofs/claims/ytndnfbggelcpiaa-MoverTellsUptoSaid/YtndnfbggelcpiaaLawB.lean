/-
  LawB: a map is right for the program just where it is for the reference.
-/
import Derived.Test.YtndnfbggelcpiaaLawA
namespace Go.T
open Go Go.Ab

def up (s : api_Span) : Bool := nm s.To && !(Op.bytesLess s.To s.From || s.To == s.From)
def upAt (l : List api_Span) (i : Nat) : Bool := match l[i]?, l[i + 1]? with | some s, some t => up s && t.From == s.To | _, _ => true

theorem covers_ok {F : Nat} {l : List api_Span} (hs : l.length ≤ 1048576) (hstr : ∀ s, s ∈ l → s.To.length ≤ 1048576) (hF : 1048577 ≤ F) :
    ∃ b, atlas_covers F l = some b ∧ (b = true ↔ (1 ≤ l.length ∧ l.length ≤ 16 ∧ (∀ h : 0 < l.length, l[0].From = []) ∧ (∀ h : 0 < l.length, (l[l.length - 1]'(by omega)).To = []) ∧
      ∀ i, i < l.length - 1 → upAt l i = true)) := by
  unfold atlas_covers
  by_cases h1 : l.length = 0
  · have e1 : decide (((l.length : Nat) : Int) < 1) = true := decide_eq_true (by omega)
    simp only [e1, cond_true, Option.bind_some]
    exact ⟨false, rfl, by simp; omega⟩
  have e1 : decide (((l.length : Nat) : Int) < 1) = false := decide_eq_false (by omega)
  by_cases h2 : 16 < l.length
  · have e2 : decide ((16 : Int) < ((l.length : Nat) : Int)) = true := decide_eq_true (by omega)
    simp only [e1, e2, cond_true, cond_false, Option.bind_some]
    exact ⟨false, rfl, by simp; omega⟩
  have e2 : decide ((16 : Int) < ((l.length : Nat) : Int)) = false := decide_eq_false (by omega)
  have hw : IntKind.wrap IntKind.i64 ((l.length : Int) - 1) = ((l.length - 1 : Nat) : Int) := by rw [wrap_id (by omega) (by omega)]; omega
  have g0 : l[Int.toNat 0]? = some (l[0]'(by omega)) := List.getElem?_eq_getElem (by omega)
  have gl : l[l.length - 1]? = some (l[l.length - 1]'(by omega)) := List.getElem?_eq_getElem (by omega)
  have e3 : decide ((0 : Int) ≤ ((l.length - 1 : Nat) : Int)) = true := decide_eq_true (by omega)
  have e4 : decide (0 ≤ l.length - 1) = true := decide_eq_true (by omega)
  have e5 : decide (l.length - 1 ≤ l.length) = true := decide_eq_true (by omega)
  simp only [e1, e2, cond_false, g0, Option.bind_some, List.length_map, hw, e3, e4, e5, cond_true, Int.toNat_natCast, gl]
  cases h3 : (l[0]'(by omega)).From == [] with
  | false =>
    simp only [Bool.not_false, cond_true, Option.bind_some]
    refine ⟨false, rfl, ?_⟩
    have : (l[0]'(by omega)).From ≠ [] := by simpa using h3
    simp only [Bool.false_eq_true, false_iff]
    exact fun H => this (H.2.2.1 (by omega))
  | true =>
    simp only [Bool.not_true, cond_false, Option.bind_some]
    have h3' : (l[0]'(by omega)).From = [] := by simpa using h3
    cases h4 : (l[l.length - 1]'(by omega)).To == [] with
    | false =>
      simp only [Bool.not_false, cond_true]
      refine ⟨false, rfl, ?_⟩
      have : (l[l.length - 1]'(by omega)).To ≠ [] := by simpa using h4
      simp only [Bool.false_eq_true, false_iff]
      exact fun H => this (H.2.2.2.1 (by omega))
    | true =>
      have h4' : (l[l.length - 1]'(by omega)).To = [] := by simpa using h4
      simp only [Bool.not_true, cond_false]
      have hl := allLoop (fun n i => atlas_covers_l0 F l n i) (l.length - 1) (upAt l) false
        (fun n i hi => by
          simp only [atlas_covers_l0, cut, List.length_take, List.length_map, hw, Int.toNat_natCast]
          have f1 : decide ((i : Int) < ((min (l.length - 1) l.length : Nat) : Int)) = true := decide_eq_true (by omega)
          have f2 : decide ((0 : Int) ≤ (i : Int)) = true := decide_eq_true (by omega)
          have f3 : (List.take (l.length - 1) l)[i]? = some (l[i]'(by omega)) := by rw [List.getElem?_take]; simp [hi, show i < l.length by omega]
          have f4 : IntKind.wrap IntKind.i64 ((i : Int) + 1) = ((i + 1 : Nat) : Int) := by rw [wrap_id (by omega) (by omega)]; omega
          have f5 : decide ((0 : Int) ≤ ((i + 1 : Nat) : Int)) = true := decide_eq_true (by omega)
          have f6 : l[i + 1]? = some (l[i + 1]'(by omega)) := List.getElem?_eq_getElem (by omega)
          have f7 : l[i]? = some (l[i]'(by omega)) := List.getElem?_eq_getElem (by omega)
          have f8 : upAt l i = (up (l[i]'(by omega)) && (l[i + 1]'(by omega)).From == (l[i]'(by omega)).To) := by simp only [upAt, f6, f7]
          simp only [f1, f2, f3, f4, f5, f6, f8, cond_true, Option.bind_some, Int.toNat_natCast, jobs_Named_ok (hstr _ (List.getElem_mem _)) hF, up]
          cases nm (l[i]'(by omega)).To <;> cases (Op.bytesLess (l[i]'(by omega)).To (l[i]'(by omega)).From || (l[i]'(by omega)).To == (l[i]'(by omega)).From) <;>
            cases ((l[i + 1]'(by omega)).From == (l[i]'(by omega)).To) <;> simp)
        (fun n i hi => by
          simp only [atlas_covers_l0, cut, List.length_take, List.length_map, hw, Int.toNat_natCast]
          have f1 : decide ((i : Int) < ((min (l.length - 1) l.length : Nat) : Int)) = false := decide_eq_false (by omega)
          simp only [f1, cond_false]) F 0 (by omega)
      simp only [Int.natCast_zero] at hl
      rcases hl with ⟨ha, hl⟩ | ⟨⟨j, _, hj, ha⟩, hl⟩
      · rw [hl]
        refine ⟨true, rfl, ?_⟩
        simp only [true_iff]
        exact ⟨by omega, by omega, fun _ => h3', fun _ => h4', fun i hi => ha i (Nat.zero_le _) hi⟩
      · rw [hl]
        refine ⟨false, rfl, ?_⟩
        simp only [Bool.false_eq_true, false_iff]
        intro H
        rw [H.2.2.2.2 j hj] at ha; cases ha

/-- what both ask of a span, but for its ends -/
def own (a : api_Atlas) (i : Nat) : Bool := match a.Spans[i]? with
  | some s => !decide (s.Shard < 1) && !decide (a.Last < s.Shard) && (plc a.Spans s.Shard == (i : Int)) && !decide (s.Epoch < 1) && !decide (1099511627776 < s.Epoch) && !decide (s.Group < 1) && !decide (a.Groups < s.Group)
  | none => true

/-- a map without its plan -/
def SpansOk (a : api_Atlas) : Prop :=
  ¬ a.Groups < 1 ∧ ¬ 8 < a.Groups ∧ ¬ 1099511627776 < a.Last ∧ (1 ≤ a.Spans.length ∧ a.Spans.length ≤ 16 ∧ (∀ h : 0 < a.Spans.length, a.Spans[0].From = []) ∧
    (∀ h : 0 < a.Spans.length, (a.Spans[a.Spans.length - 1]'(by omega)).To = []) ∧ ∀ i, i < a.Spans.length - 1 → upAt a.Spans i = true) ∧ ∀ i, i < a.Spans.length → own a i = true

theorem check_ok {F : Nat} {a : api_Atlas} (ha : api_Atlas.ok 1048576 a) (hF : 1048577 ≤ F) :
    (SpansOk a ∧ atlas_Check F a = atlas_planned F a) ∨ (¬ SpansOk a ∧ atlas_Check F a = some false) := by
  have hs : a.Spans.length ≤ 1048576 := ha.2.2.1.1
  have hstr : ∀ s, s ∈ a.Spans → s.To.length ≤ 1048576 := fun s h => (ha.2.2.1.2 s h).2.1
  unfold atlas_Check
  by_cases h1 : a.Groups < 1
  · right
    refine ⟨fun H => H.1 h1, ?_⟩
    simp [h1]
  by_cases h2 : 8 < a.Groups
  · right
    refine ⟨fun H => H.2.1 h2, ?_⟩
    simp [h1, h2]
  by_cases h3 : 1099511627776 < a.Last
  · right
    refine ⟨fun H => H.2.2.1 h3, ?_⟩
    simp [h1, h2, h3]
  obtain ⟨b, hc, hb⟩ := covers_ok (F := F) hs hstr hF
  have e1 : decide (a.Groups < 1) = false := decide_eq_false h1
  have e2 : decide ((8 : Int) < a.Groups) = false := decide_eq_false h2
  have e3 : decide ((1099511627776 : Int) < a.Last) = false := decide_eq_false h3
  simp only [e1, e2, e3, cond_false, hc, Option.bind_some]
  cases b with
  | false =>
    right
    refine ⟨fun H => ?_, rfl⟩
    have := hb.2 H.2.2.2.1; cases this
  | true =>
    simp only [Bool.not_true, cond_false]
    have hl := allLoop (fun n i => atlas_Check_l0 F a n i) a.Spans.length (own a) false
      (fun n i hi => by
        simp only [atlas_Check_l0]
        have f1 : decide ((i : Int) < ((a.Spans.length : Nat) : Int)) = true := decide_eq_true (by omega)
        have f2 : decide ((0 : Int) ≤ (i : Int)) = true := decide_eq_true (by omega)
        have f4 : IntKind.wrap IntKind.i64 ((i : Int) + 1) = (i : Int) + 1 := by rw [wrap_id (by omega) (by omega)]
        simp only [f1, f2, f4, own,  List.getElem?_eq_getElem hi, cond_true, Option.bind_some, Int.toNat_natCast, atlas_place_ok hs hF, bne]
        generalize decide (a.Spans[i].Shard < 1) = b1
        generalize decide (a.Last < a.Spans[i].Shard) = b2
        generalize (plc a.Spans a.Spans[i].Shard == (i : Int)) = b3
        generalize decide (a.Spans[i].Epoch < 1) = b4
        generalize decide (1099511627776 < a.Spans[i].Epoch) = b5
        generalize decide (a.Spans[i].Group < 1) = b6
        generalize decide (a.Groups < a.Spans[i].Group) = b7
        cases b1 <;> cases b2 <;> cases b3 <;> cases b4 <;> cases b5 <;> cases b6 <;> cases b7 <;> rfl)
      (fun n i hi => by
        simp only [atlas_Check_l0]
        have f1 : decide ((i : Int) < ((a.Spans.length : Nat) : Int)) = false := decide_eq_false (by omega)
        simp only [f1, cond_false]) F 0 (by omega)
    simp only [Int.natCast_zero] at hl
    rcases hl with ⟨hg, hl⟩ | ⟨⟨j, _, hj, hg⟩, hl⟩
    · left
      rw [hl]
      refine ⟨⟨h1, h2, h3, hb.1 rfl, fun i hi => hg i (Nat.zero_le _) hi⟩, ?_⟩
      simp only [Option.bind_some, Sum.elim_inr]
      cases atlas_planned F a <;> rfl
    · right
      rw [hl]
      refine ⟨fun H => ?_, rfl⟩
      rw [H.2.2.2.2 j hj] at hg; cases hg

def prevTo (a : api_Atlas) : Nat → List UInt8
  | 0 => []
  | j + 1 => match a.Spans[j]? with | some t => t.To | none => []
/-- what the reference asks of a span -/
def refAt (a : api_Atlas) (i : Nat) : Bool := match a.Spans[i]? with
  | some s => (s.From == prevTo a i) && own a i && (!decide (i < a.Spans.length - 1) || up s) && (!decide (i = a.Spans.length - 1) || s.To == [])
  | none => true

theorem plc_le {l : List api_Span} {i : Nat} (h : i < l.length) : 0 ≤ plc l l[i].Shard ∧ plc l l[i].Shard ≤ i := by
  rcases plc_spec l l[i].Shard with ⟨j, hj, h1, h2, h3⟩ | ⟨h1, h2⟩
  · rw [h3]
    refine ⟨by omega, ?_⟩
    rcases Nat.lt_or_ge i j with q | q
    · exact absurd rfl (h2 i q)
    · omega
  · exact absurd rfl (h1 i h)

theorem refAt_all {a : api_Atlas} (h1 : 1 ≤ a.Spans.length) : (∀ i, i < a.Spans.length → refAt a i = true) ↔
    ((∀ h : 0 < a.Spans.length, a.Spans[0].From = []) ∧ (∀ h : 0 < a.Spans.length, (a.Spans[a.Spans.length - 1]'(by omega)).To = []) ∧ (∀ i, i < a.Spans.length - 1 → upAt a.Spans i = true) ∧
      ∀ i, i < a.Spans.length → own a i = true) := by
  have key : ∀ i (h : i < a.Spans.length), refAt a i = true ↔ (a.Spans[i].From = prevTo a i ∧ own a i = true ∧ (i < a.Spans.length - 1 → up a.Spans[i] = true) ∧ (i = a.Spans.length - 1 → a.Spans[i].To = [])) := by
    intro i h
    unfold refAt
    rw [List.getElem?_eq_getElem h]
    simp only [Bool.and_eq_true, beq_iff_eq, Bool.or_eq_true, Bool.not_eq_eq_eq_not, Bool.not_true, decide_eq_false_iff_not]
    constructor
    · rintro ⟨⟨⟨h1, h2⟩, h3⟩, h4⟩
      exact ⟨h1, h2, fun q => h3.resolve_left (fun n => n q), fun q => h4.resolve_left (fun n => n q)⟩
    · rintro ⟨h1, h2, h3, h4⟩
      refine ⟨⟨⟨h1, h2⟩, ?_⟩, ?_⟩
      · by_cases q : i < a.Spans.length - 1
        · exact .inr (h3 q)
        · exact .inl q
      · by_cases q : i = a.Spans.length - 1
        · exact .inr (h4 q)
        · exact .inl q
  have upk : ∀ i (h : i + 1 < a.Spans.length), upAt a.Spans i = true ↔ (up a.Spans[i] = true ∧ a.Spans[i + 1].From = a.Spans[i].To) := by
    intro i h
    simp only [upAt, List.getElem?_eq_getElem h, List.getElem?_eq_getElem (show i < a.Spans.length by omega), Bool.and_eq_true, beq_iff_eq]
  constructor
  · intro H
    refine ⟨fun h => ((key 0 h).1 (H 0 h)).1, fun h => ((key _ (by omega)).1 (H _ (by omega))).2.2.2 rfl, fun i hi => ?_, fun i hi => ((key i hi).1 (H i hi)).2.1⟩
    refine (upk i (by omega)).2 ⟨((key i (by omega)).1 (H i (by omega))).2.2.1 hi, ?_⟩
    have := ((key (i + 1) (by omega)).1 (H (i + 1) (by omega))).1
    rw [this]
    simp only [prevTo, List.getElem?_eq_getElem (show i < a.Spans.length by omega)]
  · rintro ⟨H1, H2, H3, H4⟩ i hi
    refine (key i hi).2 ⟨?_, H4 i hi, fun q => ((upk i (by omega)).1 (H3 i q)).1, fun q => by subst q; exact H2 (by omega)⟩
    cases i with
    | zero => exact H1 hi
    | succ j =>
      have := ((upk j hi).1 (H3 j (by omega))).2
      rw [this]
      simp only [prevTo, List.getElem?_eq_getElem (show j < a.Spans.length by omega)]

theorem spans_ok {F : Nat} {a : api_Atlas} (ha : api_Atlas.ok 1048576 a) (hF : 1048577 ≤ F) :
    (SpansOk a ∧ matinsref19_spans F a = some true) ∨ (¬ SpansOk a ∧ matinsref19_spans F a = some false) := by
  have hs : a.Spans.length ≤ 1048576 := ha.2.2.1.1
  have hstr : ∀ s, s ∈ a.Spans → s.To.length ≤ 1048576 := fun s h => (ha.2.2.1.2 s h).2.1
  unfold matinsref19_spans
  by_cases h1 : a.Groups < 1
  · right
    refine ⟨fun H => H.1 h1, ?_⟩
    simp [h1]
  by_cases h2 : 8 < a.Groups
  · right
    refine ⟨fun H => H.2.1 h2, ?_⟩
    simp [h1, h2]
  have e1 : decide (a.Groups < 1) = false := decide_eq_false h1
  have e2 : decide ((8 : Int) < a.Groups) = false := decide_eq_false h2
  by_cases h4 : a.Spans.length = 0
  · right
    have e4 : (((a.Spans.length : Nat) : Int) == 0) = true := by rw [beq_iff_eq]; omega
    refine ⟨fun H => ?_, by simp only [e1, e2, e4, cond_true, cond_false, Option.bind_some]⟩
    have := H.2.2.2.1.1; omega
  have e4 : (((a.Spans.length : Nat) : Int) == 0) = false := by rw [beq_eq_false_iff_ne]; omega
  by_cases h5 : 16 < a.Spans.length
  · right
    have e5 : decide ((16 : Int) < ((a.Spans.length : Nat) : Int)) = true := decide_eq_true (by omega)
    refine ⟨fun H => ?_, by simp only [e1, e2, e4, e5, cond_true, cond_false, Option.bind_some]⟩
    have := H.2.2.2.1.2.1; omega
  have e5 : decide ((16 : Int) < ((a.Spans.length : Nat) : Int)) = false := decide_eq_false (by omega)
  by_cases h3 : 1099511627776 < a.Last
  · right
    have e3 : decide ((1099511627776 : Int) < a.Last) = true := decide_eq_true h3
    refine ⟨fun H => H.2.2.1 h3, ?_⟩
    simp only [e1, e2, e3, e4, e5, cond_true, cond_false, Option.bind_some]
  have e3 : decide ((1099511627776 : Int) < a.Last) = false := decide_eq_false h3
  simp only [e1, e2, e3, e4, e5, cond_false, Option.bind_some]
  have hw : IntKind.wrap IntKind.i64 ((a.Spans.length : Int) - 1) = ((a.Spans.length - 1 : Nat) : Int) := by rw [wrap_id (by omega) (by omega)]; omega
  have hl := allLoop (fun n i => matinsref19_spans_l0 F a n (prevTo a i.toNat) i) a.Spans.length (refAt a) false
    (fun n i hi => by
      simp only [Int.toNat_natCast]
      simp only [matinsref19_spans_l0]
      have f1 : decide ((i : Int) < ((a.Spans.length : Nat) : Int)) = true := decide_eq_true (by omega)
      have f2 : decide ((0 : Int) ≤ (i : Int)) = true := decide_eq_true (by omega)
      have f4 : IntKind.wrap IntKind.i64 ((i : Int) + 1) = (i : Int) + 1 := by rw [wrap_id (by omega) (by omega)]
      have f5 : ((i : Int) + 1).toNat = i + 1 := by omega
      have f6 : prevTo a (i + 1) = a.Spans[i].To := by simp only [prevTo, List.getElem?_eq_getElem hi]
      have f7 : decide (plc a.Spans a.Spans[i].Shard < (i : Int)) = !(plc a.Spans a.Spans[i].Shard == (i : Int)) := by
        have := (plc_le hi).2
        rw [Bool.eq_iff_iff]; simp; omega
      have f9 : decide ((i : Int) < ((a.Spans.length - 1 : Nat) : Int)) = decide (i < a.Spans.length - 1) := decide_eq_decide.2 (by omega)
      have f10 : ((i : Int) == ((a.Spans.length - 1 : Nat) : Int)) = decide (i = a.Spans.length - 1) := by rw [Bool.eq_iff_iff]; simp; omega
      simp only [f1, f2, f4, f5, f6, f7, f9, f10, hw, refAt, own, up, List.getElem?_eq_getElem hi, cond_true, Option.bind_some, Int.toNat_natCast, ref19_Place_ok hs hF,
        ref09_Named_ok (hstr _ (List.getElem_mem hi)) hF]
      generalize (a.Spans[i].From == prevTo a i) = b0
      generalize decide (a.Spans[i].Shard < 1) = b1
      generalize decide (a.Last < a.Spans[i].Shard) = b2
      generalize (plc a.Spans a.Spans[i].Shard == (i : Int)) = b3
      generalize decide (a.Spans[i].Epoch < 1) = b4
      generalize decide (1099511627776 < a.Spans[i].Epoch) = b5
      generalize decide (a.Spans[i].Group < 1) = b6
      generalize decide (a.Groups < a.Spans[i].Group) = b7
      generalize nm a.Spans[i].To = b8
      generalize (Op.bytesLess a.Spans[i].To a.Spans[i].From || a.Spans[i].To == a.Spans[i].From) = b9
      generalize (a.Spans[i].To == []) = b10
      cases b0 <;> try rfl
      cases b1 <;> try rfl
      cases b2 <;> try rfl
      cases b3 <;> try rfl
      cases b4 <;> try rfl
      cases b5 <;> try rfl
      cases b6 <;> try rfl
      cases b7 <;> try rfl
      by_cases q : i < a.Spans.length - 1
      · have q1 : decide (i < a.Spans.length - 1) = true := decide_eq_true q
        have q2 : decide (i = a.Spans.length - 1) = false := decide_eq_false (by omega)
        rw [q1, q2]
        cases b8 <;> cases b9 <;> cases b10 <;> rfl
      · have q1 : decide (i < a.Spans.length - 1) = false := decide_eq_false q
        have q2 : decide (i = a.Spans.length - 1) = true := decide_eq_true (by omega)
        rw [q1, q2]
        cases b8 <;> cases b9 <;> cases b10 <;> rfl)
    (fun n i hi => by
      simp only [Int.toNat_natCast]
      simp only [matinsref19_spans_l0]
      have f1 : decide ((i : Int) < ((a.Spans.length : Nat) : Int)) = false := decide_eq_false (by omega)
      simp only [f1, cond_false]) F 0 (by omega)
  simp only [Int.natCast_zero, Int.toNat_zero, prevTo] at hl
  have hn1 : 1 ≤ a.Spans.length := by omega
  have hn2 : a.Spans.length ≤ 16 := by omega
  have hall := refAt_all (a := a) hn1
  rcases hl with ⟨hg, hl⟩ | ⟨⟨j, _, hj, hg⟩, hl⟩
  · left
    rw [hl]
    obtain ⟨k1, k2, k3, k4⟩ := hall.1 (fun i hi => hg i (Nat.zero_le _) hi)
    exact ⟨⟨h1, h2, h3, ⟨hn1, hn2, k1, k2, k3⟩, k4⟩, rfl⟩
  · right
    rw [hl]
    refine ⟨fun H => ?_, rfl⟩
    have := hall.2 ⟨H.2.2.2.1.2.2.1, H.2.2.2.1.2.2.2.1, H.2.2.2.1.2.2.2.2, H.2.2.2.2⟩ j hj
    rw [this] at hg; cases hg
end Go.T
