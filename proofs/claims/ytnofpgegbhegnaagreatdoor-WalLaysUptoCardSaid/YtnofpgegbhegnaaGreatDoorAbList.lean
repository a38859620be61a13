/-
  AbList: rows as a flat list of cells; what a list that is appended, copied or turned yields; new rows; rows that grow where they are.
-/
import Derived.Test.YtnofpgegbhegnaaGreatDoorAbMem2
import Derived.Test.YtnofpgegbhegnaaGreatDoorAbGoes
import Derived.Deep.AppendSrc
namespace Go.Ab

def RepP (p : Bool) (S : Nat → Prop) (w : World) (ι : Imap) (cs : List AV) (vs : List Value) : Prop := if p = true then IRepL S w cs vs else RepL S w ι cs vs

section
variable {p : Bool} {S : Nat → Prop} {w : World} {ι : Imap} {P : Program}

theorem IRepL.append {as bs : List AV} {us vs : List Value} (ha : IRepL S w as us) (hb : IRepL S w bs vs) : IRepL S w (as ++ bs) (us ++ vs) := by
  refine ⟨by simp [ha.1, hb.1], fun j x v hx hv => ?_⟩
  by_cases hj : j < as.length
  · rw [List.getElem?_append_left hj] at hx
    rw [List.getElem?_append_left (by have := ha.1; omega)] at hv
    exact ha.2 j x v hx hv
  · rw [List.getElem?_append_right (by omega)] at hx
    rw [List.getElem?_append_right (by have := ha.1; omega)] at hv
    refine hb.2 (j - as.length) x v hx ?_
    rw [ha.1]; exact hv
theorem IRepL.take {as : List AV} {us : List Value} (n : Nat) (h : IRepL S w as us) : IRepL S w (as.take n) (us.take n) := by
  refine ⟨by simp [h.1], fun j x v hx hv => ?_⟩
  rw [List.getElem?_take] at hx hv
  split at hx
  · rename_i hlt
    simp only [hlt, if_true] at hv
    exact h.2 j x v hx hv
  · simp at hx
theorem IRepL.drop {as : List AV} {us : List Value} (n : Nat) (h : IRepL S w as us) : IRepL S w (as.drop n) (us.drop n) := by
  refine ⟨by simp [h.1], fun j x v hx hv => ?_⟩
  rw [List.getElem?_drop] at hx hv
  exact h.2 _ x v hx hv

theorem RepP.len {cs : List AV} {vs : List Value} (h : RepP p S w ι cs vs) : cs.length = vs.length := by
  cases p
  · simp only [RepP] at h; exact (show RepL S w ι cs vs from by simpa using h).1
  · simp only [RepP] at h; exact (show IRepL S w cs vs from by simpa using h).1
theorem RepP.rep {cs : List AV} {vs : List Value} (h : RepP p S w ι cs vs) : RepL S w ι cs vs := by
  cases p
  · simpa [RepP] using h
  · exact (show IRepL S w cs vs from by simpa [RepP] using h).rep
theorem RepP.weak {q : Bool} {cs : List AV} {vs : List Value} (h : RepP p S w ι cs vs) (hq : q = true → p = true) : RepP q S w ι cs vs := by
  cases q
  · simpa [RepP] using h.rep
  · have := hq rfl; subst this; exact h
theorem RepP.nil : RepP p S w ι [] [] := by cases p <;> simp [RepP, RepL, IRepL]
theorem RepP.append {as bs : List AV} {us vs : List Value} (ha : RepP p S w ι as us) (hb : RepP p S w ι bs vs) : RepP p S w ι (as ++ bs) (us ++ vs) := by
  cases p
  · simp only [RepP, Bool.false_eq_true, if_false] at *; exact RepL.append ha hb
  · simp only [RepP, if_true] at *; exact IRepL.append ha hb
theorem RepP.take {as : List AV} {us : List Value} (n : Nat) (h : RepP p S w ι as us) : RepP p S w ι (as.take n) (us.take n) := by
  cases p
  · simp only [RepP, Bool.false_eq_true, if_false] at *; exact RepL.take n h
  · simp only [RepP, if_true] at *; exact IRepL.take n h
theorem RepP.drop {as : List AV} {us : List Value} (n : Nat) (h : RepP p S w ι as us) : RepP p S w ι (as.drop n) (us.drop n) := by
  cases p
  · simp only [RepP, Bool.false_eq_true, if_false] at *; exact RepL.drop n h
  · simp only [RepP, if_true] at *; exact IRepL.drop n h
theorem RepP.mono {S' : Nat → Prop} {w' : World} {ι' : Imap} (hs : ∀ b, S b → S' b) (hw : SameOn S w w') (hι : ι.le ι') {cs : List AV} {vs : List Value} (h : RepP p S w ι cs vs) : RepP p S' w' ι' cs vs := by
  cases p
  · simp only [RepP, Bool.false_eq_true, if_false] at *; exact RepL.mono hs hw hι h
  · simp only [RepP, if_true] at *; exact IRepL.mono hs hw h

/-- rows that lie cell behind cell from a place on -/
structure Flat (p : Bool) (S : Nat → Prop) (w : World) (ι : Imap) (esz : Nat) (rs : List (List AV)) (us : List Value) : Prop where
  rl : ∀ r, r ∈ rs → r.length = esz
  len : us.length = rs.length * esz
  one : ∀ v, v ∈ us → v.oneCell' = true
  rep : RepP p S w ι rs.flatten us

theorem flat_of {esz : Nat} {cell : Nat → Option Value} : ∀ (rs : List (List AV)) (vals : Nat → List Value) (off : Nat), (∀ i, i < rs.length → (vals i).length = esz) →
    (∀ (i j : Nat) v, i < rs.length → (vals i)[j]? = some v → cell (off + (i * esz + j)) = some v ∧ v.oneCell' = true) → RowsRep p S w ι rs vals →
    ∃ us, Flat p S w ι esz rs us ∧ ∀ (j : Nat) v, us[j]? = some v → cell (off + j) = some v := by
  intro rs
  induction rs with
  | nil => intro vals off _ _ _; exact ⟨[], ⟨by simp, by simp, by simp, RepP.nil⟩, by simp⟩
  | cons r rs ih =>
    intro vals off hl hc hr
    obtain ⟨us, hF, hcell⟩ := ih (fun i => vals (i + 1)) (off + esz) (fun i hi => hl (i + 1) (by simp; omega)) (fun i j v hi hv => by
      have := hc (i + 1) j v (by simp; omega) hv
      rw [Nat.add_mul] at this
      rw [show off + esz + (i * esz + j) = off + (i * esz + 1 * esz + j) by omega]; exact this) (fun i x hx => hr (i + 1) x (by simpa using hx))
    have h0 := hl 0 (by simp)
    have hr0 : RepP p S w ι r (vals 0) := hr 0 r rfl
    refine ⟨vals 0 ++ us, ⟨?_, ?_, ?_, ?_⟩, ?_⟩
    · intro x hx
      rcases List.mem_cons.1 hx with rfl | hx
      · rw [hr0.len]; exact h0
      · exact hF.rl x hx
    · rw [List.length_append, h0, hF.len, List.length_cons, Nat.add_mul]; omega
    · intro v hv
      rcases List.mem_append.1 hv with hv | hv
      · obtain ⟨j, hj⟩ := List.getElem?_of_mem hv
        exact (hc 0 j v (by simp) hj).2
      · exact hF.one v hv
    · rw [List.flatten_cons]; exact hr0.append hF.rep
    · intro j v hv
      by_cases hj : j < (vals 0).length
      · rw [List.getElem?_append_left hj] at hv
        have := (hc 0 j v (by simp) hv).1
        simpa using this
      · rw [List.getElem?_append_right (by omega)] at hv
        have := hcell _ v hv
        rw [show off + esz + (j - (vals 0).length) = off + j by omega] at this
        exact this

theorem flatten_row {esz : Nat} : ∀ (rs : List (List AV)) (i : Nat) (r : List AV), (∀ r, r ∈ rs → r.length = esz) → rs[i]? = some r → (rs.flatten.drop (i * esz)).take esz = r := by
  intro rs
  induction rs with
  | nil => intro i r _ h; simp at h
  | cons x rs ih =>
    intro i r hl h
    have hx := hl x (by simp)
    cases i with
    | zero =>
      simp only [List.getElem?_cons_zero, Option.some.injEq] at h
      subst h
      simp [List.flatten_cons, ← hx]
    | succ i =>
      have := ih i r (fun y hy => hl y (by simp [hy])) (by simpa using h)
      rw [List.flatten_cons, Nat.add_mul, Nat.one_mul, Nat.add_comm, ← hx, List.drop_append, hx]
      rw [List.drop_of_length_le (by omega), List.nil_append, Nat.add_sub_cancel_left]
      exact this

theorem Flat.rows {esz : Nat} {rs : List (List AV)} {us : List Value} (h : Flat p S w ι esz rs us) : RowsRep p S w ι rs (fun i => (us.drop (i * esz)).take esz) := by
  intro i r hr
  have := (h.rep.drop (i * esz)).take esz
  rw [flatten_row rs i r h.rl hr] at this
  exact this

theorem Flat.at {rs : List (List AV)} {us : List Value} {l : Loc} (h : Flat p S w ι l.esz rs us) (hcell : ∀ (j : Nat) v, us[j]? = some v → cellOf w l.blk (l.base + j) = some v)
    (hfit : l.base + rs.length * l.esz ≤ l.size) : RowsAt w l rs.length (fun i => (us.drop (i * l.esz)).take l.esz) := by
  refine ⟨hfit, fun i hi => ?_, fun i j v hi hv => ?_⟩
  · have : (i + 1) * l.esz ≤ rs.length * l.esz := Nat.mul_le_mul_right _ hi
    rw [Nat.add_mul] at this
    simp [h.len]; omega
  · simp only [List.getElem?_take, List.getElem?_drop] at hv
    split at hv
    · exact ⟨hcell _ v hv, h.one v (List.mem_of_getElem? hv)⟩
    · cases hv

theorem Flat.append {esz : Nat} {rs qs : List (List AV)} {us vs : List Value} {q : Bool} (h : Flat p S w ι esz rs us) (h' : Flat q S w ι esz qs vs) : Flat (p && q) S w ι esz (rs ++ qs) (us ++ vs) := by
  refine ⟨fun r hr => ?_, by rw [List.length_append, List.length_append, h.len, h'.len, Nat.add_mul], fun v hv => ?_, ?_⟩
  · rcases List.mem_append.1 hr with hr | hr
    · exact h.rl r hr
    · exact h'.rl r hr
  · rcases List.mem_append.1 hv with hv | hv
    · exact h.one v hv
    · exact h'.one v hv
  · rw [List.flatten_append]
    exact (h.rep.weak (fun e => by simp at e; exact e.1)).append (h'.rep.weak (fun e => by simp at e; exact e.2))
theorem Flat.mono {S' : Nat → Prop} {w' : World} {ι' : Imap} (hs : ∀ b, S b → S' b) (hw : SameOn S w w') (hι : ι.le ι') {esz : Nat} {rs : List (List AV)} {us : List Value} (h : Flat p S w ι esz rs us) : Flat p S' w' ι' esz rs us :=
  ⟨h.rl, h.len, h.one, h.rep.mono hs hw hι⟩
theorem Flat.nil {esz : Nat} : Flat p S w ι esz [] [] := ⟨by simp, by simp, by simp, RepP.nil⟩

theorem firstCells_here {esz n len cap : Nat} {blk off : Nat} {us : List Value} (hl : us.length = n * esz) (h : ∀ (j : Nat) v, us[j]? = some v → cellOf w blk (off + j) = some v)
    {w' : World} (hw : w'.heap = w.heap) : (Builtin.firstCells esz n (.slice (some ⟨blk, off, none⟩) len cap)).run P w' = .ok us.toArray w' := by
  refine run_firstCells_some w' esz n _ len cap us hl (fun j v hv => ?_)
  have := h j v hv
  rw [add_plain]
  simp only [cellOf, World.cell?, hw] at this ⊢
  exact this
theorem firstCells_zero {esz n : Nat} {v : Value} (hn : n * esz = 0) (hs : (∃ a len cap, v = .slice a len cap) ∨ (n = 0 ∧ ∃ s, v = .string s)) (w' : World) :
    (Builtin.firstCells esz n v).run P w' = .ok #[] w' := by
  rcases hs with ⟨a, len, cap, rfl⟩ | ⟨rfl, s, rfl⟩
  · cases a with
    | none => simp [Builtin.firstCells]
    | some a => simp [Builtin.firstCells, hn, loadCells, loadCellsFrom]
  · simp [Builtin.firstCells]

/-- what a list yields -/
structure Src2 (P : Program) (w : World) (esz : Nat) (v : Value) (len n : Nat) (us : List Value) : Prop where
  len : ∀ w' : World, (Builtin.lenOf v).run P w' = .ok len w'
  cells : ∀ w' : World, w'.heap = w.heap → (Builtin.firstCells esz n v).run P w' = .ok us.toArray w'

theorem rows_part {rs : List (List AV)} {vals : Nat → List Value} (h : RowsRep p S w ι rs vals) (off n : Nat) : RowsRep p S w ι ((rs.drop off).take n) (fun i => vals (off + i)) := by
  intro i r hr
  rw [List.getElem?_take] at hr
  split at hr
  · rw [List.getElem?_drop] at hr; exact h _ _ hr
  · cases hr

theorem obj_rowsP {o : Nat} {y : AO} {rs : List (List AV)} {p : Bool} (h : ObjOk S w ι o y) (hy : y = .rows p rs ∨ (p = true ∧ y = .froz rs)) :
    (ι o = some none ∧ rs = []) ∨ ∃ l vals, ι o = some (some l) ∧ rs.length = l.cnt ∧ RowsAt w l rs.length vals ∧ RowsRep p S w ι rs vals := by
  rcases hy with rfl | ⟨rfl, rfl⟩
  · rcases h with h | ⟨l, vals, h1, h2, h3, h4, h5⟩
    · exact .inl h
    · exact .inr ⟨l, vals, h1, h2, h4, h5⟩
  · rcases h with h | ⟨l, vals, h1, h2, h3, h4, h5⟩
    · exact .inl h
    · exact .inr ⟨l, vals, h1, h2, h4, h5⟩

theorem flat_part {rs : List (List AV)} {vals : Nat → List Value} {l : Loc} (hat : RowsAt w l rs.length vals) (hr : RowsRep p S w ι rs vals) (off n : Nat) (h : off + n ≤ rs.length) :
    ∃ us, Flat p S w ι l.esz ((rs.drop off).take n) us ∧ ∀ (j : Nat) v, us[j]? = some v → cellOf w l.blk (l.base + off * l.esz + j) = some v := by
  have hlen : ((rs.drop off).take n).length = n := by simp; omega
  refine flat_of (cell := cellOf w l.blk) _ (fun i => vals (off + i)) (l.base + off * l.esz) (fun i hi => hat.2.1 _ (by omega)) (fun i j v hi hv => ?_) (rows_part hr off n)
  have := hat.2.2 (off + i) j v (by omega) hv
  rw [Nat.add_mul] at this
  rw [show l.base + off * l.esz + (i * l.esz + j) = l.base + (off * l.esz + i * l.esz + j) by omega]
  exact this

theorem src_ok {ol : Nat → Option AO} (hob : ∀ o x, ol o = some x → ObjOk S w ι o x) {x : AV} {v : Value} (hx : Rep S w ι x v) {rs : List (List AV)} {ro : List Nat} {esz : Nat}
    (hs : listA ol x = some (p, rs, ro)) (hl : ∀ r, r ∈ rs → r.length = esz) (n : Nat) (hn : n ≤ rs.length) :
    ∃ us, Flat p S w ι esz (rs.take n) us ∧ Src2 P w esz v rs.length n us := by
  have obj : ∀ (o off len : Nat) (y : AO) (rs0 : List (List AV)), ol o = some y → (y = .rows p rs0 ∨ (p = true ∧ y = .froz rs0)) → rs = (rs0.drop off).take len → 
      ((∃ l a cap, ι o = some (some l) ∧ v = .slice (some a) len cap ∧ len ≤ cap ∧ off + len ≤ l.cnt ∧ (cap ≠ 0 → a = ⟨l.blk, l.base + off * l.esz, none⟩)) ∨ (ι o = some none ∧ len = 0 ∧ ∃ a, v = .slice a 0 0)) →
      ∃ us, Flat p S w ι esz (rs.take n) us ∧ Src2 P w esz v rs.length n us := by
    intro o off len y rs0 hy hyr hrs hv
    rcases obj_rowsP (hob o y hy) hyr with ⟨q, h0⟩ | ⟨l, vals, q, hcnt, hat, hrep⟩
    · rcases hv with ⟨l, a, cap, q', _⟩ | ⟨q', hlen0, a, rfl⟩
      · rw [q] at q'; cases q'
      · subst h0
        subst hlen0
        simp only [List.drop_nil, List.take_nil] at hrs
        subst hrs
        simp only [List.length_nil] at hn
        have : n = 0 := by omega
        subst this
        exact ⟨[], by simpa using Flat.nil, ⟨fun _ => rfl, fun w' _ => firstCells_zero (by simp) (.inl ⟨_, _, _, rfl⟩) w'⟩⟩
    · rcases hv with ⟨l', a, cap, q', rfl, h1, h2, ha⟩ | ⟨q', _⟩
      · rw [q] at q'; injection q' with q'; injection q' with q'; subst q'
        have hlen : rs.length = len := by rw [hrs]; simp; omega
        by_cases hn0 : n = 0
        · subst hn0
          refine ⟨[], by simpa using Flat.nil, ⟨fun _ => by rw [hlen]; rfl, fun w' _ => firstCells_zero (by simp) (.inl ⟨_, _, _, rfl⟩) w'⟩⟩
        · have hoff : off + n ≤ rs0.length := by omega
          obtain ⟨us, hF, hc⟩ := flat_part hat hrep off n hoff
          have e : rs.take n = (rs0.drop off).take n := by rw [hrs, List.take_take, Nat.min_eq_left (by omega)]
          have hes : esz = l.esz := by
            have hne : rs.take n ≠ [] := by intro e; have := congrArg List.length e; rw [List.length_take, List.length_nil] at this; omega
            obtain ⟨r, hr⟩ := List.exists_mem_of_ne_nil _ hne
            have h3 := hl r (List.mem_of_mem_take hr)
            rw [e] at hr
            have h4 := hF.rl r hr
            omega
          subst hes
          rw [e]
          have hlt : ((rs0.drop off).take n).length = n := by simp; omega
          refine ⟨us, hF, ⟨fun _ => by rw [hlen]; rfl, fun w' hw => ?_⟩⟩
          rw [ha (by omega)]
          exact firstCells_here (by rw [hF.len, hlt]) hc hw
      · rw [q] at q'; cases q'
  cases x with
  | sl xs =>
    simp only [listA, Option.some.injEq, Prod.mk.injEq] at hs
    obtain ⟨rfl, rfl, rfl⟩ := hs
    cases hx with
    | imm _ _ h =>
      generalize hvv : v = v' at h
      cases h with
      | snil =>
        subst hvv
        simp only [List.length_nil] at hn
        have : n = 0 := by omega
        subst this
        exact ⟨[], by simpa using Flat.nil, ⟨fun _ => rfl, fun w' _ => firstCells_zero (by simp) (.inl ⟨_, _, _, rfl⟩) w'⟩⟩
      | sl _ a cap sz vals hcap hlim hS hlen hcell hrep =>
        subst hvv
        by_cases hn0 : n = 0
        · subst hn0
          exact ⟨[], by simpa using Flat.nil, ⟨fun _ => rfl, fun w' _ => firstCells_zero (by simp) (.inl ⟨_, _, _, rfl⟩) w'⟩⟩
        · have hne : xs ≠ [] := by intro e; subst e; simp at hn; omega
          obtain ⟨r, hr⟩ := List.exists_mem_of_ne_nil _ hne
          obtain ⟨i, hi⟩ := List.getElem?_of_mem hr
          have hes : esz = sz := by rw [← hl r hr]; exact (hlen i r hi).1
          subst hes
          have hrr : RowsRep true S w ι xs vals := by
            intro i r hri
            simp only [if_true]
            refine ⟨by have := hlen i r hri; omega, fun j x v h1 h2 => hrep i j r x v hri h1 h2⟩
          have hlt : (xs.take n).length = n := by simp; omega
          obtain ⟨us, hF, hc⟩ := flat_of (cell := cellOf w a.block) (xs.take n) vals a.off (fun i hi => by
              have hi' : i < xs.length := by omega
              exact (hlen i _ (List.getElem?_eq_getElem hi')).2) (fun i j v hi hv => hcell i j v (by omega) hv) (fun i r hri => by
              rw [List.getElem?_take] at hri
              split at hri
              · exact hrr i r hri
              · cases hri)
          refine ⟨us, hF, ⟨fun _ => rfl, fun w' hw => ?_⟩⟩
          obtain ⟨bl, of, sp⟩ := a
          have hsp := (hS hne).2
          simp only at hsp
          subst hsp
          exact firstCells_here (by rw [hF.len, hlt]) hc hw
  | esl =>
    simp only [listA, Option.some.injEq, Prod.mk.injEq] at hs
    obtain ⟨rfl, rfl, rfl⟩ := hs
    simp only [List.length_nil] at hn
    have : n = 0 := by omega
    subst this
    cases hx with
    | imm _ _ h =>
      cases h with
      | esl a => exact ⟨[], by simpa using Flat.nil, ⟨fun _ => rfl, fun w' _ => firstCells_zero (by simp) (.inl ⟨_, _, _, rfl⟩) w'⟩⟩
  | str l =>
    simp only [listA, Option.some.injEq, Prod.mk.injEq] at hs
    obtain ⟨rfl, rfl, rfl⟩ := hs
    have hv := hx.str_inv
    subst hv
    simp only [List.length_map] at hn
    have hlenOf : ∀ w' : World, (Builtin.lenOf (.string ⟨l.toArray⟩)).run P w' = .ok (l.map fun b => [AV.int .u8 b.toNat]).length w' := by
      intro w'
      have : (⟨l.toArray⟩ : ByteArray).size = l.length := by show l.toArray.size = _; simp
      simp [Builtin.lenOf, this]
    by_cases hn0 : n = 0
    · subst hn0
      exact ⟨[], by simpa using Flat.nil, ⟨hlenOf, fun w' _ => firstCells_zero (by simp) (.inr ⟨rfl, _, rfl⟩) w'⟩⟩
    · have hes : esz = 1 := by
        cases l with
        | nil => simp at hn; omega
        | cons b l => have := hl [.int .u8 b.toNat] (by simp); simpa using this.symm
      subst hes
      refine ⟨(l.take n).map fun b => Value.int .u8 b.toNat, ⟨fun r hr => hl r (List.mem_of_mem_take hr), by simp, fun v hv => ?_, ?_⟩, ⟨hlenOf, fun w' _ => ?_⟩⟩
      · obtain ⟨b, _, rfl⟩ := List.mem_map.1 hv; rfl
      · have hfl : ((l.map fun b => [AV.int .u8 b.toNat]).take n).flatten = (l.take n).map fun b => AV.int .u8 b.toNat := by
          rw [← List.map_take]
          generalize l.take n = m
          induction m with
          | nil => rfl
          | cons b m ih => simp [ih]
        rw [hfl]
        simp only [RepP, if_true]
        refine ⟨by simp, fun j x v h1 h2 => ?_⟩
        rw [List.getElem?_map, Option.map_eq_some_iff] at h1 h2
        obtain ⟨b, h1, rfl⟩ := h1
        obtain ⟨b', h2, rfl⟩ := h2
        rw [h1] at h2; injection h2 with h2; subst h2
        exact .int _ _
      · simp only [Builtin.firstCells, Sem.run_pure]
        congr 1
        apply Array.ext'
        have hx : ((⟨l.toArray⟩ : ByteArray).extract 0 n) = ⟨(l.take n).toArray⟩ := by
          apply ByteArray.ext
          simp [ByteArray.data_extract, List.extract_eq_take_drop]
        rw [hx]; simp
  | osw o z =>
    simp only [listA] at hs
    have key : ∀ y rs0, ol o = some y → (y = .rows p rs0 ∨ (p = true ∧ y = .froz rs0)) → rs = rs0 → ∃ us, Flat p S w ι esz (rs.take n) us ∧ Src2 P w esz v rs.length n us := by
      intro y rs0 hy hyr hrs
      refine obj o 0 rs0.length y rs0 hy hyr (by simpa using hrs) ?_
      rcases osw_inv hx with ⟨l, a, cap, q, rfl, h1, h2, h3, _, ha⟩ | ⟨q, a, rfl⟩
      · have hc : rs0.length = l.cnt := by
          rcases obj_rowsP (hob o y hy) hyr with ⟨q', _⟩ | ⟨l', vals, q', hcnt, _⟩
          · rw [q] at q'; cases q'
          · rw [q] at q'; injection q' with q'; injection q' with q'; subst q'; exact hcnt
        exact .inl ⟨l, a, cap, q, by rw [hc], by omega, by omega, fun h => by rw [ha h]; simp⟩
      · have hc : rs0 = [] := by
          rcases obj_rowsP (hob o y hy) hyr with ⟨_, h⟩ | ⟨l', vals, q', hcnt, _⟩
          · exact h
          · rw [q] at q'; cases q'
        exact .inr ⟨q, by simp [hc], a, rfl⟩
    split at hs
    · rename_i p' rs0 hy
      simp only [Option.some.injEq, Prod.mk.injEq] at hs
      obtain ⟨rfl, rfl, rfl⟩ := hs
      exact key _ _ hy (.inl rfl) rfl
    · rename_i rs0 hy
      simp only [Option.some.injEq, Prod.mk.injEq] at hs
      obtain ⟨rfl, rfl, rfl⟩ := hs
      exact key _ _ hy (.inr ⟨rfl, rfl⟩) rfl
    · cases hs
  | osl o off len room =>
    simp only [listA] at hs
    have key : ∀ y rs0, ol o = some y → (y = .rows p rs0 ∨ (p = true ∧ y = .froz rs0)) → rs = (rs0.drop off).take len → ∃ us, Flat p S w ι esz (rs.take n) us ∧ Src2 P w esz v rs.length n us := by
      intro y rs0 hy hyr hrs
      refine obj o off len y rs0 hy hyr hrs ?_
      rcases osl_inv hx with ⟨l, a, cap, q, rfl, h1, h2, h3, h4, h5, ha⟩ | ⟨q, rfl, rfl, rfl, a, rfl⟩
      · exact .inl ⟨l, a, cap, q, rfl, by omega, by omega, ha⟩
      · exact .inr ⟨q, rfl, a, rfl⟩
    split at hs
    · rename_i p' rs0 hy
      simp only [Option.some.injEq, Prod.mk.injEq] at hs
      obtain ⟨rfl, rfl, rfl⟩ := hs
      exact key _ _ hy (.inl rfl) rfl
    · rename_i rs0 hy
      simp only [Option.some.injEq, Prod.mk.injEq] at hs
      obtain ⟨rfl, rfl, rfl⟩ := hs
      exact key _ _ hy (.inr ⟨rfl, rfl⟩) rfl
    · cases hs
  | _ => simp [listA] at hs
end
end Go.Ab
