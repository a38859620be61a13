/-
  AbState: the objects that the running function owns, its state, and what it means that a frame and a world stand in that state.
-/
import Derived.Test.YtnofpgegbhegnaaGreatDoorAbCore
import Derived.Laws.IdiomCopy
import Derived.MapKept
open Go.MapKept (Stamped)
namespace Go.Ab

inductive AO where
  | rows (p : Bool) (rs : List (List AV))
  | froz (rs : List (List AV))
  | mapo (p : Bool) (es : List (AV × AV))
  | fmap (z : Nat) (fs : List (AV × List (List AV))) (h : Option (Nat × Nat))
  | lit (rs : List (List AV))
  deriving Inhabited

structure FS where
  g : Nat → AV
  os : Nat → Option AO

def RowsAt (w : World) (l : Loc) (n : Nat) (vals : Nat → List Value) : Prop :=
  l.base + n * l.esz ≤ l.size ∧ (∀ i, i < n → (vals i).length = l.esz) ∧
    ∀ (i j : Nat) v, i < n → (vals i)[j]? = some v → cellOf w l.blk (l.base + (i * l.esz + j)) = some v ∧ v.oneCell' = true

def RowsRep (p : Bool) (S : Nat → Prop) (w : World) (ι : Imap) (rs : List (List AV)) (vals : Nat → List Value) : Prop :=
  ∀ (i : Nat) r, rs[i]? = some r → if p = true then IRepL S w r (vals i) else RepL S w ι r (vals i)

def Mine (w : World) (l : Loc) : Prop :=
  ∀ j, (j < l.size → ∃ v, cellOf w l.blk j = some v) ∧ (j < l.size ∨ l.esz ≠ 1 → w.frozen? ⟨l.blk, j, none⟩ = false)

/-- a map's entries -/
def MapRep (p : Bool) (S : Nat → Prop) (w : World) (ι : Imap) (es : List (AV × AV)) (xs : List MapEntry) : Prop :=
  es.length = xs.length ∧ ∀ (i : Nat) e x, es[i]? = some e → xs[i]? = some x → IRep S w e.1 x.key ∧ Rep S w ι e.2 x.val ∧ (p = true → IRep S w e.2 x.val)

/-- the block of a list -/
def vblk : Value → Option Nat
  | .slice (some a) _ cap => if cap = 0 then none else some a.block
  | _ => none

/-- a list that a map owns -/
def ListV (S : Nat → Prop) (w : World) (z : Nat) (rs : List (List AV)) (v : Value) : Prop :=
  (vblk v = none ∧ rs = [] ∧ ∃ a, v = .slice a 0 0) ∨
    ∃ l : Loc, vblk v = some l.blk ∧ 0 < l.size ∧ Rep S w (fun _ => some (some l)) (.osw 0 z) v ∧ ∃ vals, rs.length = l.cnt ∧ Mine w l ∧ RowsAt w l rs.length vals ∧ RowsRep true S w (fun _ => none) rs vals

/-- a map of lists that it owns; h: the list at this place is out, under this number -/
def FRep (S : Nat → Prop) (w : World) (ι : Imap) (z : Nat) (fs : List (AV × List (List AV))) (h : Option (Nat × Nat)) (xs : Array MapEntry) : Prop :=
  fs.length = xs.size ∧
  (∀ (i : Nat) e x, fs[i]? = some e → xs[i]? = some x → IRep S w e.1 x.key ∧ (h.map (·.1) ≠ some i → ListV S w z e.2 x.val) ∧ ∀ q, h = some (i, q) → Rep S w ι (.osw q z) x.val) ∧
  ∀ (i j : Nat) x y b, xs[i]? = some x → xs[j]? = some y → h.map (·.1) ≠ some i → h.map (·.1) ≠ some j → vblk x.val = some b → vblk y.val = some b → i = j

/-- so many entries, and their stamps -/
def FLim (xs : Array MapEntry) (clock : Nat) : Prop := xs.size ≤ LIM ∧ Stamped xs clock

/-- a literal's row, as it was laid: no mark is on it -/
def FreshRow (w : World) (l : Loc) : Prop := ∃ c e, w.heap[l.blk]? = some (.cells c e (0, 0)) ∧ l.size = c.size
theorem FreshRow.mine {w : World} {l : Loc} (h : FreshRow w l) : Mine w l := by
  obtain ⟨c, e, h1, h2⟩ := h
  intro j
  refine ⟨fun hj => ⟨c[j]'(by omega), ?_⟩, fun _ => ?_⟩
  · simp only [cellOf, World.cell?, h1]
    exact Array.getElem?_eq_getElem (by omega)
  · simp [World.frozen?, h1]

def ObjOk (S : Nat → Prop) (w : World) (ι : Imap) (o : Nat) : AO → Prop
  | .rows p rs => (ι o = some none ∧ rs = []) ∨ ∃ l vals, ι o = some (some l) ∧ rs.length = l.cnt ∧ Mine w l ∧ RowsAt w l rs.length vals ∧ RowsRep p S w ι rs vals
  | .froz rs => (ι o = some none ∧ rs = []) ∨ ∃ l vals, ι o = some (some l) ∧ rs.length = l.cnt ∧ S l.blk ∧ RowsAt w l rs.length vals ∧ RowsRep true S w ι rs vals
  | .mapo p es => ∃ l xs clock, ι o = some (some l) ∧ w.heap[l.blk]? = some (.map xs clock) ∧ MapRep p S w ι es xs.toList ∧ xs.size ≤ LIM
  | .fmap z fs h => ∃ l xs clock, ι o = some (some l) ∧ w.heap[l.blk]? = some (.map xs clock) ∧ FLim xs clock ∧ FRep S w ι z fs h xs
  | .lit rs => ∃ l vals, ι o = some (some l) ∧ FreshRow w l ∧ l.esz = 1 ∧ 0 < rs.length ∧ rs.length = l.cnt ∧ RowsAt w l rs.length vals ∧ RowsRep true S w ι rs vals

/-- the blocks of an object -/
def foot (w : World) (x : AO) (l : Loc) (b : Nat) : Prop := b = l.blk ∨ match x with
  | .fmap _ _ h => ∃ (xs : Array MapEntry) (clock i : Nat) (e : MapEntry), w.heap[l.blk]? = some (.map xs clock) ∧ xs[i]? = some e ∧ h.map (·.1) ≠ some i ∧ vblk e.val = some b
  | _ => False
theorem foot_here (w : World) (x : AO) (l : Loc) : foot w x l l.blk := .inl rfl
theorem foot_same {w w' : World} {x : AO} {l : Loc} (h : w'.heap[l.blk]? = w.heap[l.blk]?) {b : Nat} (hb : foot w' x l b) : foot w x l b := by
  unfold foot at hb ⊢
  rw [h] at hb; exact hb
/-- is it all in one block? -/
def oneBlk : AO → Bool
  | .fmap .. => false
  | _ => true
theorem foot_one {w : World} {x : AO} {l : Loc} {b : Nat} (h : oneBlk x = true) (hb : foot w x l b) : b = l.blk := by
  rcases hb with hb | hb
  · exact hb
  · cases x <;> first | exact hb.elim | (cases h)

theorem ListV.mono {S S' : Nat → Prop} {w w' : World} (hs : ∀ b, S b → S' b) (hw : SameOn S w w') {z : Nat} {rs : List (List AV)} {v : Value}
    (hb : ∀ b, vblk v = some b → w'.heap[b]? = w.heap[b]?) (h : ListV S w z rs v) : ListV S' w' z rs v := by
  rcases h with h | ⟨l, h1, h0, h2, vals, h3, h4, h5, h6⟩
  · exact .inl h
  · have e := hb _ h1
    refine .inr ⟨l, h1, h0, h2.mono hs hw (fun _ _ h => h), vals, h3, fun j => ?_, ⟨h5.1, h5.2.1, fun i j v hi hv => ?_⟩, fun i r hr => ?_⟩
    · rw [cell_same e, frozen_same e]; exact h4 j
    · rw [cell_same e]; exact h5.2.2 i j v hi hv
    · have := h6 i r hr
      simp only [if_true] at this ⊢; exact this.mono hs hw
theorem FRep.mono {S S' : Nat → Prop} {w w' : World} {ι ι' : Imap} (hs : ∀ b, S b → S' b) (hw : SameOn S w w') (hι : ι.le ι') {z : Nat} {fs : List (AV × List (List AV))} {h : Option (Nat × Nat)} {xs : Array MapEntry}
    (hb : ∀ (i : Nat) e b, xs[i]? = some e → h.map (·.1) ≠ some i → vblk e.val = some b → w'.heap[b]? = w.heap[b]?) (hF : FRep S w ι z fs h xs) : FRep S' w' ι' z fs h xs := by
  refine ⟨hF.1, fun i e x he hx => ?_, hF.2.2⟩
  obtain ⟨h1, h2, h3⟩ := hF.2.1 i e x he hx
  exact ⟨h1.mono hs hw, fun hn => (h2 hn).mono hs hw (fun b hv => hb i x b hx hn hv), fun q hq => (h3 q hq).mono hs hw hι⟩

/-- an object that may be written -/
def AO.live : AO → Bool
  | .froz _ => false
  | _ => true

/-! a list that is empty and owns nothing counts as any empty list -/
inductive Wk : AV → AV → Prop
  | refl (a : AV) : Wk a a
  | esl : Wk .esl (.sl [])
  | agg (as bs : List AV) (hl : as.length = bs.length) (h : ∀ (j : Nat) x y, as[j]? = some x → bs[j]? = some y → Wk x y) : Wk (.agg as) (.agg bs)
  | tup (as bs : List AV) (hl : as.length = bs.length) (h : ∀ (j : Nat) x y, as[j]? = some x → bs[j]? = some y → Wk x y) : Wk (.tup as) (.tup bs)
  | sl (xs ys : List (List AV)) (hl : xs.length = ys.length) (hr : ∀ (i : Nat) r q, xs[i]? = some r → ys[i]? = some q → r.length = q.length)
      (h : ∀ (i j : Nat) r q x y, xs[i]? = some r → ys[i]? = some q → r[j]? = some x → q[j]? = some y → Wk x y) : Wk (.sl xs) (.sl ys)
def WkL : List AV → List AV → Prop
  | [], [] => True
  | a :: as, b :: bs => Wk a b ∧ WkL as bs
  | _, _ => False
def WkR : List (List AV) → List (List AV) → Prop
  | [], [] => True
  | a :: as, b :: bs => WkL a b ∧ WkR as bs
  | _, _ => False
def WkO (a b : AO) : Prop := b = a ∨ (∃ p rs rs', a = .rows p rs ∧ b = .rows p rs' ∧ WkR rs rs') ∨ ∃ rs rs', a = .froz rs ∧ b = .froz rs' ∧ WkR rs rs'
def WkOs : List (Option AO) → List (Option AO) → Prop
  | [], [] => True
  | some a :: as, some b :: bs => WkO a b ∧ WkOs as bs
  | _, _ => False

theorem esl_sl {S : Nat → Prop} {w : World} {v : Value} (h : IRep S w .esl v) : IRep S w (.sl []) v := by
  cases h with
  | esl a =>
    cases a with
    | none => exact .snil
    | some a => exact .sl [] a 0 0 (fun _ => []) (Nat.le_refl _) (by simp [LIM]) (fun h => absurd rfl h) (fun i r h => by simp at h) (fun i j v h => by simp at h) (fun i j r x v h => by simp at h)
theorem get_of_len {α β : Type} {as : List α} {bs : List β} (h : as.length = bs.length) {j : Nat} {y : β} (hy : bs[j]? = some y) : ∃ x, as[j]? = some x := by
  have : j < bs.length := (List.getElem?_eq_some_iff.1 hy).1
  exact ⟨as[j]'(by omega), List.getElem?_eq_getElem _⟩
theorem Wk.irep {S : Nat → Prop} {w : World} {a b : AV} (h : Wk a b) : ∀ v, IRep S w a v → IRep S w b v := by
  induction h with
  | refl a => exact fun v h => h
  | esl => exact fun v h => esl_sl h
  | agg as bs hl _ ih =>
    intro v hv
    cases hv with
    | agg _ vs hl2 h2 =>
      refine .agg _ _ (by omega) (fun j y u hy hu => ?_)
      obtain ⟨x, hx⟩ := get_of_len hl hy
      exact ih j x y hx hy u (h2 j x u hx hu)
  | tup as bs hl _ ih =>
    intro v hv
    cases hv with
    | tup _ vs hl2 h2 =>
      refine .tup _ _ (by omega) (fun j y u hy hu => ?_)
      obtain ⟨x, hx⟩ := get_of_len hl hy
      exact ih j x y hx hy u (h2 j x u hx hu)
  | sl xs ys hl hr _ ih =>
    intro v hv
    cases hv with
    | snil =>
      obtain rfl : ys = [] := List.length_eq_zero_iff.1 (by simpa using hl.symm)
      exact .snil
    | sl _ a cap sz vals hcap hlim hS hlen hcell hrep =>
      rw [hl]
      refine .sl ys a cap sz vals (by omega) (by omega) (fun hn => hS (fun e => hn (List.length_eq_zero_iff.1 (by rw [← hl, e]; rfl)))) (fun i q hq => ?_) (fun i j v hi hv => hcell i j v (by omega) hv) (fun i j q y v hq hy hv => ?_)
      · obtain ⟨r, hr1⟩ := get_of_len hl hq
        have := hlen i r hr1
        exact ⟨by rw [← hr i r q hr1 hq]; exact this.1, this.2⟩
      · obtain ⟨r, hr1⟩ := get_of_len hl hq
        obtain ⟨x, hx⟩ := get_of_len (hr i r q hr1 hq) hy
        exact ih i j r q x y hr1 hq hx hy v (hrep i j r x v hr1 hx hv)
theorem Wk.rep {S : Nat → Prop} {w : World} {ι : Imap} {a b : AV} (h : Wk a b) : ∀ v, Rep S w ι a v → Rep S w ι b v := by
  induction h with
  | refl a => exact fun v h => h
  | esl => intro v h; cases h with | imm _ _ h => exact .imm _ _ (esl_sl h)
  | agg as bs hl _ ih =>
    intro v hv
    obtain ⟨vs, rfl, h1, h2⟩ := hv.agg_inv
    refine .agg _ _ (by simp at h1; omega) (fun j y u hy hu => ?_)
    obtain ⟨x, hx⟩ := get_of_len hl hy
    exact ih j x y hx hy u (h2 j x u hx (by simpa using hu))
  | tup as bs hl _ ih =>
    intro v hv
    obtain ⟨vs, rfl, h1, h2⟩ := hv.tup_inv
    refine .tup _ _ (by simp at h1; omega) (fun j y u hy hu => ?_)
    obtain ⟨x, hx⟩ := get_of_len hl hy
    exact ih j x y hx hy u (h2 j x u hx (by simpa using hu))
  | sl xs ys hl hr h _ =>
    intro v hv
    cases hv with
    | imm _ _ hv => exact .imm _ _ ((Wk.sl xs ys hl hr h).irep v hv)
theorem WkL.get : ∀ {as bs : List AV}, WkL as bs → as.length = bs.length ∧ ∀ (j : Nat) x y, as[j]? = some x → bs[j]? = some y → Wk x y
  | [], [], _ => ⟨rfl, fun j x y _ h => by simp at h⟩
  | a :: as, b :: bs, h => by
    obtain ⟨h1, h2⟩ := WkL.get h.2
    refine ⟨by simp [h1], fun j x y hx hy => ?_⟩
    cases j with
    | zero => simp at hx hy; subst hx; subst hy; exact h.1
    | succ j => exact h2 j x y (by simpa using hx) (by simpa using hy)
  | [], _ :: _, h => h.elim
  | _ :: _, [], h => h.elim
theorem WkR.get : ∀ {as bs : List (List AV)}, WkR as bs → as.length = bs.length ∧ ∀ (j : Nat) x y, as[j]? = some x → bs[j]? = some y → WkL x y
  | [], [], _ => ⟨rfl, fun j x y _ h => by simp at h⟩
  | a :: as, b :: bs, h => by
    obtain ⟨h1, h2⟩ := WkR.get h.2
    refine ⟨by simp [h1], fun j x y hx hy => ?_⟩
    cases j with
    | zero => simp at hx hy; subst hx; subst hy; exact h.1
    | succ j => exact h2 j x y (by simpa using hx) (by simpa using hy)
  | [], _ :: _, h => h.elim
  | _ :: _, [], h => h.elim
theorem WkL.repL {S : Nat → Prop} {w : World} {ι : Imap} {as bs : List AV} {vs : List Value} (h : WkL as bs) (ha : RepL S w ι as vs) : RepL S w ι bs vs := by
  obtain ⟨h1, h2⟩ := h.get
  refine ⟨by rw [← h1]; exact ha.1, fun j y v hy hv => ?_⟩
  obtain ⟨x, hx⟩ := get_of_len h1 hy
  exact (h2 j x y hx hy).rep v (ha.2 j x v hx hv)
theorem WkL.irepL {S : Nat → Prop} {w : World} {as bs : List AV} {vs : List Value} (h : WkL as bs) (ha : IRepL S w as vs) : IRepL S w bs vs := by
  obtain ⟨h1, h2⟩ := h.get
  refine ⟨by rw [← h1]; exact ha.1, fun j y v hy hv => ?_⟩
  obtain ⟨x, hx⟩ := get_of_len h1 hy
  exact (h2 j x y hx hy).irep v (ha.2 j x v hx hv)
theorem WkO.live {a b : AO} (h : WkO a b) : b.live = a.live := by
  rcases h with rfl | ⟨p, rs, rs', rfl, rfl, _⟩ | ⟨rs, rs', rfl, rfl, _⟩ <;> rfl
theorem WkO.ok {S : Nat → Prop} {w : World} {ι : Imap} {o : Nat} {a b : AO} (h : WkO a b) (ha : ObjOk S w ι o a) : ObjOk S w ι o b := by
  rcases h with rfl | ⟨p, rs, rs', rfl, rfl, h⟩ | ⟨rs, rs', rfl, rfl, h⟩
  · exact ha
  · obtain ⟨h1, h2⟩ := h.get
    rcases ha with ⟨q, rfl⟩ | ⟨l, vals, e1, e2, e3, e4, e5⟩
    · exact .inl ⟨q, List.length_eq_zero_iff.1 (by simpa using h1.symm)⟩
    · refine .inr ⟨l, vals, e1, by omega, e3, by rw [← h1]; exact e4, fun i r hr => ?_⟩
      obtain ⟨x, hx⟩ := get_of_len h1 hr
      have hw := h2 i x r hx hr
      have := e5 i x hx
      cases p
      · simp only [Bool.false_eq_true, if_false] at this ⊢; exact hw.repL this
      · simp only [if_true] at this ⊢; exact hw.irepL this
  · obtain ⟨h1, h2⟩ := h.get
    rcases ha with ⟨q, rfl⟩ | ⟨l, vals, e1, e2, e3, e4, e5⟩
    · exact .inl ⟨q, List.length_eq_zero_iff.1 (by simpa using h1.symm)⟩
    · refine .inr ⟨l, vals, e1, by omega, e3, by rw [← h1]; exact e4, fun i r hr => ?_⟩
      obtain ⟨x, hx⟩ := get_of_len h1 hr
      have hw := h2 i x r hx hr
      have := e5 i x hx
      simp only [if_true] at this ⊢; exact hw.irepL this
theorem Wk.eq {a b : AV} (h : b = a) : Wk a b := h ▸ .refl b
theorem Wk.a {as bs : List AV} (h : WkL as bs) : Wk (.agg as) (.agg bs) := .agg as bs h.get.1 h.get.2
theorem Wk.t {as bs : List AV} (h : WkL as bs) : Wk (.tup as) (.tup bs) := .tup as bs h.get.1 h.get.2
theorem Wk.s {xs ys : List (List AV)} (h : WkR xs ys) : Wk (.sl xs) (.sl ys) :=
  .sl xs ys h.get.1 (fun i r q hr hq => (h.get.2 i r q hr hq).get.1) (fun i j r q x y hr hq hx hy => (h.get.2 i r q hr hq).get.2 j x y hx hy)
theorem WkL.nil : WkL [] [] := trivial
theorem WkL.cons {a b : AV} {as bs : List AV} (h : Wk a b) (h' : WkL as bs) : WkL (a :: as) (b :: bs) := ⟨h, h'⟩
theorem WkR.nil : WkR [] [] := trivial
theorem WkR.cons {a b : List AV} {as bs : List (List AV)} (h : WkL a b) (h' : WkR as bs) : WkR (a :: as) (b :: bs) := ⟨h, h'⟩
theorem WkL.refl : ∀ {as : List AV}, WkL as as
  | [] => trivial
  | a :: _ => ⟨.refl a, WkL.refl⟩
theorem WkR.refl : ∀ {as : List (List AV)}, WkR as as
  | [] => trivial
  | _ :: _ => ⟨WkL.refl, WkR.refl⟩
theorem WkL.of_eq {as bs : List AV} (h : bs = as) : WkL as bs := h ▸ WkL.refl
theorem WkR.of_eq {as bs : List (List AV)} (h : bs = as) : WkR as bs := h ▸ WkR.refl
theorem WkR.append : ∀ {as bs as' bs' : List (List AV)}, WkR as bs → WkR as' bs' → WkR (as ++ as') (bs ++ bs')
  | [], [], _, _, _, h => h
  | _ :: _, _ :: _, _, _, h, h' => ⟨h.1, WkR.append h.2 h'⟩
theorem WkOs.of_eq {α : Type} {f : α → AO} : ∀ {l : List α} {as : List (Option AO)}, l.map (fun e => some (f e)) = as → WkOs as (l.map fun e => some (f e))
  | [], _, rfl => trivial
  | _ :: _, _, rfl => ⟨.inl rfl, WkOs.of_eq rfl⟩
theorem WkOs.get : ∀ {as bs : List (Option AO)}, WkOs as bs → ∀ (j : Nat) x y, as[j]? = some x → bs[j]? = some (some y) → ∃ a, x = some a ∧ WkO a y
  | [], [], _, j, x, y, h1, h2 => by simp at h1
  | some a :: as, some b :: bs, h, j, x, y, h1, h2 => by
    cases j with
    | zero => simp at h1 h2; subst h1; subst h2; exact ⟨a, rfl, h.1⟩
    | succ j => exact WkOs.get h.2 j x y (by simpa using h1) (by simpa using h2)
  | [], _ :: _, h, _, _, _, _, _ => h.elim
  | none :: _, _ :: _, h, _, _, _, _, _ => by simp [WkOs] at h
  | some _ :: _, none :: _, h, _, _, _, _, _ => by simp [WkOs] at h
  | some _ :: _, [], h, _, _, _, _, _ => by simp [WkOs] at h
  | none :: _, [], h, _, _, _, _, _ => by simp [WkOs] at h
theorem WkOs.nil : WkOs [] [] := trivial
theorem WkOs.cons {a b : AO} {as bs : List (Option AO)} (h : WkO a b) (h' : WkOs as bs) : WkOs (some a :: as) (some b :: bs) := ⟨h, h'⟩
theorem WkO.eq {a b : AO} (h : b = a) : WkO a b := .inl h
theorem WkO.r {p : Bool} {rs rs' : List (List AV)} (h : WkR rs rs') : WkO (.rows p rs) (.rows p rs') := .inr (.inl ⟨p, rs, rs', rfl, rfl, h⟩)
theorem WkO.f {rs rs' : List (List AV)} (h : WkR rs rs') : WkO (.froz rs) (.froz rs') := .inr (.inr ⟨rs, rs', rfl, rfl, h⟩)

theorem RowsRep.mono {p : Bool} {S S' : Nat → Prop} {w w' : World} {ι ι' : Imap} (hs : ∀ b, S b → S' b) (hw : SameOn S w w') (hι : ι.le ι')
    {rs : List (List AV)} {vals : Nat → List Value} (h : RowsRep p S w ι rs vals) : RowsRep p S' w' ι' rs vals := by
  intro i r hr
  have := h i r hr
  cases p
  · simp only [Bool.false_eq_true, if_false] at this ⊢; exact this.mono hs hw hι
  · simp only [if_true] at this ⊢; exact this.mono hs hw

theorem ObjOk.mono {S S' : Nat → Prop} {w w' : World} {ι ι' : Imap} {o : Nat} {x : AO} (hs : ∀ b, S b → S' b) (hw : SameOn S w w') (hι : ι.le ι')
    (hb : ∀ l, ι o = some (some l) → x.live = true → ∀ b, foot w x l b → w'.heap[b]? = w.heap[b]?) (h : ObjOk S w ι o x) : ObjOk S' w' ι' o x := by
  cases x with
  | rows p rs =>
    rcases h with ⟨h, rfl⟩ | ⟨l, vals, h1, hc, h2, h3, h4⟩
    · exact .inl ⟨hι _ _ h, rfl⟩
    · have e := hb l h1 rfl _ (.inl rfl)
      refine .inr ⟨l, vals, hι _ _ h1, hc, fun j => ?_, ⟨h3.1, h3.2.1, fun i j v hi hv => ?_⟩, h4.mono hs hw hι⟩
      · rw [cell_same e, frozen_same e]; exact h2 j
      · rw [cell_same e]; exact h3.2.2 i j v hi hv
  | froz rs =>
    rcases h with ⟨h, rfl⟩ | ⟨l, vals, h1, hc, h2, h3, h4⟩
    · exact .inl ⟨hι _ _ h, rfl⟩
    · have e := hw _ h2
      refine .inr ⟨l, vals, hι _ _ h1, hc, hs _ h2, ⟨h3.1, h3.2.1, fun i j v hi hv => ?_⟩, h4.mono hs hw hι⟩
      rw [cell_same e]; exact h3.2.2 i j v hi hv
  | mapo p es =>
    obtain ⟨l, xs, clock, h1, h2, h3, h4⟩ := h
    refine ⟨l, xs, clock, hι _ _ h1, by rw [hb l h1 rfl _ (.inl rfl)]; exact h2, ⟨h3.1, fun i e x a b => ?_⟩, h4⟩
    exact ⟨(h3.2 i e x a b).1.mono hs hw, (h3.2 i e x a b).2.1.mono hs hw hι, fun hp => ((h3.2 i e x a b).2.2 hp).mono hs hw⟩
  | fmap z fs hh =>
    obtain ⟨l, xs, clock, h1, h2, h3, h4⟩ := h
    exact ⟨l, xs, clock, hι _ _ h1, by rw [hb l h1 rfl _ (.inl rfl)]; exact h2, h3, h4.mono hs hw hι (fun i e b he hn hv => hb l h1 rfl b (.inr ⟨xs, clock, i, e, h2, he, hn, hv⟩))⟩
  | lit rs =>
    obtain ⟨l, vals, h1, ⟨c, e', h2, h3⟩, h4, h5, h6, h7, h8⟩ := h
    have e := hb l h1 rfl _ (.inl rfl)
    exact ⟨l, vals, hι _ _ h1, ⟨c, e', by rw [e]; exact h2, h3⟩, h4, h5, h6, ⟨h7.1, h7.2.1, fun i j v hi hv => by rw [cell_same e]; exact h7.2.2 i j v hi hv⟩, h8.mono hs hw hι⟩

/-- what is kept of the world in which the call began; Ow: the blocks that may be written -/
structure Fr (Ow : Nat → Prop) (w0 w : World) : Prop where
  os : w.os = w0.os
  output : w.output = w0.output
  size : w0.heap.size ≤ w.heap.size
  old : ∀ b, b < w0.heap.size → ¬ Ow b → w.heap[b]? = w0.heap[b]?

/-- what the package-level variables hold, of which something is known -/
abbrev Gmap := Nat → Option (List AV)
def GRow (S : Nat → Prop) (w : World) (g : Nat) (row : List AV) : Prop := IRep S w (.rp row 0) (.pointer (some ⟨g, 0, none⟩)) ∧ ∃ cs t fr, w.heap[g]? = some (.cells cs t fr) ∧ cs.size = row.length
theorem GRow.mono {S S' : Nat → Prop} {w w' : World} {g : Nat} {row : List AV} (h : GRow S w g row) (hs : ∀ b, S b → S' b) (hw : SameOn S w w') : GRow S' w' g row := by
  refine ⟨h.1.mono hs hw, ?_⟩
  have hg : S g := by
    have := h.1
    generalize hv : Value.pointer (some ⟨g, 0, none⟩) = v at this
    cases this with
    | rp row off blk base vals hS hl hcell hr =>
      injection hv with hv; injection hv with hv; injection hv with h1 _ _
      rw [h1]; exact hS
  obtain ⟨cs, t, fr, e, es⟩ := h.2
  exact ⟨cs, t, fr, (hw g hg).trans e, es⟩
def GOk (G : Gmap) (S : Nat → Prop) (w : World) : Prop := ∀ g row, G g = some row → GRow S w g row

/-- the temporaries: which may be written (from lo on), how many there are -/
structure Sl where
  lo : Nat
  n : Nat
  no : Bool
/-- what stays the same through a call: the variables that are known, the world in which it began, how many temporaries, which blocks may be written, which are never -/
structure Cx where
  G : Gmap
  w0 : World
  N : Sl
  Ow : Nat → Prop
  S0 : Nat → Prop
  m : Nat
  i0 : Imap
  i0m : ∀ j L, i0 j = some L → j < m
  kv : Nat → Value
  dfs : List Deferred
  qb : List (Nat × Obj)

structure Inv (C : Cx) (S : Nat → Prop) (ι : Imap) (un : Nat → Prop) (f : FS) (a : Act) (w : World) : Prop where
  tm : ∀ t, Rep S w ι (f.g t) (a.tmps.getD t undef)
  sz : a.tmps.size = C.N.n
  df : a.defers = C.dfs ∧ (∀ t, t < C.N.lo → a.tmps.getD t undef = C.kv t) ∧ ∀ q, q ∈ C.qb → S q.1 ∧ w.heap[q.1]? = some q.2
  ob : ∀ o x, f.os o = some x → ObjOk S w ι o x
  own : ∀ o x, f.os o = some x → x.live = true → ∀ l, ι o = some (some l) → ∀ b, foot w x l b → C.Ow b ∧ ¬ S b ∧ b < w.heap.size
  inj : ∀ o o' x x', f.os o = some x → f.os o' = some x' → x.live = true → x'.live = true →
    ∀ l l', ι o = some (some l) → ι o' = some (some l') → ∀ b, foot w x l b → foot w x' l' b → o = o'
  sb : ∀ b, S b → b < w.heap.size
  sn : ∀ b, S b → C.S0 b ∨ C.Ow b
  un : ∀ o, un o → ι o = none
  fr : Fr C.Ow C.w0 w
  fo : ∀ b, C.w0.heap.size ≤ b → C.Ow b
  gv : GOk C.G S w
  s0 : ∀ b, C.S0 b → S b
  hj : ∀ j L, C.i0 j = some L → ι j = some L

def FS.put (f : FS) (dst : Option Nat) (v : AV) : FS :=
  match dst with
  | some d => { f with g := fun t => if t = d then v else f.g t }
  | none => f

def updO (os : Nat → Option AO) : List (Nat × Option AO) → Nat → Option AO
  | [] => os
  | (k, x) :: r => fun o => if o = k then x else updO os r o

def FS.upd (f : FS) (dst : Option Nat) (v : AV) (U : List (Nat × Option AO)) : FS :=
  { (f.put dst v) with os := updO f.os U }

theorem FS.put_os (f : FS) (dst : Option Nat) (v : AV) : (f.put dst v).os = f.os := by cases dst <;> rfl

theorem old_alloc (w : World) (o : Obj) (i : Nat) (h : i < w.heap.size) : (w.alloc o).heap[i]? = w.heap[i]? := by
  simp only [World.alloc, Array.getElem?_push]
  rw [if_neg (by omega)]

section
variable {C : Cx}

theorem Inv.put {S : Nat → Prop} {ι : Imap} {un : Nat → Prop} {f : FS} {a : Act} {w : World} (h : Inv C S ι un f a w) {dst : Option Nat}
    {v : AV} {v' : Value} (hv : Rep S w ι v v') (hd : ∀ d, dst = some d → C.N.lo ≤ d ∧ d < C.N.n) : Inv C S ι un (f.put dst v) (a.put dst v') w := by
  cases dst with
  | none => exact h
  | some d =>
    have hd := hd d rfl
    refine ⟨fun t => ?_, ?_, ⟨h.df.1, fun t ht => ?_, h.df.2.2⟩, h.ob, h.own, h.inj, h.sb, h.sn, h.un, h.fr, h.fo, h.gv, h.s0, h.hj⟩
    · by_cases ht : t = d
      · subst ht
        have e : (a.tmps.setIfInBounds t v').getD t undef = v' := by
          simp only [Array.getD_eq_getD_getElem?]
          rw [Array.getElem?_setIfInBounds_self_of_lt (by rw [h.sz]; exact hd.2)]
          rfl
        simp only [FS.put, if_true, Act.put]
        rw [e]; exact hv
      · simp only [FS.put, Act.put, if_neg ht]
        have e : (a.tmps.setIfInBounds d v').getD t undef = a.tmps.getD t undef := by
          simp only [Array.getD_eq_getD_getElem?]
          rw [Array.getElem?_setIfInBounds_ne (fun e => ht e.symm)]
        rw [e]
        exact h.tm t
    · simp [Act.put, h.sz]
    · have := h.df.2.1 t ht
      simp only [Act.put, Array.getD_eq_getD_getElem?] at this ⊢
      rw [Array.getElem?_setIfInBounds_ne (by omega)]
      exact this

/-- the world, the map of places and the objects turn; the temporaries stay -/
theorem Inv.turn {S S' : Nat → Prop} {ι ι' : Imap} {un un' : Nat → Prop} {f : FS} {a : Act} {w w' : World} {os' : Nat → Option AO}
    (h : Inv C S ι un f a w) (hs : ∀ b, S b → S' b) (hw : SameOn S w w') (hι : ι.le ι')
    (ob : ∀ o x, os' o = some x → ObjOk S' w' ι' o x)
    (own : ∀ o x, os' o = some x → x.live = true → ∀ l, ι' o = some (some l) → ∀ b, foot w' x l b → C.Ow b ∧ ¬ S' b ∧ b < w'.heap.size)
    (inj : ∀ o o' x x', os' o = some x → os' o' = some x' → x.live = true → x'.live = true →
      ∀ l l', ι' o = some (some l) → ι' o' = some (some l') → ∀ b, foot w' x l b → foot w' x' l' b → o = o')
    (sb : ∀ b, S' b → b < w'.heap.size) (sn : ∀ b, S' b → C.S0 b ∨ C.Ow b) (hun : ∀ o, un' o → ι' o = none) (fr : Fr C.Ow C.w0 w') :
    Inv C S' ι' un' { f with os := os' } a w' :=
  ⟨fun t => (h.tm t).mono hs hw hι, h.sz, ⟨h.df.1, h.df.2.1, fun q hq => ⟨hs _ (h.df.2.2 q hq).1, (hw _ (h.df.2.2 q hq).1).trans (h.df.2.2 q hq).2⟩⟩, ob, own, inj, sb, sn, hun, fr, h.fo, fun g row hg => (h.gv g row hg).mono hs hw, fun b hb => hs b (h.s0 b hb), fun j L e => hι _ _ (h.hj j L e)⟩

/-- fewer numbers are free -/
theorem Inv.less {S : Nat → Prop} {ι : Imap} {un un' : Nat → Prop} {f : FS} {a : Act} {w : World} (h : Inv C S ι un f a w) (hu : ∀ o, un' o → un o) :
    Inv C S ι un' f a w :=
  ⟨h.tm, h.sz, h.df, h.ob, h.own, h.inj, h.sb, h.sn, fun o ho => h.un o (hu o ho), h.fr, h.fo, h.gv, h.s0, h.hj⟩

/-- a draw -/
theorem Inv.drew {S : Nat → Prop} {ι : Imap} {un : Nat → Prop} {f : FS} {a : Act} {w : World} (h : Inv C S ι un f a w) :
    Inv C S ι un f a w.drew := by
  have hw : SameOn S w w.drew := fun _ _ => rfl
  refine ⟨fun t => (h.tm t).mono (fun _ x => x) hw (Imap.le_refl _), h.sz, h.df, fun o x hx => (h.ob o x hx).mono (fun _ x => x) hw (Imap.le_refl _) (fun _ _ _ _ _ => rfl),
    h.own, h.inj, h.sb, h.sn, h.un, ⟨h.fr.os, h.fr.output, h.fr.size, h.fr.old⟩, h.fo, fun g row hg => (h.gv g row hg).mono (fun _ x => x) hw, h.s0, h.hj⟩

/-- a new block, and a new object on it -/
theorem Inv.alloc {S : Nat → Prop} {ι : Imap} {un : Nat → Prop} {f : FS} {a : Act} {w : World} (h : Inv C S ι un f a w)
    {id : Nat} (hid : un id) (blk : Obj) (l : Loc) (hl : l.blk = w.heap.size) (x : AO) (_hx : x.live = true) (h1b : ∀ b, foot (w.alloc blk) x l b → b = l.blk)
    (hok : ∀ ι' : Imap, ι.le ι' → ι' id = some (some l) → ObjOk S (w.alloc blk) ι' id x) :
    ∃ ι', ι.le ι' ∧ ι' id = some (some l) ∧ Inv C S ι' (fun o => un o ∧ o ≠ id) { f with os := updO f.os [(id, some x)] } a (w.alloc blk) := by
  have hnone := h.un id hid
  refine ⟨fun o => if o = id then some (some l) else ι o, ?_, by simp, ?_⟩
  · intro o y hy
    by_cases e : o = id
    · subst e; rw [hnone] at hy; cases hy
    · simp [e, hy]
  · have hι : ι.le (fun o => if o = id then some (some l) else ι o) := by
      intro o y hy
      by_cases e : o = id
      · subst e; rw [hnone] at hy; cases hy
      · simp [e, hy]
    have hw : ∀ b, b < w.heap.size → (w.alloc blk).heap[b]? = w.heap[b]? := fun b hb => old_alloc w blk b hb
    have hlt : ∀ o x, f.os o = some x → o ≠ id := by
      intro o x hx e
      subst e
      have := h.ob o x hx
      cases x with
      | rows p rs => rcases this with ⟨q, _⟩ | ⟨l, vals, q, _⟩ <;> (rw [hnone] at q; cases q)
      | froz rs => rcases this with ⟨q, _⟩ | ⟨l, vals, q, _⟩ <;> (rw [hnone] at q; cases q)
      | mapo p es => obtain ⟨l, xs, c, q, _⟩ := this; rw [hnone] at q; cases q
      | fmap z fs hh => obtain ⟨l, xs, c, q, _⟩ := this; rw [hnone] at q; cases q
      | lit rs => obtain ⟨l, vals, q, _⟩ := this; rw [hnone] at q; cases q
    refine h.turn (fun _ x => x) (fun b hb => hw b (h.sb b hb)) hι ?_ ?_ ?_ (fun b hb => ?_) h.sn (fun o ho => ?_) ?_
    · intro o y hy
      simp only [updO] at hy
      by_cases e : o = id
      · subst e
        simp only [if_true, Option.some.injEq] at hy
        subst hy
        exact hok _ hι (by simp)
      · simp only [e, if_false] at hy
        refine (h.ob o y hy).mono (fun _ x => x) (fun b hb => hw b (h.sb b hb)) hι (fun l' hl' hy' b hb => hw _ (h.own o y hy hy' l' hl' b hb).2.2)
    · intro o y hy hly l' hl' b hb
      simp only [updO] at hy
      by_cases e : o = id
      · subst e
        simp only [if_true, Option.some.injEq] at hl'
        subst hl'
        simp only [if_true, Option.some.injEq] at hy
        subst hy
        obtain rfl : b = w.heap.size := (h1b _ hb).trans hl
        refine ⟨?_, fun hS => ?_, by simp⟩
        · exact h.fo _ h.fr.size
        · have := h.sb _ hS; omega
      · simp only [e, if_false] at hy hl'
        have := h.own o y hy hly l' hl' b (foot_same (hw _ (h.own o y hy hly l' hl' _ (.inl rfl)).2.2) hb)
        exact ⟨this.1, this.2.1, by simp only [World.size_alloc]; omega⟩
    · intro o o' y y' hy hy' hl1 hl2 l1 l2 e1 e2 b hb hb2
      simp only [updO] at hy hy'
      by_cases e : o = id <;> by_cases e' : o' = id
      · rw [e, e']
      · subst e
        simp only [if_true, Option.some.injEq] at e1
        simp only [e', if_false] at hy' e2
        have := (h.own o' y' hy' hl2 l2 e2 b (foot_same (hw _ (h.own o' y' hy' hl2 l2 e2 _ (.inl rfl)).2.2) hb2)).2.2
        simp only [if_true, Option.some.injEq] at hy
        subst e1; subst hy; have := (h1b _ hb).trans hl; omega
      · subst e'
        simp only [if_true, Option.some.injEq] at e2
        simp only [e, if_false] at hy e1
        have := (h.own o y hy hl1 l1 e1 b (foot_same (hw _ (h.own o y hy hl1 l1 e1 _ (.inl rfl)).2.2) hb)).2.2
        simp only [if_true, Option.some.injEq] at hy'
        subst e2; subst hy'; have := (h1b _ hb2).trans hl; omega
      · simp only [e, e', if_false] at hy hy' e1 e2
        exact h.inj o o' y y' hy hy' hl1 hl2 l1 l2 e1 e2 b (foot_same (hw _ (h.own o y hy hl1 l1 e1 _ (.inl rfl)).2.2) hb) (foot_same (hw _ (h.own o' y' hy' hl2 l2 e2 _ (.inl rfl)).2.2) hb2)
    · have := h.sb b hb; simp only [World.size_alloc]; omega
    · simp only [ho.2, if_false]; exact h.un o ho.1
    · exact ⟨h.fr.os, h.fr.output, by simp only [World.size_alloc]; have := h.fr.size; omega, fun b hb hn => by
        rw [hw b (by have := h.fr.size; omega)]; exact h.fr.old b hb hn⟩

end
end Go.Ab
