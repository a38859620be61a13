/-
  AbState: the objects that the running function owns, its state, and what it means that a frame and a world stand in that state.
-/
import Derived.Test.YtceclaaopomcnaaDoorAbCore
import Derived.Laws.IdiomCopy
namespace Go.Ab

inductive AO where
  | rows (p : Bool) (rs : List (List AV))
  | froz (rs : List (List AV))
  | mapo (es : List (AV × AV))
  deriving Inhabited

structure FS where
  g : Nat → AV
  os : Nat → Option AO

def RowsAt (w : World) (l : Loc) (n : Nat) (vals : Nat → List Value) : Prop :=
  l.base + n * l.esz ≤ l.size ∧ (∀ i, i < n → (vals i).length = l.esz) ∧
    ∀ (i j : Nat) v, i < n → (vals i)[j]? = some v → cellOf w l.blk (l.base + (i * l.esz + j)) = some v ∧ v.oneCell' = true

def RowsRep (p : Bool) (S : Nat → Prop) (w : World) (ι : Imap) (rs : List (List AV)) (vals : Nat → List Value) : Prop :=
  ∀ (i : Nat) r, rs[i]? = some r → if p = true then IRepL S w r (vals i) else RepL S w ι r (vals i)

def Mine (w : World) (l : Loc) : Prop :=
  ∀ j, j < l.size → (∃ v, cellOf w l.blk j = some v) ∧ w.frozen? ⟨l.blk, j, none⟩ = false

/-- a map's entries -/
def MapRep (S : Nat → Prop) (w : World) (ι : Imap) (es : List (AV × AV)) (xs : List MapEntry) : Prop :=
  es.length = xs.length ∧ ∀ (i : Nat) e x, es[i]? = some e → xs[i]? = some x → IRep S w e.1 x.key ∧ Rep S w ι e.2 x.val

def ObjOk (S : Nat → Prop) (w : World) (ι : Imap) (o : Nat) : AO → Prop
  | .rows p rs => (ι o = some none ∧ rs = []) ∨ ∃ l vals, ι o = some (some l) ∧ rs.length = l.cnt ∧ Mine w l ∧ RowsAt w l rs.length vals ∧ RowsRep p S w ι rs vals
  | .froz rs => (ι o = some none ∧ rs = []) ∨ ∃ l vals, ι o = some (some l) ∧ rs.length = l.cnt ∧ S l.blk ∧ RowsAt w l rs.length vals ∧ RowsRep true S w ι rs vals
  | .mapo es => ∃ l xs clock, ι o = some (some l) ∧ w.heap[l.blk]? = some (.map xs clock) ∧ MapRep S w ι es xs.toList ∧ xs.size ≤ LIM

/-- an object that may be written -/
def AO.live : AO → Bool
  | .froz _ => false
  | _ => true

theorem RowsRep.mono {p : Bool} {S S' : Nat → Prop} {w w' : World} {ι ι' : Imap} (hs : ∀ b, S b → S' b) (hw : SameOn S w w') (hι : ι.le ι')
    {rs : List (List AV)} {vals : Nat → List Value} (h : RowsRep p S w ι rs vals) : RowsRep p S' w' ι' rs vals := by
  intro i r hr
  have := h i r hr
  cases p
  · simp only [Bool.false_eq_true, if_false] at this ⊢; exact this.mono hs hw hι
  · simp only [if_true] at this ⊢; exact this.mono hs hw

theorem ObjOk.mono {S S' : Nat → Prop} {w w' : World} {ι ι' : Imap} {o : Nat} {x : AO} (hs : ∀ b, S b → S' b) (hw : SameOn S w w') (hι : ι.le ι')
    (hb : ∀ l, ι o = some (some l) → x.live = true → w'.heap[l.blk]? = w.heap[l.blk]?) (h : ObjOk S w ι o x) : ObjOk S' w' ι' o x := by
  cases x with
  | rows p rs =>
    rcases h with ⟨h, rfl⟩ | ⟨l, vals, h1, hc, h2, h3, h4⟩
    · exact .inl ⟨hι _ _ h, rfl⟩
    · have e := hb l h1 rfl
      refine .inr ⟨l, vals, hι _ _ h1, hc, fun j hj => ?_, ⟨h3.1, h3.2.1, fun i j v hi hv => ?_⟩, h4.mono hs hw hι⟩
      · rw [cell_same e, frozen_same e]; exact h2 j hj
      · rw [cell_same e]; exact h3.2.2 i j v hi hv
  | froz rs =>
    rcases h with ⟨h, rfl⟩ | ⟨l, vals, h1, hc, h2, h3, h4⟩
    · exact .inl ⟨hι _ _ h, rfl⟩
    · have e := hw _ h2
      refine .inr ⟨l, vals, hι _ _ h1, hc, hs _ h2, ⟨h3.1, h3.2.1, fun i j v hi hv => ?_⟩, h4.mono hs hw hι⟩
      rw [cell_same e]; exact h3.2.2 i j v hi hv
  | mapo es =>
    obtain ⟨l, xs, clock, h1, h2, h3, h4⟩ := h
    refine ⟨l, xs, clock, hι _ _ h1, by rw [hb l h1 rfl]; exact h2, ⟨h3.1, fun i e x a b => ?_⟩, h4⟩
    exact ⟨(h3.2 i e x a b).1.mono hs hw, (h3.2 i e x a b).2.mono hs hw hι⟩

/-- what is kept of the world in which the call began; Ow: the blocks that may be written -/
structure Fr (Ow : Nat → Prop) (w0 w : World) : Prop where
  os : w.os = w0.os
  output : w.output = w0.output
  size : w0.heap.size ≤ w.heap.size
  old : ∀ b, b < w0.heap.size → ¬ Ow b → w.heap[b]? = w0.heap[b]?

/-- what the package-level variables hold, of which something is known -/
abbrev Gmap := Nat → Option (List AV)
def GOk (G : Gmap) (S : Nat → Prop) (w : World) : Prop := ∀ g row, G g = some row → IRep S w (.rp row 0) (.pointer (some ⟨g, 0, none⟩))

/-- what stays the same through a call: the variables that are known, the world in which it began, how many temporaries, which blocks may be written, which are never -/
structure Cx where
  G : Gmap
  w0 : World
  N : Nat
  Ow : Nat → Prop
  S0 : Nat → Prop
  m : Nat
  i0 : Imap
  i0m : ∀ j L, i0 j = some L → j < m

structure Inv (C : Cx) (S : Nat → Prop) (ι : Imap) (un : Nat → Prop) (f : FS) (a : Act) (w : World) : Prop where
  tm : ∀ t, Rep S w ι (f.g t) (a.tmps.getD t undef)
  sz : a.tmps.size = C.N
  df : a.defers = []
  ob : ∀ o x, f.os o = some x → ObjOk S w ι o x
  own : ∀ o x, f.os o = some x → x.live = true → ∀ l, ι o = some (some l) → C.Ow l.blk ∧ ¬ S l.blk ∧ l.blk < w.heap.size
  inj : ∀ o o' x x', f.os o = some x → f.os o' = some x' → x.live = true → x'.live = true →
    ∀ l l', ι o = some (some l) → ι o' = some (some l') → l.blk = l'.blk → o = o'
  sb : ∀ b, S b → b < w.heap.size
  sn : ∀ b, S b → C.S0 b ∨ C.Ow b
  un : ∀ o, un o → ι o = none
  fr : Fr C.Ow C.w0 w
  fo : ∀ b, C.w0.heap.size ≤ b → C.Ow b
  gv : GOk C.G S w
  s0 : ∀ b, C.S0 b → S b
  hj : ∀ j L, C.i0 j = some L → ι j = some L

def FS.put (f : FS) (dst : Option Nat) (v : AV) : FS :=
  match dst with
  | some d => { f with g := fun t => if t = d then v else f.g t }
  | none => f

def updO (os : Nat → Option AO) : List (Nat × Option AO) → Nat → Option AO
  | [] => os
  | (k, x) :: r => fun o => if o = k then x else updO os r o

def FS.upd (f : FS) (dst : Option Nat) (v : AV) (U : List (Nat × Option AO)) : FS :=
  { (f.put dst v) with os := updO f.os U }

theorem FS.put_os (f : FS) (dst : Option Nat) (v : AV) : (f.put dst v).os = f.os := by cases dst <;> rfl

theorem old_alloc (w : World) (o : Obj) (i : Nat) (h : i < w.heap.size) : (w.alloc o).heap[i]? = w.heap[i]? := by
  simp only [World.alloc, Array.getElem?_push]
  rw [if_neg (by omega)]

section
variable {C : Cx}

theorem Inv.put {S : Nat → Prop} {ι : Imap} {un : Nat → Prop} {f : FS} {a : Act} {w : World} (h : Inv C S ι un f a w) {dst : Option Nat}
    {v : AV} {v' : Value} (hv : Rep S w ι v v') (hd : ∀ d, dst = some d → d < C.N) : Inv C S ι un (f.put dst v) (a.put dst v') w := by
  cases dst with
  | none => exact h
  | some d =>
    have hd := hd d rfl
    refine ⟨fun t => ?_, ?_, h.df, h.ob, h.own, h.inj, h.sb, h.sn, h.un, h.fr, h.fo, h.gv, h.s0, h.hj⟩
    · by_cases ht : t = d
      · subst ht
        have e : (a.tmps.setIfInBounds t v').getD t undef = v' := by
          simp only [Array.getD_eq_getD_getElem?]
          rw [Array.getElem?_setIfInBounds_self_of_lt (by rw [h.sz]; exact hd)]
          rfl
        simp only [FS.put, if_true, Act.put]
        rw [e]; exact hv
      · simp only [FS.put, Act.put, if_neg ht]
        have e : (a.tmps.setIfInBounds d v').getD t undef = a.tmps.getD t undef := by
          simp only [Array.getD_eq_getD_getElem?]
          rw [Array.getElem?_setIfInBounds_ne (fun e => ht e.symm)]
        rw [e]
        exact h.tm t
    · simp [Act.put, h.sz]

/-- the world, the map of places and the objects turn; the temporaries stay -/
theorem Inv.turn {S S' : Nat → Prop} {ι ι' : Imap} {un un' : Nat → Prop} {f : FS} {a : Act} {w w' : World} {os' : Nat → Option AO}
    (h : Inv C S ι un f a w) (hs : ∀ b, S b → S' b) (hw : SameOn S w w') (hι : ι.le ι')
    (ob : ∀ o x, os' o = some x → ObjOk S' w' ι' o x)
    (own : ∀ o x, os' o = some x → x.live = true → ∀ l, ι' o = some (some l) → C.Ow l.blk ∧ ¬ S' l.blk ∧ l.blk < w'.heap.size)
    (inj : ∀ o o' x x', os' o = some x → os' o' = some x' → x.live = true → x'.live = true →
      ∀ l l', ι' o = some (some l) → ι' o' = some (some l') → l.blk = l'.blk → o = o')
    (sb : ∀ b, S' b → b < w'.heap.size) (sn : ∀ b, S' b → C.S0 b ∨ C.Ow b) (hun : ∀ o, un' o → ι' o = none) (fr : Fr C.Ow C.w0 w') :
    Inv C S' ι' un' { f with os := os' } a w' :=
  ⟨fun t => (h.tm t).mono hs hw hι, h.sz, h.df, ob, own, inj, sb, sn, hun, fr, h.fo, fun g row hg => (h.gv g row hg).mono hs hw, fun b hb => hs b (h.s0 b hb), fun j L e => hι _ _ (h.hj j L e)⟩

/-- fewer numbers are free -/
theorem Inv.less {S : Nat → Prop} {ι : Imap} {un un' : Nat → Prop} {f : FS} {a : Act} {w : World} (h : Inv C S ι un f a w) (hu : ∀ o, un' o → un o) :
    Inv C S ι un' f a w :=
  ⟨h.tm, h.sz, h.df, h.ob, h.own, h.inj, h.sb, h.sn, fun o ho => h.un o (hu o ho), h.fr, h.fo, h.gv, h.s0, h.hj⟩

/-- a draw -/
theorem Inv.drew {S : Nat → Prop} {ι : Imap} {un : Nat → Prop} {f : FS} {a : Act} {w : World} (h : Inv C S ι un f a w) :
    Inv C S ι un f a w.drew := by
  have hw : SameOn S w w.drew := fun _ _ => rfl
  refine ⟨fun t => (h.tm t).mono (fun _ x => x) hw (Imap.le_refl _), h.sz, h.df, fun o x hx => (h.ob o x hx).mono (fun _ x => x) hw (Imap.le_refl _) (fun _ _ _ => rfl),
    h.own, h.inj, h.sb, h.sn, h.un, ⟨h.fr.os, h.fr.output, h.fr.size, h.fr.old⟩, h.fo, fun g row hg => (h.gv g row hg).mono (fun _ x => x) hw, h.s0, h.hj⟩

/-- a new block, and a new object on it -/
theorem Inv.alloc {S : Nat → Prop} {ι : Imap} {un : Nat → Prop} {f : FS} {a : Act} {w : World} (h : Inv C S ι un f a w)
    {id : Nat} (hid : un id) (blk : Obj) (l : Loc) (hl : l.blk = w.heap.size) (x : AO) (_hx : x.live = true)
    (hok : ∀ ι' : Imap, ι.le ι' → ι' id = some (some l) → ObjOk S (w.alloc blk) ι' id x) :
    ∃ ι', ι.le ι' ∧ ι' id = some (some l) ∧ Inv C S ι' (fun o => un o ∧ o ≠ id) { f with os := updO f.os [(id, some x)] } a (w.alloc blk) := by
  have hnone := h.un id hid
  refine ⟨fun o => if o = id then some (some l) else ι o, ?_, by simp, ?_⟩
  · intro o y hy
    by_cases e : o = id
    · subst e; rw [hnone] at hy; cases hy
    · simp [e, hy]
  · have hι : ι.le (fun o => if o = id then some (some l) else ι o) := by
      intro o y hy
      by_cases e : o = id
      · subst e; rw [hnone] at hy; cases hy
      · simp [e, hy]
    have hw : ∀ b, b < w.heap.size → (w.alloc blk).heap[b]? = w.heap[b]? := fun b hb => old_alloc w blk b hb
    have hlt : ∀ o x, f.os o = some x → o ≠ id := by
      intro o x hx e
      subst e
      have := h.ob o x hx
      cases x with
      | rows p rs => rcases this with ⟨q, _⟩ | ⟨l, vals, q, _⟩ <;> (rw [hnone] at q; cases q)
      | froz rs => rcases this with ⟨q, _⟩ | ⟨l, vals, q, _⟩ <;> (rw [hnone] at q; cases q)
      | mapo es => obtain ⟨l, xs, c, q, _⟩ := this; rw [hnone] at q; cases q
    refine h.turn (fun _ x => x) (fun b hb => hw b (h.sb b hb)) hι ?_ ?_ ?_ (fun b hb => ?_) h.sn (fun o ho => ?_) ?_
    · intro o y hy
      simp only [updO] at hy
      by_cases e : o = id
      · subst e
        simp only [if_true, Option.some.injEq] at hy
        subst hy
        exact hok _ hι (by simp)
      · simp only [e, if_false] at hy
        refine (h.ob o y hy).mono (fun _ x => x) (fun b hb => hw b (h.sb b hb)) hι (fun l' hl' hy' => hw _ (h.own o y hy hy' l' hl').2.2)
    · intro o y hy hly l' hl'
      simp only [updO] at hy
      by_cases e : o = id
      · subst e
        simp only [if_true, Option.some.injEq] at hl'
        subst hl'
        refine ⟨?_, fun hS => ?_, by rw [hl]; simp⟩
        · rw [hl]; exact h.fo _ h.fr.size
        · have := h.sb _ hS; omega
      · simp only [e, if_false] at hy hl'
        have := h.own o y hy hly l' hl'
        exact ⟨this.1, this.2.1, by simp only [World.size_alloc]; omega⟩
    · intro o o' y y' hy hy' hl1 hl2 l1 l2 e1 e2 hb
      simp only [updO] at hy hy'
      by_cases e : o = id <;> by_cases e' : o' = id
      · rw [e, e']
      · subst e
        simp only [if_true, Option.some.injEq] at e1
        simp only [e', if_false] at hy' e2
        have := (h.own o' y' hy' hl2 l2 e2).2.2
        subst e1; omega
      · subst e'
        simp only [if_true, Option.some.injEq] at e2
        simp only [e, if_false] at hy e1
        have := (h.own o y hy hl1 l1 e1).2.2
        subst e2; omega
      · simp only [e, e', if_false] at hy hy' e1 e2
        exact h.inj o o' y y' hy hy' hl1 hl2 l1 l2 e1 e2 hb
    · have := h.sb b hb; simp only [World.size_alloc]; omega
    · simp only [ho.2, if_false]; exact h.un o ho.1
    · exact ⟨h.fr.os, h.fr.output, by simp only [World.size_alloc]; have := h.fr.size; omega, fun b hb hn => by
        rw [hw b (by have := h.fr.size; omega)]; exact h.fr.old b hb hn⟩

end
end Go.Ab
