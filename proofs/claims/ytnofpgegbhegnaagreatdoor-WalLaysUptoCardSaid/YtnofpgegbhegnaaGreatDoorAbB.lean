/-
  AbB: the operations on lists and maps, in the model.
-/
import Derived.Test.YtnofpgegbhegnaaGreatDoorAbList
namespace Go.Ab

section
variable {C : Cx} {S : Nat → Prop} {w : World} {ι : Imap} {P : Program} {un : Nat → Prop} {f : FS} {a : Act} {id : Nat} {o : Oper}
  {next : Act → World → Prop} {Q : Exit → Act → World → Prop}

/-- an object is left -/
theorem Inv.del (h : Inv C S ι un f a w) (q : Nat) : Inv C S ι un { f with os := updO f.os [(q, none)] } a w := by
  have sub : ∀ o x, updO f.os [(q, none)] o = some x → f.os o = some x := by
    intro o x hx
    simp only [updO] at hx
    split at hx
    · cases hx
    · exact hx
  exact ⟨h.tm, h.sz, h.df, fun o x hx => h.ob o x (sub o x hx), fun o x hx => h.own o x (sub o x hx), fun o o' x x' h1 h2 => h.inj o o' x x' (sub _ _ h1) (sub _ _ h2), h.sb, h.sn, h.un, h.fr, h.fo, h.gv, h.s0, h.hj⟩

theorem le_put {x : Option Loc} (hnone : ι id = none) : ι.le (fun o => if o = id then some x else ι o) := by
  intro o y hy
  by_cases e : o = id
  · subst e; rw [hnone] at hy; cases hy
  · simp [e, hy]

/-- a number for an empty list -/
theorem Inv.void (h : Inv C S ι un f a w) (hid : un id) (p : Bool) :
    ∃ ι', ι.le ι' ∧ ι' id = some none ∧ Inv C S ι' (fun o => un o ∧ o ≠ id) { f with os := updO f.os [(id, some (.rows p []))] } a w := by
  have hnone := h.un id hid
  refine ⟨fun o => if o = id then some none else ι o, le_put hnone, by simp, ?_⟩
  have hι := le_put (x := none) hnone
  have hw : SameOn S w w := fun _ _ => rfl
  refine h.turn (fun _ x => x) hw hι ?_ ?_ ?_ h.sb h.sn (fun o ho => ?_) h.fr
  · intro o y hy
    simp only [updO] at hy
    by_cases e : o = id
    · subst e
      simp only [if_true, Option.some.injEq] at hy
      subst hy
      exact .inl ⟨by simp, rfl⟩
    · simp only [e, if_false] at hy
      exact (h.ob o y hy).mono (fun _ x => x) hw hι (fun _ _ _ _ _ => rfl)
  · intro o y hy hly l' hl' b hb
    simp only [updO] at hy
    by_cases e : o = id
    · subst e; simp at hl'
    · simp only [e, if_false] at hy hl'
      exact h.own o y hy hly l' hl' b hb
  · intro o1 o2 y1 y2 hy1 hy2 hl1 hl2 l1 l2 e1 e2 b hb hb2
    simp only [updO] at hy1 hy2
    by_cases e : o1 = id
    · subst e; simp at e1
    · by_cases e' : o2 = id
      · subst e'; simp at e2
      · simp only [e, e', if_false] at hy1 hy2 e1 e2
        exact h.inj o1 o2 y1 y2 hy1 hy2 hl1 hl2 l1 l2 e1 e2 b hb hb2
  · simp only [ho.2, if_false]; exact h.un o ho.1

theorem Inv.notId (h : Inv C S ι un f a w) (hid : un id) {q : Nat} {x : AO} (hq : f.os q = some x) : q ≠ id := by
  intro e
  subst e
  have hnone := h.un q hid
  have := h.ob q x hq
  cases x with
  | rows p rs => rcases this with ⟨e, _⟩ | ⟨l, vals, e, _⟩ <;> (rw [hnone] at e; cases e)
  | froz rs => rcases this with ⟨e, _⟩ | ⟨l, vals, e, _⟩ <;> (rw [hnone] at e; cases e)
  | mapo p es => obtain ⟨l, xs, c, e, _⟩ := this; rw [hnone] at e; cases e
  | fmap z fs hh => obtain ⟨l, xs, c, e, _⟩ := this; rw [hnone] at e; cases e
  | lit rs => obtain ⟨l, vals, e, _⟩ := this; rw [hnone] at e; cases e

/-- an object goes on under another number -/
theorem Inv.move (h : Inv C S ι un f a w) (hid : un id) {q : Nat} {x x' : AO} {l l' : Loc} (hq : f.os q = some x) (hlive : x.live = true) (hl : ι q = some (some l)) (hb : ∀ b, foot w x' l' b → foot w x l b)
    (hok : ∀ ι' : Imap, ι.le ι' → ι' id = some (some l') → ObjOk S w ι' id x') :
    ∃ ι', ι.le ι' ∧ ι' id = some (some l') ∧ Inv C S ι' (fun o => un o ∧ o ≠ id) { f with os := updO f.os [(id, some x'), (q, none)] } a w := by
  have hnone := h.un id hid
  have hι := le_put (x := some l') hnone
  refine ⟨fun o => if o = id then some (some l') else ι o, hι, by simp, ?_⟩
  have hw : SameOn S w w := fun _ _ => rfl
  have ho := h.own q x hq hlive l hl
  refine h.turn (fun _ x => x) hw hι ?_ ?_ ?_ h.sb h.sn (fun o ho => ?_) h.fr
  · intro o y hy
    simp only [updO] at hy
    by_cases e : o = id
    · subst e
      simp only [if_true, Option.some.injEq] at hy
      subst hy
      exact hok _ hι (by simp)
    · simp only [e, if_false] at hy
      split at hy
      · cases hy
      · exact (h.ob o y hy).mono (fun _ x => x) hw hι (fun _ _ _ _ _ => rfl)
  · intro o y hy hly l2 hl2 b hb2
    simp only [updO] at hy
    by_cases e : o = id
    · subst e
      simp only [if_true, Option.some.injEq] at hl2
      subst hl2
      simp only [if_true, Option.some.injEq] at hy
      subst hy
      exact ho b (hb b hb2)
    · simp only [e, if_false] at hy hl2
      split at hy
      · cases hy
      · exact h.own o y hy hly l2 hl2 b hb2
  · intro o1 o2 y1 y2 hy1 hy2 hl1 hl2 l1 l2 e1 e2 b hb1 hb2
    simp only [updO] at hy1 hy2
    by_cases e : o1 = id <;> by_cases e' : o2 = id
    · rw [e, e']
    · subst e
      simp only [if_true, Option.some.injEq] at e1
      simp only [e', if_false] at hy2 e2
      split at hy2
      · cases hy2
      · rename_i hne
        simp only [if_true, Option.some.injEq] at hy1
        subst e1; subst hy1
        exact absurd (h.inj o2 q y2 x hy2 hq hl2 hlive l2 l e2 hl b hb2 (hb b hb1)) hne
    · subst e'
      simp only [if_true, Option.some.injEq] at e2
      simp only [e, if_false] at hy1 e1
      split at hy1
      · cases hy1
      · rename_i hne
        simp only [if_true, Option.some.injEq] at hy2
        subst e2; subst hy2
        exact absurd (h.inj o1 q y1 x hy1 hq hl1 hlive l1 l e1 hl b hb1 (hb b hb2)) hne
    · simp only [e, e', if_false] at hy1 hy2 e1 e2
      split at hy1
      · cases hy1
      · split at hy2
        · cases hy2
        · exact h.inj o1 o2 y1 y2 hy1 hy2 hl1 hl2 l1 l2 e1 e2 b hb1 hb2
  · simp only [ho.2, if_false]; exact h.un o ho.1

theorem hidW (hid : ∀ x, id ≤ x → x < id + W → un x) : un id := hid id (Nat.le_refl _) (by simp [W])
theorem unW {x : Nat} (hx : un x ∧ ¬ (id ≤ x ∧ x < id + W)) : un x ∧ x ≠ id := ⟨hx.1, fun e => hx.2 ⟨by omega, by subst e; simp [W]⟩⟩

theorem cell_new (w : World) (cells : Array Value) (e : TypeId) (fr : Nat × Nat) (j : Nat) : (w.alloc (.cells cells e fr)).cell? ⟨w.heap.size, j, none⟩ = cells[j]? := by
  have h : (w.alloc (.cells cells e fr)).heap[w.heap.size]? = some (.cells cells e fr) := by show (w.heap.push _)[w.heap.size]? = _; simp
  unfold World.cell?
  simp only [h]
  rfl
theorem frozen_new (w : World) (cells : Array Value) (e : TypeId) (fr : Nat × Nat) (j : Nat) : (w.alloc (.cells cells e fr)).frozen? ⟨w.heap.size, j, none⟩ = decide (fr.1 ≤ j ∧ j < fr.2) := by
  have h : (w.alloc (.cells cells e fr)).heap[w.heap.size]? = some (.cells cells e fr) := by show (w.heap.push _)[w.heap.size]? = _; simp
  unfold World.frozen?
  simp only [h]
  simp

/-- a new row, and a list of it -/
theorem rows_new {z : Nat} {fr : Nat × Nat} {p : Bool} {rs : List (List AV)} {us rest : List Value} {esz cap : Nat} {e : TypeId} {cells : Array Value} {D : List (Nat × Option AO)} {w1 : World}
    (hn : Goes C un id o f (.osw id z) ((id, some (.rows p rs)) :: D) next) (h : Inv C S ι un f a w) (hd : ∀ d, o.dst = some d → C.N.lo ≤ d ∧ d < C.N.n) (hid : ∀ x, id ≤ x → x < id + W → un x)
    (hD : D = [] ∨ ∃ q, D = [(q, none)]) (hF : Flat p S w ι esz rs us) (hc : cells.toList = us ++ rest) (h1 : rs.length ≤ cap) (h2 : cap * esz ≤ cells.size) (h3 : rs.length ≤ LIM) (hz : rs.length = 0 → esz = z)
    (hw1 : w1 = w ∨ w1 = w.drew) (hrun : (execOp a.eval o).run P w = .ok (.value (.slice (some ⟨w.heap.size, 0, none⟩) rs.length cap)) (w1.alloc (.cells cells e fr))) (hfr : ∀ j, (j < cells.size ∨ esz ≠ 1) → ¬ (fr.1 ≤ j ∧ j < fr.2)) : o.wp P a w next Q := by
  unfold Oper.wp
  rw [hrun, Oper.upon_value]
  have hD' : Inv C S ι un { f with os := updO f.os D } a w := by
    rcases hD with rfl | ⟨q, rfl⟩
    · exact h
    · exact h.del q
  have hinv1 : Inv C S ι un { f with os := updO f.os D } a w1 := by
    rcases hw1 with rfl | rfl
    · exact hD'
    · exact hD'.drew
  have hsz : w1.heap.size = w.heap.size := by rcases hw1 with rfl | rfl <;> rfl
  have hsame : SameOn S w w1 := by intro b hb; rcases hw1 with rfl | rfl <;> rfl
  have hlen : us.length ≤ cells.size := by rw [← Array.length_toList, hc]; simp
  have hcell : ∀ (j : Nat) v, us[j]? = some v → cellOf (w1.alloc (.cells cells e fr)) w1.heap.size (0 + j) = some v := by
    intro j v hv
    simp only [cellOf, Nat.zero_add]
    rw [cell_new]
    rw [← Array.getElem?_toList, hc, List.getElem?_append_left (lt_of_get hv)]
    exact hv
  obtain ⟨ι', hle, hι', hinv⟩ := hinv1.alloc (hidW hid) (.cells cells e fr) ⟨w1.heap.size, 0, esz, cells.size, rs.length⟩ rfl (.rows p rs) rfl (fun _ h => foot_one rfl h) (fun ι' hle hι' => by
    have hF' : Flat p S (w1.alloc (.cells cells e fr)) ι' esz rs us := hF.mono (fun _ x => x) (fun b hb => by rw [old_alloc w1 _ b (by rw [hsz]; exact h.sb b hb)]; exact hsame b hb) hle
    refine .inr ⟨_, _, hι', rfl, fun j => ⟨fun hj => ?_, fun hj => ?_⟩, Flat.at (l := ⟨w1.heap.size, 0, esz, cells.size, rs.length⟩) hF' hcell (by
      have : rs.length * esz ≤ cap * esz := Nat.mul_le_mul_right _ h1
      simp only; omega), hF'.rows⟩
    · simp only at hj
      refine ⟨cells[j]'(by omega), ?_⟩
      simp only [cellOf]; rw [cell_new]; exact Array.getElem?_eq_getElem (by omega)
    · simp only at hj
      rw [frozen_new]; exact decide_eq_false (hfr j hj))
  refine Inv.goes hn hinv (fun x hx => unW hx) ?_ hd
  rw [← hsz]
  exact Rep.osw id z cap _ _ hι' h1 (by simp only; omega) h3 (fun h0 _ => hz h0) (fun _ => rfl)

/-- a list that grows where it is -/
theorem rows_grow {z : Nat} {p q : Bool} {rs ys : List (List AV)} {us : List Value} {k cap : Nat} {l : Loc}
    (hn : Goes C un id o f (.osw id z) [(id, some (.rows (p && q) (rs ++ ys))), (k, none)] next) (h : Inv C S ι un f a w) (hd : ∀ d, o.dst = some d → C.N.lo ≤ d ∧ d < C.N.n) (hid : ∀ x, id ≤ x → x < id + W → un x)
    (ho : f.os k = some (.rows p rs)) (hl : ι k = some (some l)) (hF : Flat q S w ι l.esz ys us) (h1 : rs.length + ys.length ≤ cap) (h2 : l.base + cap * l.esz ≤ l.size) (h3 : rs.length + ys.length ≤ LIM) (hz : rs.length + ys.length = 0 → l.esz = z)
    (hrun : (execOp a.eval o).run P w = .ok (.value (.slice (some ⟨l.blk, l.base, none⟩) (rs.length + ys.length) cap)) (w.setCells l.blk (l.base + rs.length * l.esz) us)) : o.wp P a w next Q := by
  unfold Oper.wp
  rw [hrun, Oper.upon_value]
  rcases h.ob k _ ho with ⟨e, _⟩ | ⟨l', vals, e, hcnt, hm, hat, hrep⟩
  · rw [e] at hl; cases hl
  · rw [e] at hl; injection hl with hl; injection hl with hl; subst hl
    have hne := h.notId (hidW hid) ho
    have hul := hF.len
    have hsp : l'.base + rs.length * l'.esz + us.length ≤ l'.size := by
      have : (rs.length + ys.length) * l'.esz ≤ cap * l'.esz := Nat.mul_le_mul_right _ h1
      rw [Nat.add_mul] at this
      omega
    have hout : ∀ j, j < rs.length * l'.esz → cellOf (w.setCells l'.blk (l'.base + rs.length * l'.esz) us) l'.blk (l'.base + j) = cellOf w l'.blk (l'.base + j) := by
      intro j hj
      exact World.cell?_setCells_out l'.blk us _ w _ (fun _ _ => .inl (by simp only; omega))
    have hin : ∀ (j : Nat) v, us[j]? = some v → cellOf (w.setCells l'.blk (l'.base + rs.length * l'.esz) us) l'.blk (l'.base + rs.length * l'.esz + j) = some v := by
      intro j v hv
      have hj := lt_of_get hv
      have := World.cell?_setCells_in l'.blk us (l'.base + rs.length * l'.esz) w (fun i hi => by
        obtain ⟨u, hu⟩ := (hm (l'.base + rs.length * l'.esz + i)).1 (by omega)
        simp only [cellOf] at hu; rw [hu]; rfl) j hj
      rw [List.getElem?_eq_getElem hj] at hv
      injection hv with hv
      rw [← hv]; exact this
    have hat' : RowsAt (w.setCells l'.blk (l'.base + rs.length * l'.esz) us) l' rs.length vals := by
      refine ⟨hat.1, hat.2.1, fun i j v hi hv => ?_⟩
      have hlt : i * l'.esz + j < rs.length * l'.esz := by
        have h5 := hat.2.1 i hi
        have h6 := lt_of_get hv
        have : (i + 1) * l'.esz ≤ rs.length * l'.esz := Nat.mul_le_mul_right _ hi
        rw [Nat.add_mul] at this
        omega
      rw [hout _ hlt]
      exact hat.2.2 i j v hi hv
    have hinv1 := h.writes ho rfl e (x' := .rows p rs) rfl (l'.base + rs.length * l'.esz) us (fun hw =>
      .inr ⟨l', vals, e, hcnt, hm.setCells _ _, hat', hrep.mono (fun _ x => x) hw (Imap.le_refl _)⟩)
    obtain ⟨hO, hS, hlt⟩ := h.own k _ ho rfl l' e _ (.inl rfl)
    have hw : SameOn S w (w.setCells l'.blk (l'.base + rs.length * l'.esz) us) := sameOn_setCells hS h.sb _ us
    obtain ⟨ι', hle, hι', hinv⟩ := hinv1.move (id := id) (hidW hid) (q := k) (x := .rows p rs) (x' := .rows (p && q) (rs ++ ys)) (l := l') (l' := ⟨l'.blk, l'.base, l'.esz, l'.size, rs.length + ys.length⟩)
      (by simp [updO]) rfl e (fun _ h => by have := foot_one rfl h; exact .inl this) (fun ι' hle hι' => by
        obtain ⟨us0, hF0, hc0⟩ := flat_of (cell := cellOf (w.setCells l'.blk (l'.base + rs.length * l'.esz) us) l'.blk) rs vals l'.base hat'.2.1 (fun i j v hi hv => hat'.2.2 i j v hi hv)
          (hrep.mono (fun _ x => x) hw hle)
        have hFF := hF0.append (hF.mono (fun _ x => x) hw hle)
        refine .inr ⟨_, _, hι', by simp, hm.setCells _ _, Flat.at (l := ⟨l'.blk, l'.base, l'.esz, l'.size, rs.length + ys.length⟩) hFF (fun j v hv => ?_) ?_, hFF.rows⟩
        · by_cases hj : j < us0.length
          · rw [List.getElem?_append_left hj] at hv
            exact hc0 j v hv
          · rw [List.getElem?_append_right (by omega)] at hv
            have := hin _ v hv
            have h7 := hF0.len
            rw [show l'.base + rs.length * l'.esz + (j - us0.length) = l'.base + j by omega] at this
            exact this
        · simp only [List.length_append]
          have : (rs.length + ys.length) * l'.esz ≤ cap * l'.esz := Nat.mul_le_mul_right _ h1
          omega)
    have hinv' : Inv C S ι' (fun o => un o ∧ o ≠ id) { f with os := updO f.os [(id, some (.rows (p && q) (rs ++ ys))), (k, none)] } a (w.setCells l'.blk (l'.base + rs.length * l'.esz) us) := by
      have e1 : updO (updO f.os [(k, some (AO.rows p rs))]) [(id, some (.rows (p && q) (rs ++ ys))), (k, none)] = updO f.os [(id, some (.rows (p && q) (rs ++ ys))), (k, none)] := by
        funext x
        simp only [updO]
        split
        · rfl
        · split
          · rfl
          · rfl
      rw [show ({ f with os := updO (updO f.os [(k, some (AO.rows p rs))]) [(id, some (.rows (p && q) (rs ++ ys))), (k, none)] } : FS) = { f with os := updO f.os [(id, some (.rows (p && q) (rs ++ ys))), (k, none)] } by rw [e1]] at hinv
      exact hinv
    refine Inv.goes hn hinv' (fun x hx => unW hx) ?_ hd
    exact Rep.osw id z cap _ _ hι' h1 h2 h3 (fun h0 _ => hz h0) (fun _ => rfl)

theorem rowT_inv {t : TypeId} {sz : Nat} (h : rowT P t = some sz) : ∃ e i z, P.underlying t = some (.slice e) ∧ P.info? e = some i ∧ i.zero = some z ∧ i.bytes ≤ 131072 ∧ i.size = sz ∧ z.cells.size = sz := by
  unfold rowT at h
  split at h
  · rename_i e ht
    split at h
    · rename_i i hi
      split at h
      · rename_i z hz
        split at h
        · rename_i hc
          simp only [Bool.and_eq_true, decide_eq_true_eq] at hc
          injection h with h
          exact ⟨e, i, z, ht, hi, hz, hc.1, h, by omega⟩
        · cases h
      · cases h
    · cases h
  · cases h

theorem listT_inv {t : TypeId} (h : listT P t = true) : (∃ e', P.underlying t = some (.slice e')) ∨ P.underlying t = some .string := by
  unfold listT at h
  split at h
  · rename_i e ht; exact .inl ⟨e, ht⟩
  · rename_i ht; exact .inr ht
  · cases h

theorem src_of {esz : Nat} {tx : TypeId} {v : Value} {q : Bool} {ys : List (List AV)} {us : List Value} (htx : listT P tx = true) (hF : Flat q S w ι esz ys us) (hs : Src2 P w esz v ys.length ys.length us) :
    Src P esz tx v ys.length us w :=
  ⟨listT_inv htx, hs.len, hs.cells w rfl, hs.cells w.drew rfl, hF.len, hF.one⟩

theorem run_append_zero {t tx ty : TypeId} {esz : Nat} {base : Option Addr} {sLen sCap : Nat} {x : Value} (ht : rowT P t = some esz) (hs : Src P esz tx x 0 [] w) (hc : sLen ≤ sCap) :
    (Builtin.append_ #[t, tx] ty #[.slice base sLen sCap, x]).run P w = .ok (.slice base sLen sCap) w := by
  obtain ⟨e, i, z, ht', hi, hz, _, hsz, _⟩ := rowT_inv ht
  subst hsz
  clear ht
  rcases hs.kind with ⟨e', hk⟩ | hk <;> cases base <;>
    simp [Builtin.append_, run_underlying ht', run_underlying hk, sizeOf, typeInfo, hi, hs.len, hc, hs.cells, storeCells]

theorem run_app {s x : Operand} {t tx : TypeId} {v : Value} {w' : World} (hop : o.op = .call { callee := .builtin .append, args := #[s, x], argTypes := #[t, tx] })
    (h : ∀ ty, (Builtin.append_ #[t, tx] ty #[a.eval s, a.eval x]).run P w = .ok v w') : (execOp a.eval o).run P w = .ok (.value v) w' := by
  unfold execOp; rw [hop]
  simp [resolve, invoke, builtin, h]

theorem need_fits {need old bytes : Nat} (h : old < need) (hn : need ≤ LIM) (hb : bytes ≤ 131072) : Builtin.nextslicecap need old * bytes ≤ 281474976710656 := by
  refine growslice_fits h ?_
  have := Nat.mul_le_mul hn hb
  simp only [LIM] at this
  omega

/-- an append that finds no room -/
theorem app_grow {p q : Bool} {rs ys : List (List AV)} {us vs : List Value} {esz : Nat} {base : Option Addr} {sCap : Nat} {t tx : TypeId} {s x : Operand} {D : List (Nat × Option AO)}
    (hop : o.op = .call { callee := .builtin .append, args := #[s, x], argTypes := #[t, tx] }) (hn : Goes C un id o f (.osw id esz) ((id, some (.rows (p && q) (rs ++ ys))) :: D) next) (h : Inv C S ι un f a w)
    (hd : ∀ d, o.dst = some d → C.N.lo ≤ d ∧ d < C.N.n) (hid : ∀ x, id ≤ x → x < id + W → un x) (hD : D = [] ∨ ∃ q, D = [(q, none)]) (ht : rowT P t = some esz) (htx : listT P tx = true)
    (hv : a.eval s = .slice base rs.length sCap) (hF : Flat p S w ι esz rs us) (hs : Src2 P w esz (.slice base rs.length sCap) rs.length rs.length us)
    (hG : Flat q S w ι esz ys vs) (hs' : Src2 P w esz (a.eval x) ys.length ys.length vs) (hg : sCap < rs.length + ys.length) (hlim : rs.length + ys.length ≤ LIM) : o.wp P a w next Q := by
  obtain ⟨e, i, z, ht', hi, hz, hb, hsz, hzs⟩ := rowT_inv ht
  subst hsz
  have hrun := fun ty => run_append_grow_src (P := P) w t tx ty e i z ht' hi hz base rs.length sCap us (hs.cells w.drew rfl) (a.eval x) ys.length vs (src_of htx hG hs') hg
    (by simp only [LIM] at hlim; omega) (need_fits hg hlim hb)
  rw [← hv] at hrun
  have hl1 := hF.len
  have hl2 := hG.len
  have hge := grownCap_ge w (rs.length + ys.length) sCap e
  refine rows_new hn h hd hid hD (hF.append hG) (cells := (us ++ vs).toArray ++ Builtin.zeroCells z.cells (grownCap w (rs.length + ys.length) sCap e - (rs.length + ys.length))) (rest := (Builtin.zeroCells z.cells (grownCap w (rs.length + ys.length) sCap e - (rs.length + ys.length))).toList)
    (cap := grownCap w (rs.length + ys.length) sCap e) (e := e) (w1 := w.drew) (by simp) (by simpa using hge) ?_ (by simpa using hlim) (fun _ => rfl) (.inr rfl) (by
      have := run_app (P := P) (w := w) hop hrun
      simpa using this) (fun j _ h => by simp at h)
  simp only [Array.size_append, List.size_toArray, List.length_append, size_zeroCells, hl1, hl2, hzs]
  rw [← Nat.add_mul, ← Nat.add_mul]
  exact Nat.mul_le_mul_right _ (by omega)

theorem listA_rows {ol : Nat → Option AO} {k z : Nat} {p : Bool} {rs : List (List AV)} (h : ol k = some (.rows p rs)) : listA ol (.osw k z) = some (p, rs, [k]) := by simp only [listA, h]

theorem app_esl {t tx : TypeId} {s x : Operand} {q : Bool × List (List AV) × List Nat} {sz : Nat} (hop : o.op = .call { callee := .builtin .append, args := #[s, x], argTypes := #[t, tx] })
    (hn : Goes C un id o f (.osw id sz) [(id, some (.rows q.1 q.2.1))] next) (h : Inv C S ι un f a w) (hd : ∀ d, o.dst = some d → C.N.lo ≤ d ∧ d < C.N.n) (hid : ∀ x, id ≤ x → x < id + W → un x)
    (hs : (evA C.G f.g) s = .esl) (hx : listA f.os ((evA C.G f.g) x) = some q) (ht : rowT P t = some sz) (htx : listT P tx = true) (hr : ∀ r, r ∈ q.2.1 → r.length = sz) (hlim : q.2.1.length ≤ LIM) : o.wp P a w next Q := by
  obtain ⟨qp, ys, ro⟩ := q
  simp only at *
  have hsv := h.ev s
  rw [hs] at hsv
  obtain ⟨base, hv⟩ : ∃ base, a.eval s = .slice base 0 0 := by
    generalize a.eval s = v at hsv
    cases hsv with | imm _ _ hh => cases hh with | esl b => exact ⟨b, rfl⟩
  obtain ⟨vs, hG, hs'⟩ := src_ok (P := P) h.ob (h.ev x) hx hr ys.length (Nat.le_refl _)
  rw [List.take_length] at hG
  by_cases h0 : ys.length = 0
  · have hy : ys = [] := List.length_eq_zero_iff.1 h0
    subst hy
    have hvs : vs = [] := List.length_eq_zero_iff.1 (by rw [hG.len]; simp)
    subst hvs
    have hrun := run_app (P := P) (w := w) (a := a) hop (fun ty => by rw [hv]; exact run_append_zero ht (src_of htx hG hs') (Nat.le_refl _))
    unfold Oper.wp
    rw [hrun, Oper.upon_value]
    obtain ⟨ι', hle, hι', hinv⟩ := h.void (hidW hid) qp
    exact Inv.goes hn hinv (fun x hx => unW hx) (.oswv id _ base hι') hd
  · refine app_grow (p := true) (rs := []) (us := []) hop (by simpa using hn) h hd hid (.inl rfl) ht htx hv Flat.nil ⟨fun _ => rfl, fun w' _ => firstCells_zero (by simp) (.inl ⟨_, _, _, rfl⟩) w'⟩ hG hs' (by simp; omega) (by simpa using hlim)

theorem app_osw {t tx : TypeId} {s x : Operand} {q : Bool × List (List AV) × List Nat} {sz k z : Nat} {p : Bool} {rs : List (List AV)} (hop : o.op = .call { callee := .builtin .append, args := #[s, x], argTypes := #[t, tx] })
    (hn : Goes C un id o f (.osw id sz) [(id, some (.rows (p && q.1) (rs ++ q.2.1))), (k, none)] next) (h : Inv C S ι un f a w) (hd : ∀ d, o.dst = some d → C.N.lo ≤ d ∧ d < C.N.n) (hid : ∀ x, id ≤ x → x < id + W → un x)
    (hs : (evA C.G f.g) s = .osw k z) (hzz : z = sz) (ho : f.os k = some (.rows p rs)) (hx : listA f.os ((evA C.G f.g) x) = some q) (ht : rowT P t = some sz) (htx : listT P tx = true) (hr : ∀ r, r ∈ q.2.1 → r.length = sz)
    (hr' : ∀ r, r ∈ rs → r.length = sz) (hlim : rs.length + q.2.1.length ≤ LIM) : o.wp P a w next Q := by
  obtain ⟨qp, ys, ro⟩ := q
  simp only at *
  have hsv := h.ev s
  rw [hs] at hsv
  obtain ⟨vs, hG, hs'⟩ := src_ok (P := P) h.ob (h.ev x) hx hr ys.length (Nat.le_refl _)
  rw [List.take_length] at hG
  obtain ⟨us, hF, hsr⟩ := src_ok (P := P) h.ob hsv (listA_rows ho) hr' rs.length (Nat.le_refl _)
  rw [List.take_length] at hF
  have hzero : ∀ base cap, ys = [] → a.eval s = .slice base rs.length cap → rs.length ≤ cap → (execOp a.eval o).run P w = .ok (.value (.slice base rs.length cap)) w := by
    intro base cap hy hv hc
    subst hy
    have hvs : vs = [] := List.length_eq_zero_iff.1 (by rw [hG.len]; simp)
    subst hvs
    exact run_app (P := P) (w := w) (a := a) hop (fun ty => by rw [hv]; exact run_append_zero ht (src_of htx hG hs') hc)
  rcases osw_inv hsv with ⟨l, ad, cap, e, hv, h1, h2, h3, hz9, ha⟩ | ⟨e, base, hv⟩
  · have hcnt : rs.length = l.cnt := by
      rcases h.ob k _ ho with ⟨e', _⟩ | ⟨l', vals, e', hcnt, _⟩
      · rw [e] at e'; cases e'
      · rw [e] at e'; injection e' with e'; injection e' with e'; subst e'; exact hcnt
    rw [← hcnt] at hv h1 h3
    by_cases h0 : ys.length = 0
    · have hy : ys = [] := List.length_eq_zero_iff.1 h0
      have hrun := hzero _ _ hy hv h1
      subst hy
      unfold Oper.wp
      rw [hrun, Oper.upon_value]
      rcases h.ob k _ ho with ⟨e', _⟩ | ⟨l', vals, e', hcnt', hm, hat, hrep⟩
      · rw [e] at e'; cases e'
      · rw [e] at e'; injection e' with e'; injection e' with e'; subst e'
        obtain ⟨ι', hle, hι', hinv⟩ := h.move (id := id) (hidW hid) (q := k) (x := .rows p rs) (x' := .rows (p && qp) (rs ++ [])) (l := l) (l' := l) ho rfl e (fun _ h => by have := foot_one rfl h; exact .inl this) (fun ι' hle hι' => by
          refine .inr ⟨l, vals, hι', by simpa using hcnt, hm, by simpa using hat, ?_⟩
          intro i r hri
          rw [List.append_nil] at hri
          have h5 : RepP p S w ι r (vals i) := hrep i r hri
          exact (h5.mono (fun _ x => x) (fun _ _ => rfl) hle).weak (fun e => by simp at e; exact e.1))
        refine Inv.goes hn hinv (fun x hx => unW hx) ?_ hd
        have := Rep.osw (S := S) (w := w) id z cap ad l hι' (by omega) h2 (by omega) hz9 ha
        rw [hzz] at this
        rw [← hcnt] at this
        exact this
    · by_cases hroom : rs.length + ys.length ≤ cap
      · have had := ha (by omega)
        subst had
        rcases h.ob k _ ho with ⟨e', _⟩ | ⟨l', vals, e', hcnt', hm, hat, hrep⟩
        · rw [e] at e'; cases e'
        · rw [e] at e'; injection e' with e'; injection e' with e'; subst e'
          obtain ⟨el, i, z, ht', hi, hz, hb, hsz, hzs⟩ := rowT_inv ht
          have hF2 : Flat qp S w ι l.esz ys vs ∧ i.size = l.esz := by
            by_cases hrs : rs = []
            · have : sz = l.esz := by rw [← hzz]; exact (hz9 (by rw [← hcnt, hrs]; rfl) (by omega)).symm
              subst this
              exact ⟨hG, hsz⟩
            · obtain ⟨r, hrr⟩ := List.exists_mem_of_ne_nil _ hrs
              obtain ⟨j, hj⟩ := List.getElem?_of_mem hrr
              have h6 : r.length = l.esz := by
                have := (hrep.get hj).1
                have := hat.2.1 j (lt_of_get hj)
                omega
              have h7 := hr' r hrr
              have : sz = l.esz := by omega
              subst this
              exact ⟨hG, hsz⟩
          obtain ⟨hF2, hsz2⟩ := hF2
          have hsp : l.base + rs.length * l.esz + vs.length ≤ l.size := by
            have : (rs.length + ys.length) * l.esz ≤ cap * l.esz := Nat.mul_le_mul_right _ hroom
            rw [Nat.add_mul] at this
            rw [hF2.len]; omega
          refine rows_grow hn h hd hid ho e hF2 hroom h2 hlim (fun h => by omega) (run_app hop (fun ty => ?_))
          rw [hv]
          have hsz' : sz = l.esz := by omega
          subst hsz'
          have := run_append_room_src (P := P) w t tx ty el i ht' hi l.blk l.base rs.length cap (a.eval x) ys.length vs (by rw [hsz2]; exact src_of htx hG hs') hroom (fun j hj => by
              obtain ⟨u, hu⟩ := (hm (l.base + rs.length * i.size + j)).1 (by rw [hsz2]; omega)
              simp only [cellOf] at hu; rw [hu]; rfl) (fun j hj => (hm (l.base + rs.length * i.size + j)).2 (.inl (by rw [hsz2]; omega)))
          rw [hsz2] at this
          exact this
      · exact app_grow hop hn h hd hid (.inr ⟨k, rfl⟩) ht htx hv hF (by rw [← hv]; exact hsr) hG hs' (by omega) hlim
  · have hrs : rs = [] := by
      rcases h.ob k _ ho with ⟨_, h⟩ | ⟨l', vals, e', _⟩
      · exact h
      · rw [e] at e'; cases e'
    subst hrs
    by_cases h0 : ys.length = 0
    · have hy : ys = [] := List.length_eq_zero_iff.1 h0
      have hrun := hzero base 0 hy (by simpa using hv) (by simp)
      subst hy
      unfold Oper.wp
      rw [hrun, Oper.upon_value]
      obtain ⟨ι', hle, hι', hinv⟩ := (h.del k).void (hidW hid) (p && qp)
      exact Inv.goes hn hinv (fun x hx => unW hx) (.oswv id _ base hι') hd
    · exact app_grow (sCap := 0) hop hn h hd hid (.inr ⟨k, rfl⟩) ht htx (by simpa using hv) hF (by simpa [hv] using hsr) hG hs' (by simp; omega) hlim
end
end Go.Ab
