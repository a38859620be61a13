/-
  AbOnce: sync.Once, as a contract over trees: done already, or not yet: the function that it is handed is called.
-/
import Derived.Test.YtnofpgegbhegnaaGreatDoorAbTy
namespace Go.Ab

/-- what Do does, of a program whose function f it is -/
def OnceOk (P : Program) (f : Nat) : Prop := callB P f = true ∧
  (∀ (b off g : Nat) (fs cap : Array Value) (w : World) (R : World → Prop), w.cell? ⟨b, off, none⟩ = some (.int .u32 0) → w.cell? ⟨b, off + 1, none⟩ = some (.int .i32 0) →
    w.frozen? ⟨b, off, none⟩ = false → w.frozen? ⟨b, off + 1, none⟩ = false → (∀ w : World, (callFunc g (fs ++ cap)).run P w = .ok (.enter g (fs ++ cap)) w) →
    (Calls P g (fs ++ cap) (w.setCell ⟨b, off + 1, none⟩ (.int .i32 1)) fun e w' => e = .returned (.tuple #[]) ∧ R w') →
    (∀ w', R w' → w'.cell? ⟨b, off, none⟩ = some (.int .u32 0) ∧ w'.cell? ⟨b, off + 1, none⟩ = some (.int .i32 1) ∧ w'.frozen? ⟨b, off, none⟩ = false ∧ w'.frozen? ⟨b, off + 1, none⟩ = false) →
    Calls P f #[.pointer (some ⟨b, off, none⟩), .func (.func g) fs cap] w fun e w' => e = .returned (.tuple #[]) ∧
      ∃ w1, R w1 ∧ w' = (w1.drew.setCell ⟨b, off, none⟩ (.int .u32 1)).setCell ⟨b, off + 1, none⟩ (.int .i32 0)) ∧
  (∀ (a : Addr) (d : Int) (fv : Value) (w : World), d ≠ 0 → w.cell? a = some (.int .u32 d) → Calls P f #[.pointer (some a), fv] w fun e w' => e = .returned (.tuple #[]) ∧ w' = w)

section
variable {Ow S : Nat → Prop} {ι : Imap} {w0 w : World}

/-- objects, written -/
theorem ObjsOk.inv {os : Nat → Option AO} (h : ObjsOk Ow S w ι os) (hfr : Fr Ow w0 w) (hfo : ∀ b, w0.heap.size ≤ b → Ow b) (hsb : ∀ b, S b → b < w.heap.size) :
    Inv ⟨fun _ => none, w0, ⟨0, 0, false⟩, Ow, S, 0, fun _ => none, fun _ _ h => (by cases h), fun _ => undef, [], []⟩ S ι (fun _ => False) ⟨fun _ => .undef, os⟩ { tmps := #[], defers := [] } w :=
  ⟨fun t => .imm _ _ (.undef _), rfl, ⟨rfl, fun t ht => absurd ht (Nat.not_lt_zero t), fun q hq => (by cases hq)⟩, h.ob, h.own, h.inj, hsb, fun b hb => .inl hb, fun o ho => ho.elim, hfr, hfo, fun g row hg => (by cases hg), fun b hb => hb, fun j L e => by cases e⟩

theorem ObjsOk.write {os : Nat → Option AO} (h : ObjsOk Ow S w ι os) (hfr : Fr Ow w0 w) (hfo : ∀ b, w0.heap.size ≤ b → Ow b) (hsb : ∀ b, S b → b < w.heap.size)
    {o : Nat} {p : Bool} {rs : List (List AV)} {row cs : List AV} {vs : List Value} {i c : Nat} {l : Loc} (hx : os o = some (.rows p rs)) (hl : ι o = some (some l)) (hrow : rs[i]? = some row)
    (hvs : RepL S w ι cs vs) (hone : ∀ v, v ∈ vs → v.oneCell' = true) (hc : c + cs.length ≤ row.length) :
    ObjsOk Ow S (w.setCells l.blk (l.base + (i * l.esz + c)) vs) ι (updO os [(o, some (.rows (p && cs.all idFree) (rs.set i (setAt row c cs))))]) ∧ Fr Ow w0 (w.setCells l.blk (l.base + (i * l.esz + c)) vs) := by
  have hi := h.inv hfr hfo hsb
  have hob := h.ob o _ hx
  rcases hob with ⟨q, _⟩ | ⟨l', vals, q, hcnt, hm, hat, hrep⟩
  · rw [q] at hl; cases hl
  · rw [q] at hl; injection hl with hl; injection hl with hl; subst hl
    have hi2 := Inv.writes hi (x' := .rows (p && cs.all idFree) (rs.set i (setAt row c cs))) hx rfl q rfl (l'.base + (i * l'.esz + c)) vs
      (fun hw => rows_write q hcnt hm hat hrep hrow hvs hone hc hw)
    exact ⟨⟨hi2.ob, hi2.own, hi2.inj⟩, hi2.fr⟩

theorem ObjsOk.drew {os : Nat → Option AO} (h : ObjsOk Ow S w ι os) (hfr : Fr Ow w0 w) (hfo : ∀ b, w0.heap.size ≤ b → Ow b) (hsb : ∀ b, S b → b < w.heap.size) :
    ObjsOk Ow S w.drew ι os ∧ Fr Ow w0 w.drew := by
  have hi := (h.inv hfr hfo hsb).drew
  exact ⟨⟨hi.ob, hi.own, hi.inj⟩, hi.fr⟩
end

theorem upd_head (x y : AO) (rest : Os) : updO (lk ((0, x) :: rest)) [(0, some y)] = lk ((0, y) :: rest) := by
  funext o
  simp only [updO, lk]
  split <;> rfl

theorem row_cell {S : Nat → Prop} {w : World} {ι : Imap} {o : Nat} {p : Bool} {rs : List (List AV)} (h : ObjOk S w ι o (.rows p rs)) {i c : Nat} {row : List AV} {l : Loc} (hl : ι o = some (some l))
    (hrow : rs[i]? = some row) {k : IntKind} {n : Int} (hx : row[c]? = some (.int k n)) :
    w.cell? ⟨l.blk, l.base + (i * l.esz + c), none⟩ = some (.int k n) ∧ w.frozen? ⟨l.blk, l.base + (i * l.esz + c), none⟩ = false := by
  rcases h with ⟨q, _⟩ | ⟨l', vals, q, hcnt, hm, hat, hrep⟩
  · rw [q] at hl; cases hl
  · rw [q] at hl; injection hl with hl; injection hl with hl; subst hl
    have hi : i < rs.length := lt_of_get hrow
    have hR : RepL S w ι row (vals i) := by
      have := hrep i row hrow
      cases p with
      | false => simpa using this
      | true => simp only [if_true] at this; exact this.rep
    have hlen := hR.1
    have hc : c < (vals i).length := by rw [← hlen]; exact lt_of_get hx
    have hv : (vals i)[c]? = some (vals i)[c] := List.getElem?_eq_getElem hc
    have h1 := hat.2.2 i c _ hi hv
    have h2 := (hR.2 c _ _ hx hv).int_inv
    refine ⟨by rw [← h2]; exact h1.1, ?_⟩
    have he := hat.2.1 i hi
    have h3 := hat.1
    have h4 : (i + 1) * l'.esz ≤ rs.length * l'.esz := Nat.mul_le_mul_right _ hi
    rw [Nat.add_mul] at h4
    exact (hm _).2 (.inl (by omega))

theorem FC_once_done {P : Program} {G : Gmap} {f : Nat} {p : Bool} {rs : List (List AV)} {rest : Os} {i c : Nat} {row : List AV} {d : Int} {x : AV} (hO : OnceOk P f)
    (hW : (((0, AO.rows p rs) :: rest).all (fun e => decide (e.1 < W)) && decide (((0, AO.rows p rs) :: rest).length ≤ W)) = true)
    (hrow : rs[i]? = some row) (h0 : row[c]? = some (.int .u32 d)) (hd : d ≠ 0) : FC P G f ((0, .rows p rs) :: rest) [.ptr 0 i c, x] (.tup []) ((0, .rows p rs) :: rest) := by
  rw [Bool.and_eq_true, decide_eq_true_eq] at hW
  refine ⟨hO.1, fun o y hy => ?_, fun S0 ι0 w0 vs hs0 hG hob hι hL => ?_⟩
  · have := List.all_eq_true.1 hW.1 _ (lk_mem hy)
    simpa using this
  obtain ⟨vs⟩ := vs
  obtain ⟨hlen, hrep⟩ := hL
  match vs, hlen with
  | [v0, v1], _ =>
    obtain ⟨l, hl, rfl⟩ := (hrep 0 _ v0 rfl rfl).ptr_inv
    have hc := row_cell (hob.ob 0 (.rows p rs) rfl) hl hrow h0
    refine (hO.2.2 ⟨l.blk, l.base + (i * l.esz + c), none⟩ d v1 w0 hd hc.1).mono ?_
    rintro e w' ⟨rfl, rfl⟩
    exact ⟨_, S0, ι0, rfl, ⟨rfl, rfl, Nat.le_refl _, fun _ _ _ => rfl⟩, fun b hb => ⟨.inl hb, hs0 b hb⟩, fun _ h => h, Imap.le_refl _, fun o ho => hι o (Nat.le_trans hW.2 ho),
      .tup [] #[] rfl (fun j x v h => by simp at h), hob⟩

theorem setCells_one (w : World) (b o : Nat) (v : Value) : w.setCells b o [v] = w.setCell ⟨b, o, none⟩ v := rfl

theorem OwOf_eq {w0 w1 : World} {ι : Imap} {x y : AO} {rest : Os} (hs : w1.heap.size = w0.heap.size) (hxy : y.live = x.live) (hx1 : oneBlk x = true) (hy1 : oneBlk y = true)
    (hr : ∀ o z l, o ≠ 0 → lk ((0, x) :: rest) o = some z → z.live = true → ι o = some (some l) → w1.heap[l.blk]? = w0.heap[l.blk]?) :
    OwOf w1 ι ((0, y) :: rest) = OwOf w0 ι ((0, x) :: rest) := by
  funext b
  unfold OwOf
  rw [hs]
  apply propext
  refine or_congr_right ⟨?_, ?_⟩
  · rintro ⟨o, z, l, h1, h2, h3, h4⟩
    by_cases e : o = 0
    · subst e
      simp only [lk, if_true, Option.some.injEq] at h1
      subst h1
      exact ⟨0, x, l, by simp [lk], by rw [← hxy]; exact h2, h3, .inl (foot_one hy1 h4)⟩
    · have h1' : lk ((0, x) :: rest) o = some z := by simpa [lk, e] using h1
      exact ⟨o, z, l, h1', h2, h3, foot_same (hr o z l e h1' h2 h3) h4⟩
  · rintro ⟨o, z, l, h1, h2, h3, h4⟩
    by_cases e : o = 0
    · subst e
      simp only [lk, if_true, Option.some.injEq] at h1
      subst h1
      exact ⟨0, y, l, by simp [lk], by rw [hxy]; exact h2, h3, .inl (foot_one hx1 h4)⟩
    · exact ⟨o, z, l, by simpa [lk, e] using h1, h2, h3, foot_same (hr o z l e h1 h2 h3).symm h4⟩

theorem FC_once_first {P : Program} {G : Gmap} {f g h : Nat} {p p1 : Bool} {rs rs1 : List (List AV)} {rest rest1 : Os} {caps : List AV} {i c : Nat} {row row1 : List AV} (hO : OnceOk P f) (hgh : h = g ∨ h = FB + g)
    (hW : (((0, AO.rows p rs) :: rest).length ≤ W))
    (hrow : rs[i]? = some row) (h0 : row[c]? = some (.int .u32 0)) (h1 : row[c + 1]? = some (.int .i32 0))
    (hF : FC P G g ((0, .rows p (rs.set i (setAt row (c + 1) [.int .i32 1]))) :: rest) caps (.tup []) ((0, .rows p1 rs1) :: rest1))
    (hrow1 : rs1[i]? = some row1) (h2 : row1[c]? = some (.int .u32 0)) (h3 : row1[c + 1]? = some (.int .i32 1)) :
    FC P G f ((0, .rows p rs) :: rest) [.ptr 0 i c, .fn h caps] (.tup []) ((0, .rows p1 (rs1.set i (setAt (setAt row1 c [.int .u32 1]) (c + 1) [.int .i32 0]))) :: rest1) := by
  obtain ⟨hg1, hg2, hg3⟩ := hF
  refine ⟨hO.1, fun o y hy => ?_, fun S0 ι0 w0 vs hs0 hG hob hι hL => ?_⟩
  · by_cases e : o = 0
    · subst e; unfold W; omega
    · exact hg2 o y (by simpa [lk, e] using hy)
  obtain ⟨vs⟩ := vs
  obtain ⟨hlen, hrep⟩ := hL
  match vs, hlen with
  | [v0, v1], _ =>
    obtain ⟨l, hl, rfl⟩ := (hrep 0 _ v0 rfl rfl).ptr_inv
    obtain ⟨cap, rfl, hcap⟩ := (hrep 1 _ v1 rfl rfl).fn_inv
    have hob0 := hob.ob 0 (.rows p rs) rfl
    obtain ⟨fs, cp, hfv, hfc⟩ : ∃ fs cp : Array Value, fnV h cap = .func (.func g) fs cp ∧ fs ++ cp = cap := by
      rcases hgh with rfl | rfl
      · exact ⟨#[], cap, fnV_lt (callB_lt hg1) _, by simp⟩
      · refine ⟨cap, #[], ?_, by simp⟩
        have hge : Nat.blt (FB + g) FB = false := by
          cases hb : Nat.blt (FB + g) FB with
          | false => rfl
          | true =>
            have := Nat.le_of_ble_eq_true hb
            omega
        unfold fnV
        rw [hge, Nat.add_sub_cancel_left]; rfl
    rw [hfv]
    have c0 := row_cell hob0 hl hrow h0
    have c1 := row_cell hob0 hl hrow h1
    have hfr0 : Fr (OwOf w0 ι0 ((0, .rows p rs) :: rest)) w0 w0 := ⟨rfl, rfl, Nat.le_refl _, fun _ _ _ => rfl⟩
    have hfo : ∀ b, w0.heap.size ≤ b → OwOf w0 ι0 ((0, .rows p rs) :: rest) b := fun b hb => .inl hb
    have hwr := ObjsOk.write (cs := [.int .i32 1]) (vs := [.int .i32 1]) (c := c + 1) hob hfr0 hfo hs0 rfl hl hrow (.cons (.imm _ _ (.int _ _)) .nil) (by simp [Value.oneCell'])
      (by have := lt_of_get h1; simp; omega)
    rw [upd_head, show (p && [AV.int .i32 1].all idFree) = p by simp [idFree]] at hwr
    obtain ⟨hob1, hfr1⟩ := hwr
    rw [setCells_one] at hob1 hfr1
    generalize hw1 : w0.setCell ⟨l.blk, l.base + (i * l.esz + (c + 1)), none⟩ (.int .i32 1) = w1 at hob1 hfr1
    have hsz : w1.heap.size = w0.heap.size := by rw [← hw1]; simp
    have hOw : OwOf w1 ι0 ((0, .rows p (rs.set i (setAt row (c + 1) [.int .i32 1]))) :: rest) = OwOf w0 ι0 ((0, .rows p rs) :: rest) := OwOf_eq hsz rfl rfl rfl (fun o z l' ho hz hlv hl' => by
      rw [← hw1, ← setCells_one]
      exact World.heap_setCells_other w0 _ _ _ (hob.own o z hz hlv l' hl' _ (.inl rfl)).2.2 (fun e => ho (hob.inj o 0 z (.rows p rs) hz rfl hlv rfl l' l hl' hl _ (.inl rfl) (.inl e))))
    have hsame : SameOn S0 w0 w1 := fun b hb => hfr1.old b (hs0 b hb) (fun hO => by
      rcases hO with h | ⟨o, x, l', q1, q2, q3, q4⟩
      · have := hs0 b hb; omega
      · exact (hob.own o x q1 q2 l' q3 b q4).2.1 hb)
    have hcall := hg3 S0 ι0 w1 cap (fun b hb => by rw [hsz]; exact hs0 b hb) (fun g row hg => (hG g row hg).mono (fun _ h => h) hsame) (by rw [hOw]; exact hob1) hι (hcap.mono (fun _ h => h) hsame (Imap.le_refl _))
    rw [hOw] at hcall
    let R : World → Prop := fun w' => ∃ S' ι', Fr (OwOf w0 ι0 ((0, .rows p rs) :: rest)) w1 w' ∧
      (∀ b, S' b → (S0 b ∨ OwOf w0 ι0 ((0, .rows p rs) :: rest) b) ∧ b < w'.heap.size) ∧ (∀ b, S0 b → S' b) ∧ ι0.le ι' ∧ (∀ o, W ≤ o → ι' o = none) ∧ ObjsOk (OwOf w0 ι0 ((0, .rows p rs) :: rest)) S' w' ι' (lk ((0, .rows p1 rs1) :: rest1))
    have hcell : ∀ w', R w' → w'.cell? ⟨l.blk, l.base + (i * l.esz + c), none⟩ = some (.int .u32 0) ∧ w'.cell? ⟨l.blk, l.base + (i * l.esz + c) + 1, none⟩ = some (.int .i32 1) ∧
        w'.frozen? ⟨l.blk, l.base + (i * l.esz + c), none⟩ = false ∧ w'.frozen? ⟨l.blk, l.base + (i * l.esz + c) + 1, none⟩ = false := by
      rintro w' ⟨S', ι', _, _, _, hle, _, hob'⟩
      have hl' := hle _ _ hl
      have a := row_cell (hob'.ob 0 (.rows p1 rs1) rfl) hl' hrow1 h2
      have b := row_cell (hob'.ob 0 (.rows p1 rs1) rfl) hl' hrow1 h3
      exact ⟨a.1, b.1, a.2, b.2⟩
    refine (hO.2.1 l.blk (l.base + (i * l.esz + c)) g fs cp w0 R c0.1 c1.1 c0.2 c1.2 (fun w => callB_run hg1 _ w) ?_ hcell).mono ?_
    · rw [hfc]
      show Calls P g cap (w0.setCell ⟨l.blk, l.base + (i * l.esz + (c + 1)), none⟩ (.int .i32 1)) _
      rw [hw1]
      refine hcall.mono ?_
      rintro e w' ⟨v, S', ι', rfl, q1, q2, q3, q4, q5, q6, q7⟩
      obtain ⟨us, rfl, hus⟩ := q6.tup_inv
      have hu0 : us = #[] := by
        have := hus.1
        simp at this
        exact Array.eq_empty_of_size_eq_zero this.symm
      subst hu0
      exact ⟨rfl, S', ι', q1, q2, q3, q4, q5, q7⟩
    · rintro e w' ⟨rfl, w2, ⟨S', ι', q1, q2, q3, q4, q5, q7⟩, rfl⟩
      have hl' := q4 _ _ hl
      have hfr2 : Fr (OwOf w0 ι0 ((0, .rows p rs) :: rest)) w0 w2 := ⟨q1.os.trans hfr1.os, q1.output.trans hfr1.output, Nat.le_trans hfr1.size q1.size, fun b hb hn => (q1.old b (by omega) hn).trans (hfr1.old b hb hn)⟩
      have hsb : ∀ b, S' b → b < w2.heap.size := fun b hb => (q2 b hb).2
      obtain ⟨hob3, hfr3⟩ := q7.drew hfr2 hfo hsb
      have hlt1 := lt_of_get h3
      have hwr := ObjsOk.write (cs := [.int .u32 1]) (vs := [.int .u32 1]) (c := c) hob3 hfr3 hfo hsb rfl hl' hrow1 (.cons (.imm _ _ (.int _ _)) .nil) (by simp [Value.oneCell'])
        (by simp; omega)
      rw [upd_head, show (p1 && [AV.int .u32 1].all idFree) = p1 by simp [idFree], setCells_one] at hwr
      obtain ⟨hob4, hfr4⟩ := hwr
      have hi1 := lt_of_get hrow1
      have hwr := ObjsOk.write (cs := [.int .i32 0]) (vs := [.int .i32 0]) (c := c + 1) (i := i) (row := setAt row1 c [.int .u32 1]) hob4 hfr4 hfo (fun b hb => by simpa using hsb b hb) rfl hl' (by simp [hi1]) (.cons (.imm _ _ (.int _ _)) .nil) (by simp [Value.oneCell'])
        (by rw [setAt_length _ _ _ (by simp; omega)]; simp; omega)
      rw [upd_head, show (p1 && [AV.int .i32 0].all idFree) = p1 by simp [idFree], setCells_one, List.set_set] at hwr
      obtain ⟨hob5, hfr5⟩ := hwr
      exact ⟨_, S', ι', rfl, hfr5, fun b hb => ⟨(q2 b hb).1, by simpa using hsb b hb⟩, q3, q4, q5, .tup [] #[] rfl (fun j x v h => by simp at h), hob5⟩

/-- what stands at the end may be told anew -/
theorem FC_endG {P : Program} {G : Gmap} {f : Nat} {oin : Os} {args : List AV} {v rv : AV} {os os' : Os} (h : FC P G f oin args v os) (hin : oin.length ≤ W)
    (hos : (os'.all fun e => decide (e.1 < W)) = true) (hE : EndG oin.length rv os' v os) : FC P G f oin args rv os' := by
  refine ⟨h.1, fun o x hx => ?_, fun S0 ι0 w0 vs h0 hG hob hι hL => ?_⟩
  · have := List.all_eq_true.1 hos _ (lk_mem hx)
    simpa using this
  refine (h.2.2 S0 ι0 w0 vs h0 hG hob hι hL).mono ?_
  rintro e w ⟨u, S, ι, rfl, q1, q2, q3, q4, q5, q6, q7⟩
  obtain ⟨os2, σ, hfl, hc⟩ := hE.h
  have him : ∀ j L, ι0 j = some L → j < oin.length := fun j L e => by
    rcases Nat.lt_or_ge j oin.length with q | q
    · exact q
    · rw [hι j q] at e; cases e
  let C' : Cx := ⟨fun _ => none, w0, ⟨0, 1, false⟩, OwOf w0 ι0 oin, S0, oin.length, ι0, him, fun _ => undef, [], []⟩
  have hi' : Inv C' S ι (fun x => W ≤ x) (toFS [(0, v)] os) { tmps := #[u], defers := [] } w := by
    refine ⟨fun t => ?_, rfl, ⟨rfl, fun t ht => absurd ht (Nat.not_lt_zero t), fun q hq => (by cases hq)⟩, q7.ob, q7.own, q7.inj, fun b hb => (q2 b hb).2, fun b hb => (q2 b hb).1, q5, q1, fun b hb => .inl hb, fun g row hg => (by cases hg), q3, fun j L e => q4 j _ e⟩
    cases t with
    | zero => exact q6
    | succ t => exact .imm _ _ (.undef _)
  obtain ⟨ι2, hi2⟩ := (Inv.fills hfl hi').cov hc
  exact ⟨u, S, ι2, rfl, hi2.fr, fun b hb => ⟨hi2.sn b hb, hi2.sb b hb⟩, hi2.s0, fun j L e => hi2.hj j L e, hi2.un, hi2.tm 0, ⟨hi2.ob, hi2.own, hi2.inj⟩⟩

/-- an object is told otherwise -/
theorem Inv.reform {C : Cx} {S : Nat → Prop} {w : World} {ι : Imap} {un : Nat → Prop} {f : FS} {a : Act} (h : Inv C S ι un f a w) {o : Nat} {x x' : AO} (ho : f.os o = some x) (h1 : oneBlk x = true) (h1' : oneBlk x' = true) (hl : x.live = true)
    (hok : ObjOk S w ι o x') : Inv C S ι un { f with os := updO f.os [(o, some x')] } a w := by
  have hosU : ∀ k y, updO f.os [(o, some x')] k = some y → (k = o ∧ y = x') ∨ (k ≠ o ∧ f.os k = some y) := by
    intro k y hy
    simp only [updO] at hy
    by_cases e : k = o
    · rw [if_pos e] at hy; injection hy with hy; exact .inl ⟨e, hy.symm⟩
    · rw [if_neg e] at hy; exact .inr ⟨e, hy⟩
  refine h.turn (fun _ x => x) (fun _ _ => rfl) (Imap.le_refl _) ?_ ?_ ?_ h.sb h.sn h.un h.fr
  · intro k y hy
    rcases hosU k y hy with ⟨rfl, rfl⟩ | ⟨_, h3⟩
    · exact hok
    · exact h.ob k y h3
  · intro k y hy hly l hl' b hb
    rcases hosU k y hy with ⟨rfl, rfl⟩ | ⟨_, h3⟩
    · exact h.own k x ho hl l hl' b (.inl (foot_one h1' hb))
    · exact h.own k y h3 hly l hl' b hb
  · intro k1 k2 y1 y2 hy1 hy2 hv1 hv2 l1 l2 e1 e2 b hb1 hb2
    rcases hosU k1 y1 hy1 with ⟨rfl, rfl⟩ | ⟨_, h3⟩ <;> rcases hosU k2 y2 hy2 with ⟨g0, g⟩ | ⟨_, g3⟩
    · exact g0.symm
    · exact h.inj k1 k2 x y2 ho g3 hl hv2 l1 l2 e1 e2 b (.inl (foot_one h1' hb1)) hb2
    · subst g0; subst g
      exact h.inj k1 k2 y1 x h3 ho hv1 hl l1 l2 e1 e2 b hb1 (.inl (foot_one h1' hb2))
    · exact h.inj k1 k2 y1 y2 h3 g3 hv1 hv2 l1 l2 e1 e2 b hb1 hb2

/-- an empty list that stands in a structure may be told as a list of its own -/
theorem FC_void {P : Program} {G : Gmap} {f : Nat} {oin : Os} {args : List AV} {v : AV} {os os' : Os} (o i c z : Nat) {rs : List (List AV)} {row : List AV} (h : FC P G f oin args v os) (hin : oin.length ≤ W)
    (ho : lk os o = some (.rows false rs)) (hrow : rs[i]? = some row) (hc : row[c]? = some .esl) (hos : (os'.all fun e => decide (e.1 < W)) = true)
    (hE : EndG oin.length v os' v (updL os [(o, some (.rows false (rs.set i (setAt row c [.osw W z])))), (W, some (.rows true []))])) : FC P G f oin args v os' := by
  refine ⟨h.1, fun o x hx => ?_, fun S0 ι0 w0 vs h0 hG hob hι hL => ?_⟩
  · have := List.all_eq_true.1 hos _ (lk_mem hx)
    simpa using this
  refine (h.2.2 S0 ι0 w0 vs h0 hG hob hι hL).mono ?_
  rintro e w ⟨u, S, ι, rfl, q1, q2, q3, q4, q5, q6, q7⟩
  obtain ⟨os2, σ, hfl, hcv⟩ := hE.h
  have him : ∀ j L, ι0 j = some L → j < oin.length := fun j L e => by
    rcases Nat.lt_or_ge j oin.length with q | q
    · exact q
    · rw [hι j q] at e; cases e
  let C' : Cx := ⟨fun _ => none, w0, ⟨0, 1, false⟩, OwOf w0 ι0 oin, S0, oin.length, ι0, him, fun _ => undef, [], []⟩
  have hi' : Inv C' S ι (fun x => W ≤ x) (toFS [(0, v)] os) { tmps := #[u], defers := [] } w := by
    refine ⟨fun t => ?_, rfl, ⟨rfl, fun t ht => absurd ht (Nat.not_lt_zero t), fun q hq => (by cases hq)⟩, q7.ob, q7.own, q7.inj, fun b hb => (q2 b hb).2, fun b hb => (q2 b hb).1, q5, q1, fun b hb => .inl hb, fun g row hg => (by cases hg), q3, fun j L e => q4 j _ e⟩
    cases t with
    | zero => exact q6
    | succ t => exact .imm _ _ (.undef _)
  obtain ⟨ι1, hle, hιW, hi1⟩ := hi'.void (id := W) (Nat.le_refl W) true
  have hoW : o ≠ W := fun e => by have := h.2.1 o _ ho; omega
  have ho1 : ({ toFS [(0, v)] os with os := updO (toFS [(0, v)] os).os [(W, some (.rows true []))] } : FS).os o = some (.rows false rs) := by
    show updO (lk os) [(W, some (.rows true []))] o = _
    simp only [updO, if_neg hoW]; exact ho
  have hob1 := hi1.ob o _ ho1
  have hi2 := hi1.reform (x' := .rows false (rs.set i (setAt row c [.osw W z]))) ho1 rfl rfl rfl (by
    rcases hob1 with ⟨_, h⟩ | ⟨l, vals, h1, h2, h3, h4, h5⟩
    · rw [h] at hrow; simp at hrow
    · refine .inr ⟨l, vals, h1, by simpa using h2, h3, by simpa using h4, fun j r hr => ?_⟩
      simp only [Bool.false_eq_true, if_false]
      by_cases e : i = j
      · subst e
        have hlt := lt_of_get hrow
        rw [List.getElem?_set_self hlt] at hr
        injection hr with hr; subst hr
        have hR := h5 i row hrow
        simp only [Bool.false_eq_true, if_false] at hR
        have hcl := lt_of_get hc
        refine ⟨by rw [setAt_length _ _ _ (by simp; omega)]; exact hR.1, fun t x v hx hv => ?_⟩
        by_cases ht : t = c
        · subst ht
          have : (setAt row t [AV.osw W z])[t]? = some (.osw W z) := by
            unfold setAt
            rw [List.getElem?_append_right (by rw [List.length_take]; omega)]
            simp [Nat.min_eq_left (Nat.le_of_lt hcl)]
          rw [this] at hx; injection hx with hx; subst hx
          have := hR.2 t _ v hc hv
          cases this with
          | imm _ _ h => cases h with | esl ad => exact .oswv W z ad hιW
        · refine hR.2 t x v ?_ hv
          rw [← hx]
          unfold setAt
          rcases Nat.lt_or_ge t c with q | q
          · rw [List.getElem?_append_left (by simp; omega), List.getElem?_take, if_pos q]
          · rw [List.getElem?_append_right (by simp; omega), List.getElem?_append_right (by simp; omega), List.getElem?_drop]
            congr 1
            simp; omega
      · rw [List.getElem?_set_ne e] at hr
        have := h5 j r hr
        simpa using this)
  have e : ({ ({ toFS [(0, v)] os with os := updO (toFS [(0, v)] os).os [(W, some (.rows true []))] } : FS) with os := updO ({ toFS [(0, v)] os with os := updO (toFS [(0, v)] os).os [(W, some (.rows true []))] } : FS).os [(o, some (.rows false (rs.set i (setAt row c [.osw W z]))))] } : FS)
      = toFS [(0, v)] (updL os [(o, some (.rows false (rs.set i (setAt row c [.osw W z])))), (W, some (.rows true []))]) := by
    unfold toFS
    rw [lk_updL]
    simp only [FS.mk.injEq, true_and]
    funext k
    simp only [updO]
  rw [e] at hi2
  obtain ⟨ι2, hi3⟩ := (Inv.fills hfl hi2).cov hcv
  exact ⟨u, S, ι2, rfl, hi3.fr, fun b hb => ⟨hi3.sn b hb, hi3.sb b hb⟩, hi3.s0, fun j L e => hi3.hj j L e, hi3.un, hi3.tm 0, ⟨hi3.ob, hi3.own, hi3.inj⟩⟩

theorem cnd_e {α : Type} {b : Bool} {X : Option α} {r : α} (h : (bif b then X else none) = some r) : b = true ∧ X = some r := by
  cases b
  · cases h
  · exact ⟨rfl, h⟩
theorem icong {k : IntKind} {d n : Int} (h : (d == n) = true) : some (AV.int k d) = some (AV.int k n) := by rw [eq_of_beq h]
theorem bool_ct (b : Bool) : b = true ∨ b = false := by cases b <;> simp
theorem ine {d n : Int} (h : (d == n) = false) : d ≠ n := by simpa using h
end Go.Ab
