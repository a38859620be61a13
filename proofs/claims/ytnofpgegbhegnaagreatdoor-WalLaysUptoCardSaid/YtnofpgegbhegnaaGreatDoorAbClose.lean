/-
  AbClose: a value of the running function as one that names none of its objects (closeAV), and what is true of it.
-/
import Derived.Test.YtnofpgegbhegnaaGreatDoorAbStepMem
namespace Go.Ab

theorem optMap_ok {α β : Type} {f : α → Option β} : ∀ {l : List α} {l' : List β}, optMap f l = some l' →
    l.length = l'.length ∧ ∀ (i : Nat) x y, l[i]? = some x → l'[i]? = some y → f x = some y := by
  intro l
  induction l with
  | nil => intro l' h; simp only [optMap, Option.some.injEq] at h; subst h; exact ⟨rfl, fun i x y hx => by simp at hx⟩
  | cons a r ih =>
    intro l' h
    simp only [optMap] at h
    split at h
    · rename_i y s hy hs
      injection h with h; subst h
      obtain ⟨h1, h2⟩ := ih hs
      refine ⟨by simp [h1], fun i x z hx hz => ?_⟩
      cases i with
      | zero => simp at hx hz; subst hx; subst hz; exact hy
      | succ i => exact h2 i x z (by simpa using hx) (by simpa using hz)
    · cases h

section
variable {S : Nat → Prop} {w : World} {ι : Imap} {ol : Nat → Option AO}

/-- the blocks that are looked into -/
def SV (S : Nat → Prop) (ι : Imap) (ol : Nat → Option AO) (V : List Nat) (b : Nat) : Prop :=
  S b ∨ ∃ o x l, o ∈ V ∧ ol o = some x ∧ ι o = some (some l) ∧ b = l.blk

/-- closed rows lie where the object's rows lie -/
theorem rowsOf_ok {V : List Nat} {cl : AV → Option AV} (hcl : ∀ x v x', Rep S w ι x v → cl x = some x' → IRep (SV S ι ol V) w x' v)
    {o : Nat} {y : AO} {rs : List (List AV)} (hy : ObjOk S w ι o y) (h : rowsOf cl y = some rs) :
    (ι o = some none ∧ rs = []) ∨ ∃ l vals, ι o = some (some l) ∧ rs.length = l.cnt ∧ RowsAt w l rs.length vals ∧
      ∀ (i : Nat) row, rs[i]? = some row → IRepL (SV S ι ol V) w row (vals i) := by
  have up : ∀ {row : List AV} {vs : List Value}, IRepL S w row vs → IRepL (SV S ι ol V) w row vs := fun h => h.mono (fun b hb => .inl hb) (fun _ _ => rfl)
  unfold rowsOf at h
  split at h
  · injection h with h; subst h
    rcases hy with h | ⟨l, vals, h1, h2, h3, h4, h5⟩
    · exact .inl h
    · exact .inr ⟨l, vals, h1, h2, h4, fun i row hr => up (by have := h5 i row hr; simpa using this)⟩
  · rename_i rs0
    obtain ⟨hlen, hpt⟩ := optMap_ok h
    rcases hy with ⟨q, rfl⟩ | ⟨l, vals, h1, h2, h3, h4, h5⟩
    · left; refine ⟨q, ?_⟩; simpa using hlen.symm
    · refine .inr ⟨l, vals, h1, by omega, by rw [← hlen]; exact h4, fun i row hr => ?_⟩
      have hi : i < rs0.length := by rw [hlen]; exact lt_of_get hr
      have hr0 := List.getElem?_eq_getElem hi
      have := hpt i _ _ hr0 hr
      obtain ⟨hl2, hp2⟩ := optMap_ok this
      have hrep := h5.get hr0
      refine ⟨by rw [← hl2]; exact hrep.1, fun j x v hx hv => ?_⟩
      have hj : j < rs0[i].length := by rw [hl2]; exact lt_of_get hx
      have hx0 := List.getElem?_eq_getElem hj
      exact hcl _ _ _ (hrep.2 j _ v hx0 hv) (hp2 j _ _ hx0 hx)
  · injection h with h; subst h
    rcases hy with h | ⟨l, vals, h1, h2, h3, h4, h5⟩
    · exact .inl h
    · exact .inr ⟨l, vals, h1, h2, h4, fun i row hr => up (by have := h5 i row hr; simpa using this)⟩
  · cases h
  · cases h
  · cases h

theorem IRep.empty {S : Nat → Prop} {w : World} (a : Option Addr) (cap : Nat) : (a = none → cap = 0) → IRep S w (.sl []) (.slice a 0 cap) := by
  intro h
  cases a with
  | none => rw [h rfl]; exact .snil
  | some a =>
    exact IRep.sl [] a cap 0 (fun _ => []) (by simp) (by simp) (fun h => absurd rfl h) (fun i r h => by simp at h) (fun i j v h => by simp at h) (fun i j r x v h => by simp at h)

theorem closeAV_ok {V : List Nat} (hob : ∀ o x, ol o = some x → ObjOk S w ι o x) : ∀ (n : Nat) (x : AV) (v : Value) (x' : AV), Rep S w ι x v →
    closeAV V ol n x = some x' → IRep (SV S ι ol V) w x' v := by
  intro n
  induction n with
  | zero => intro x v x' _ h; simp [closeAV] at h
  | succ n ih =>
    intro x v x' hr h
    have up : ∀ {x : AV} {v : Value}, IRep S w x v → IRep (SV S ι ol V) w x v := fun h => h.mono (fun b hb => .inl hb) (fun _ _ => rfl)
    have lists : ∀ {cs cs' : List AV} {vs : List Value}, RepL S w ι cs vs → optMap (closeAV V ol n) cs = some cs' → IRepL (SV S ι ol V) w cs' vs := by
      intro cs cs' vs hL hm
      obtain ⟨hl, hp⟩ := optMap_ok hm
      refine ⟨by rw [← hl]; exact hL.1, fun j x v hx hv => ?_⟩
      have hj : j < cs.length := by rw [hl]; exact lt_of_get hx
      have hx0 := List.getElem?_eq_getElem hj
      exact ih _ _ _ (hL.2 j _ v hx0 hv) (hp j _ _ hx0 hx)
    cases x with
    | osw o z =>
      simp only [closeAV] at h
      split at h
      · rename_i hV
        split at h
        · rename_i y hy
          simp only [Option.map_eq_some_iff] at h
          obtain ⟨rs, hrs, rfl⟩ := h
          rcases rowsOf_ok ih (hob o y hy) hrs with ⟨q, rfl⟩ | ⟨l, vals, q, hcnt, hat, hrep⟩
          · rcases osw_inv hr with ⟨l', ab, cap, q', _⟩ | ⟨q', ab, rfl⟩
            · rw [q] at q'; cases q'
            · exact IRep.empty ab 0 (fun _ => rfl)
          · rcases osw_inv hr with ⟨l', ab, cap, q', rfl, h2, h3, h4, hz, ha⟩ | ⟨q', ab, rfl⟩
            · rw [q] at q'; injection q' with q'; injection q' with q'; subst q'
              rw [← hcnt]
              refine IRep.sl rs ab cap l.esz vals (by omega) (by omega) (fun hne => ?_) (fun i r hri => ?_) (fun i j v hi hv => ?_) (fun i j r x v h1 h2 h3 => ?_)
              · have : 0 < rs.length := List.length_pos_iff.2 hne
                rw [ha (by omega)]
                exact ⟨.inr ⟨o, y, l, by simpa using hV, hy, q, rfl⟩, rfl⟩
              · have := (hrep i r hri).1
                have h5 := hat.2.1 i (lt_of_get hri)
                exact ⟨by omega, h5⟩
              · have : 0 < rs.length := by omega
                rw [ha (by omega)]
                exact hat.2.2 i j v hi hv
              · exact (hrep i r h1).2 j x v h2 h3
            · rw [q] at q'; cases q'
        · cases h
      · cases h
    | osl o off len room =>
      simp only [closeAV] at h
      split at h
      · rename_i hV
        split at h
        · rename_i y hy
          simp only [Option.map_eq_some_iff] at h
          obtain ⟨rs, hrs, rfl⟩ := h
          rcases rowsOf_ok ih (hob o y hy) hrs with ⟨q, rfl⟩ | ⟨l, vals, q, hcnt, hat, hrep⟩
          · rcases osl_inv hr with ⟨l', ab, cap, q', _⟩ | ⟨q', rfl, rfl, rfl, ab, rfl⟩
            · rw [q] at q'; cases q'
            · simpa using IRep.empty ab 0 (fun _ => rfl)
          · rcases osl_inv hr with ⟨l', ab, cap, q', rfl, h1, h2, h3, h4, h5, ha⟩ | ⟨q', _⟩
            · rw [q] at q'; injection q' with q'; injection q' with q'; subst q'
              have hlen : ((rs.drop off).take len).length = len := by simp; omega
              have hget : ∀ (i : Nat) r, ((rs.drop off).take len)[i]? = some r → i < len ∧ rs[off + i]? = some r := by
                intro i r hri
                rw [List.getElem?_take] at hri
                split at hri
                · rename_i hi; rw [List.getElem?_drop] at hri; exact ⟨hi, hri⟩
                · cases hri
              have := IRep.sl (S := SV S ι ol V) (w := w) ((rs.drop off).take len) ab cap l.esz (fun i => vals (off + i)) (by omega) (by omega) (fun hne => by
                have : 0 < ((rs.drop off).take len).length := List.length_pos_iff.2 hne
                rw [ha (by omega)]
                exact ⟨.inr ⟨o, y, l, by simpa using hV, hy, q, rfl⟩, rfl⟩) (fun i r hri => by
                  obtain ⟨hi, hg⟩ := hget i r hri
                  have := (hrep _ r hg).1
                  have h5 := hat.2.1 _ (lt_of_get hg)
                  exact ⟨by omega, h5⟩) (fun i j v hi hv => by
                  rw [hlen] at hi
                  rw [ha (by omega)]
                  have := hat.2.2 (off + i) j v (by omega) hv
                  rw [Nat.add_mul] at this
                  simp only
                  rw [show l.base + off * l.esz + (i * l.esz + j) = l.base + (off * l.esz + i * l.esz + j) by omega]
                  exact this) (fun i j r x v h1 h2 h3 => by
                  obtain ⟨hi, hg⟩ := hget i r h1
                  exact (hrep _ r hg).2 j x v h2 h3)
              rw [hlen] at this
              exact this
            · rw [q] at q'; cases q'
        · cases h
      · cases h
    | ptr o r c =>
      simp only [closeAV] at h
      split at h
      · rename_i hV
        split at h
        · rename_i y hy
          split at h
          · rename_i rs hrs
            split at h
            · rename_i row hrow
              injection h with h; subst h
              obtain ⟨l, hl, rfl⟩ := hr.ptr_inv
              rcases rowsOf_ok ih (hob o y hy) hrs with ⟨q, rfl⟩ | ⟨l', vals, q, hcnt, hat, hrep⟩
              · rw [q] at hl; cases hl
              · rw [q] at hl; injection hl with hl; injection hl with hl; subst hl
                have hi := lt_of_get hrow
                have hL := hrep r row hrow
                have := IRep.rp (S := SV S ι ol V) (w := w) row c l'.blk (l'.base + r * l'.esz) (vals r) (.inr ⟨o, y, l', by simpa using hV, hy, q, rfl⟩) hL.1 (fun j v hv => by
                  have := hat.2.2 r j v hi hv
                  rw [← Nat.add_assoc] at this; exact this) hL.2
                rw [← Nat.add_assoc]; exact this
            · cases h
          · cases h
        · cases h
      · cases h
    | agg cs =>
      simp only [closeAV, Option.map_eq_some_iff] at h
      obtain ⟨cs', hc, rfl⟩ := h
      obtain ⟨vs, rfl, hL⟩ := hr.agg_inv
      have := lists hL hc
      exact .agg _ _ (by simpa using this.1) (fun j x v hx hv => this.2 j x v hx (by rw [Array.getElem?_toList]; exact hv))
    | tup cs =>
      simp only [closeAV, Option.map_eq_some_iff] at h
      obtain ⟨cs', hc, rfl⟩ := h
      obtain ⟨vs, rfl, hL⟩ := hr.tup_inv
      have := lists hL hc
      exact .tup _ _ (by simpa using this.1) (fun j x v hx hv => this.2 j x v hx (by rw [Array.getElem?_toList]; exact hv))
    | fn f cs =>
      simp only [closeAV, Option.map_eq_some_iff] at h
      obtain ⟨cs', hc, rfl⟩ := h
      obtain ⟨vs, rfl, hL⟩ := hr.fn_inv
      have := lists hL hc
      exact .fn _ _ _ (by simpa using this.1) (fun j x v hx hv => this.2 j x v hx (by rw [Array.getElem?_toList]; exact hv))
    | esl => simp only [closeAV, Option.some.injEq] at h; subst h; exact up (hr.free rfl)
    | mapo o => simp [closeAV] at h
    | int k m => simp only [closeAV, Option.some.injEq] at h; subst h; exact up (hr.free rfl)
    | bool b => simp only [closeAV, Option.some.injEq] at h; subst h; exact up (hr.free rfl)
    | str s => simp only [closeAV, Option.some.injEq] at h; subst h; exact up (hr.free rfl)
    | sl xs => simp only [closeAV, Option.some.injEq] at h; subst h; exact up (hr.free rfl)
    | rp row c => simp only [closeAV, Option.some.injEq] at h; subst h; exact up (hr.free rfl)
    | con u => simp only [closeAV, Option.some.injEq] at h; subst h; exact up (hr.free rfl)
    | undef => simp only [closeAV, Option.some.injEq] at h; subst h; exact up (hr.free rfl)
    | anyb p => simp only [closeAV, Option.some.injEq] at h; subst h; exact up (hr.free rfl)

theorem closeL_ok {V : List Nat} (hob : ∀ o x, ol o = some x → ObjOk S w ι o x) {n : Nat} {cs cs' : List AV} {vs : List Value} (hL : RepL S w ι cs vs)
    (hm : optMap (closeAV V ol n) cs = some cs') : IRepL (SV S ι ol V) w cs' vs := by
  obtain ⟨hl, hp⟩ := optMap_ok hm
  refine ⟨by rw [← hl]; exact hL.1, fun j x v hx hv => ?_⟩
  have hj : j < cs.length := by rw [hl]; exact lt_of_get hx
  have hx0 := List.getElem?_eq_getElem hj
  exact closeAV_ok hob n _ _ _ (hL.2 j _ v hx0 hv) (hp j _ _ hx0 hx)
end

/-- what hangs on no memory reads the same anywhere -/
theorem flatL_mem : ∀ {cs : List AV} {x : AV}, flatL cs = true → x ∈ cs → flat x = true := by
  intro cs
  induction cs with
  | nil => intro x _ h; cases h
  | cons a r ih =>
    intro x h hm
    simp only [flatL, Bool.and_eq_true] at h
    cases hm with
    | head => exact h.1
    | tail _ hm => exact ih h.2 hm

theorem IRep.flat {S S' : Nat → Prop} {w w' : World} {x : AV} {v : Value} (h : IRep S w x v) (hf : flat x = true) : IRep S' w' x v := by
  induction h with
  | int k n => exact .int k n
  | bool b => exact .bool b
  | str s => exact .str s
  | con v h => exact .con v h
  | agg cs vs hl _ ih =>
    refine .agg cs vs hl (fun j x v hx hv => ih j x v hx hv ?_)
    simp only [Ab.flat] at hf
    exact flatL_mem hf (List.mem_of_getElem? hx)
  | tup cs vs hl _ ih =>
    refine .tup cs vs hl (fun j x v hx hv => ih j x v hx hv ?_)
    simp only [Ab.flat] at hf
    exact flatL_mem hf (List.mem_of_getElem? hx)
  | _ => simp [Ab.flat] at hf

theorem Rep.flat {S S' : Nat → Prop} {w w' : World} {ι : Imap} {x : AV} {v : Value} (h : Rep S w ι x v) (hf : flat x = true) : IRep S' w' x v := by
  induction h with
  | imm x v h => exact h.flat hf
  | agg cs vs hl _ ih =>
    refine .agg cs vs hl (fun j x v hx hv => ih j x v hx hv ?_)
    simp only [Ab.flat] at hf
    exact flatL_mem hf (List.mem_of_getElem? hx)
  | tup cs vs hl _ ih =>
    refine .tup cs vs hl (fun j x v hx hv => ih j x v hx hv ?_)
    simp only [Ab.flat] at hf
    exact flatL_mem hf (List.mem_of_getElem? hx)
  | _ => simp [Ab.flat] at hf
end Go.Ab
