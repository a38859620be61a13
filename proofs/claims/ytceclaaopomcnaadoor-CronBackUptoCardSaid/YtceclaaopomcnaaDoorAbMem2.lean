/-
  AbMem2: slicing, slices made, bytes of strings, maps: what the model's runs give on values that read as known.
-/
import Derived.Test.YtceclaaopomcnaaDoorAbStepOk
import Derived.Test.YtceclaaopomcnaaDoorAbBDef
namespace Go.Ab

section
variable {S : Nat → Prop} {w : World} {ι : Imap} {P : Program}

/-- a bound of a slice expression -/
def bndV (o : Option Value) (d n : Nat) : Prop :=
  match o with
  | none => n = d
  | some v => ∃ k i, v = .int k i ∧ 0 ≤ i ∧ i.toNat = n

theorem run_bounds {isS : Bool} {len cap a b : Nat} {lo hi : Option Value} (ha : bndV lo 0 a) (hb : bndV hi len b) (hab : a ≤ b) (hbc : b ≤ cap) :
    (Instr.sliceBounds isS len cap lo hi none).run P w = .ok (a, b, cap) w := by
  unfold Instr.sliceBounds
  cases hi with
  | none =>
    simp only [bndV] at hb; subst hb
    cases lo with
    | none => simp only [bndV] at ha; subst ha; simp
    | some v =>
      obtain ⟨k, i, rfl, h0, rfl⟩ := ha
      simp only [Sem.run_bind, Sem.run_pure, Result.andThen_ok]
      rw [run_sliceBound w k i b _ h0 (by omega)]
      simp
  | some u =>
    obtain ⟨k, i, rfl, h0, rfl⟩ := hb
    simp only [Sem.run_bind, Sem.run_pure, Result.andThen_ok]
    rw [run_sliceBound w k i cap _ h0 (by omega)]
    cases lo with
    | none => simp only [bndV] at ha; subst ha; simp
    | some v =>
      obtain ⟨k', i', rfl, h0', rfl⟩ := ha
      simp only [Sem.run_bind, Sem.run_pure, Result.andThen_ok]
      rw [run_sliceBound w k' i' i.toNat _ h0' (by omega)]
      simp

theorem slice_str {t : TypeId} {l : List UInt8} {a b : Nat} {lo hi : Option Value} (ht : P.underlying t = some .string) (ha : bndV lo 0 a) (hb : bndV hi l.length b) (hab : a ≤ b) (hbl : b ≤ l.length) :
    (Instr.sliceAt t (.string ⟨l.toArray⟩) lo hi none).run P w = .ok (.string ⟨((l.take b).drop a).toArray⟩) w := by
  have e : (⟨l.toArray⟩ : ByteArray).size = l.length := by show l.toArray.size = _; simp
  have hx : ((⟨l.toArray⟩ : ByteArray).extract a b) = ⟨((l.take b).drop a).toArray⟩ := by
    apply ByteArray.ext
    simp [ByteArray.data_extract, List.extract_eq_take_drop, List.drop_take]
  unfold Instr.sliceAt
  simp only [Sem.run_bind, run_underlying ht, Result.andThen_ok]
  unfold Instr.slice
  simp only [Sem.run_bind, run_underlying ht, Result.andThen_ok, Option.isSome_none, Bool.false_eq_true, if_false, Sem.run_pure, e, run_bounds ha hb hab hbl, hx]

theorem slice_sl {t e : TypeId} {ad : Option Addr} {len cap a b sz : Nat} {lo hi : Option Value} (ht : P.underlying t = some (.slice e)) {i : TypeInfo} (hinf : P.info? e = some i) (hsz : i.size = sz)
    (ha : bndV lo 0 a) (hb : bndV hi len b) (hab : a ≤ b) (hbc : b ≤ cap) :
    (Instr.sliceAt t (.slice ad len cap) lo hi none).run P w = .ok (.slice (if cap = a then ad else ad.map (·.add (a * sz))) (b - a) (cap - a)) w := by
  unfold Instr.sliceAt
  simp only [Sem.run_bind, run_underlying ht, Result.andThen_ok]
  unfold Instr.slice
  simp only [Sem.run_bind, run_underlying ht, Result.andThen_ok, run_bounds ha hb hab hbc, run_sizeOf_info hinf, hsz, Sem.run_pure]

theorem slice_zero {t e : TypeId} {ad : Option Addr} {len cap sz : Nat} {lo : Option Value} {k k' : IntKind} (ht : P.underlying t = some (.slice e)) {i : TypeInfo} (hinf : P.info? e = some i) (hsz : i.size = sz) (ha : bndV lo 0 0) :
    (Instr.sliceAt t (.slice ad len cap) lo (some (.int k 0)) (some (.int k' 0))).run P w = .ok (.slice ad 0 0) w := by
  unfold Instr.sliceAt
  simp only [Sem.run_bind, run_underlying ht, Result.andThen_ok]
  unfold Instr.slice
  have hb : (Instr.sliceBounds true len cap lo (some (.int k 0)) (some (.int k' 0))).run P w = .ok (0, 0, 0) w := by
    unfold Instr.sliceBounds
    simp only [Sem.run_bind]
    rw [run_sliceBound w k' 0 cap _ (by omega) (by omega)]
    simp only [Result.andThen_ok]
    rw [run_sliceBound w k 0 _ _ (by omega) (by simp)]
    cases lo with
    | none => simp
    | some v =>
      obtain ⟨k2, i, rfl, h0, h1⟩ := ha
      have : i = 0 := by omega
      subst this
      simp only [Sem.run_bind, Sem.run_pure, Result.andThen_ok]
      rw [run_sliceBound w k2 0 _ _ (by omega) (by simp)]
      simp
  simp only [Sem.run_bind, run_underlying ht, Result.andThen_ok, hb, run_sizeOf_info hinf, hsz, Sem.run_pure, if_true, Nat.sub_self]

/-- a part of an immutable slice -/
theorem sl_part {xs : List (List AV)} {ad : Option Addr} {len cap a b sz : Nat} (h : Rep S w ι (.sl xs) (.slice ad len cap)) (hlen : a = 0 ∨ ∀ r, r ∈ xs → r.length = sz) (hab : a ≤ b) (hb : b ≤ xs.length) :
    len = xs.length ∧ len ≤ cap ∧ Rep S w ι (.sl ((xs.take b).drop a)) (.slice (if cap = a then ad else ad.map (·.add (a * sz))) (b - a) (cap - a)) := by
  cases h with
  | imm _ _ h =>
    generalize hv : Value.slice ad len cap = v at h
    cases h with
    | snil =>
      injection hv with h1 h2 h3
      subst h1; subst h2; subst h3
      simp only [List.length_nil] at hb
      refine ⟨rfl, Nat.le_refl _, .imm _ _ ?_⟩
      have hb0 : b = 0 := by omega
      have ha0 : a = 0 := by omega
      subst hb0; subst ha0
      simp only [List.take_nil, List.drop_nil, if_true, Nat.sub_self]
      exact .snil
    | sl _ a' cap' sz' vals hcap hlim hS hl hcell hrep =>
      injection hv with h1 h2 h3
      subst h1; subst h2; subst h3
      refine ⟨rfl, hcap, .imm _ _ ?_⟩
      have hlen' : ((xs.take b).drop a).length = b - a := by simp; omega
      have hget : ∀ (i : Nat) r, ((xs.take b).drop a)[i]? = some r → i < b - a ∧ xs[a + i]? = some r := by
        intro i r hri
        have hlt := lt_of_get hri
        rw [hlen'] at hlt
        rw [List.getElem?_drop, List.getElem?_take] at hri
        rw [if_pos (by omega)] at hri
        exact ⟨hlt, hri⟩
      have hgen : ∀ ad' : Addr, ((xs.take b).drop a ≠ [] → ad' = ⟨a'.block, a'.off + a * sz', none⟩) → IRep S w (.sl ((xs.take b).drop a)) (.slice (some ad') (b - a) (cap - a)) := by
        intro ad' had
        have := IRep.sl (S := S) (w := w) ((xs.take b).drop a) ad' (cap - a) sz' (fun i => vals (a + i)) (by omega) (by omega) (fun hne => by
            rw [had hne]
            have hx : xs ≠ [] := by intro e; subst e; simp at hne
            exact ⟨(hS hx).1, rfl⟩) (fun i r hri => hl _ r (hget i r hri).2) (fun i j v hi hv => by
            have hne : (xs.take b).drop a ≠ [] := by intro e; rw [e] at hi; simp at hi
            rw [hlen'] at hi
            rw [had hne]
            have := hcell (a + i) j v (by omega) hv
            rw [Nat.add_mul] at this
            simp only
            rw [show a'.off + a * sz' + (i * sz' + j) = a'.off + (a * sz' + i * sz' + j) by omega]
            exact this) (fun i j r x v h1 h2 h3 => hrep _ j r x v (hget i r h1).2 h2 h3)
        rw [hlen'] at this
        exact this
      split
      · rename_i hca
        refine hgen a' (fun hne => ?_)
        have : 0 < ((xs.take b).drop a).length := List.length_pos_iff.2 hne
        omega
      · refine hgen (a'.add (a * sz)) (fun hne => ?_)
        have hx : xs ≠ [] := by intro e; subst e; simp at hne
        have hsp := (hS hx).2
        obtain ⟨x, hxm⟩ := List.exists_mem_of_ne_nil xs hx
        obtain ⟨i, hi⟩ := List.getElem?_of_mem hxm
        have e1 := (hl i x hi).1
        have e2 : a * sz = a * sz' := by
          rcases hlen with rfl | hlen
          · simp
          · rw [← hlen x hxm, e1]
        rw [e2]
        obtain ⟨bl, of, sp⟩ := a'
        simp only at hsp
        subst hsp
        exact add_plain _ _ _

theorem ck_int {e : Bool} {n : Nat} {kt : TypeId} {k q : IntKind} {i : Int} (h : P.underlying kt = some (.int k)) : (Instr.checkKey e (n + 1) kt (.int q i)).run P w = .ok () w := by
  rw [Instr.checkKey.eq_2]; simp only [Sem.run_bind, run_underlying h, Result.andThen_ok, Sem.run_pure]
theorem ck_str {e : Bool} {n : Nat} {kt : TypeId} {b : ByteArray} (h : P.underlying kt = some .string) : (Instr.checkKey e (n + 1) kt (.string b)).run P w = .ok () w := by
  rw [Instr.checkKey.eq_2]; simp only [Sem.run_bind, run_underlying h, Result.andThen_ok, Sem.run_pure]
theorem ck_bool {e : Bool} {n : Nat} {kt : TypeId} {b : Bool} (h : P.underlying kt = some .bool) : (Instr.checkKey e (n + 1) kt (.bool b)).run P w = .ok () w := by
  rw [Instr.checkKey.eq_2]; simp only [Sem.run_bind, run_underlying h, Result.andThen_ok, Sem.run_pure]
theorem sb_int (n : Nat) (k : IntKind) (i : Int) : Instr.sameBits n (.int k i) (.int k i) = true := by rw [Instr.sameBits.eq_2]; simp
theorem sb_str (n : Nat) (l : List UInt8) : Instr.sameBits n (.string ⟨l.toArray⟩) (.string ⟨l.toArray⟩) = true := by rw [Instr.sameBits.eq_5, bytes_eq]; simp
theorem sb_bool (n : Nat) (b : Bool) : Instr.sameBits n (.bool b) (.bool b) = true := by rw [Instr.sameBits.eq_1]; simp

theorem keyEq_now {kt : TypeId} {k k' : AV} {b : Bool} {u v : Value} (h : keyEq P kt k k' = some b) (hu : Rep S w ι k u) (hv : IRep S w k' v) :
    ∃ d, P.underlying kt = some d ∧ Instr.sameNow d u v = some b ∧ (Instr.checkKey false 10000 kt u).run P w = .ok () w ∧ (Instr.checkKey true 10000 kt u).run P w = .ok () w ∧ (b = true → Instr.sameBits 10000 v u = true) := by
  unfold keyEq at h
  split at h
  · rename_i q0 q a q' b' ht
    split at h
    · rename_i e; subst e
      injection h with h; subst h
      rw [hu.int_inv]
      cases hv
      refine ⟨_, ht, by simp [Instr.sameNow], ?_, ?_, ?_⟩
      · exact ck_int ht
      · exact ck_int ht
      · intro e; have : a = b' := by simpa using e
        subst this; exact sb_int _ _ _
    · cases h
  · rename_i a b' ht
    injection h with h; subst h
    rw [hu.str_inv]
    have hv' := (Rep.imm (ι := ι) _ _ hv).str_inv
    rw [hv']
    refine ⟨_, ht, by simp [Instr.sameNow, bytes_eq], ?_, ?_, ?_⟩
    · exact ck_str ht
    · exact ck_str ht
    · intro e; have : a = b' := by simpa using e
      subst this; exact sb_str _ _
  · rename_i a b' ht
    injection h with h; subst h
    rw [hu.bool_inv]
    cases hv
    refine ⟨_, ht, by simp [Instr.sameNow], ?_, ?_, ?_⟩
    · exact ck_bool ht
    · exact ck_bool ht
    · intro e; have : a = b' := by simpa using e
      subst this; exact sb_bool _ _
  · cases h

theorem findAt_now {kt : TypeId} {k : AV} {u : Value} {d : TypeDesc} (hd : P.underlying kt = some d) (hu : Rep S w ι k u) :
    ∀ (es : List (AV × AV)) (xs : List MapEntry) (i : Nat) (r : Option Nat), MapRep S w ι es xs → findAt P kt k es i r →
      (∃ e, Instr.findNow d u xs i = some e ∧ e.map (·.1) = r ∧ ∀ j y, e = some (j, y) → i ≤ j ∧ ∃ q, xs[j - i]? = some q ∧ q.val = y) := by
  intro es
  induction es with
  | nil =>
    intro xs i r hm h
    have : xs = [] := List.length_eq_zero_iff.1 hm.1.symm
    subst this
    simp only [findAt] at h
    subst h
    exact ⟨none, rfl, rfl, by simp⟩
  | cons e es ih =>
    intro xs i r hm h
    cases xs with
    | nil => have := hm.1; simp at this
    | cons x xs =>
      have hm' : MapRep S w ι es xs := ⟨by simpa using hm.1, fun j a b ha hb => hm.2 (j + 1) a b (by simpa using ha) (by simpa using hb)⟩
      have hx := hm.2 0 e x rfl rfl
      simp only [findAt] at h
      rcases h with ⟨h1, rfl⟩ | ⟨h1, h2⟩
      · obtain ⟨d', hd', hs, _⟩ := keyEq_now h1 hu hx.1
        rw [hd] at hd'; injection hd' with hd'; subst hd'
        refine ⟨some (i, x.val), by simp [Instr.findNow, hs], rfl, ?_⟩
        intro j y he
        injection he with he
        simp only [Prod.mk.injEq] at he
        obtain ⟨rfl, rfl⟩ := he
        exact ⟨Nat.le_refl _, x, by simp, rfl⟩
      · obtain ⟨d', hd', hs, _⟩ := keyEq_now h1 hu hx.1
        rw [hd] at hd'; injection hd' with hd'; subst hd'
        obtain ⟨e', h3, h4, h5⟩ := ih xs (i + 1) r hm' h2
        refine ⟨e', by simp [Instr.findNow, hs, h3], h4, ?_⟩
        intro j y he
        obtain ⟨h6, q, h7, h8⟩ := h5 j y he
        refine ⟨by omega, q, ?_, h8⟩
        rw [show j - i = (j - (i + 1)) + 1 by omega]
        simpa using h7
end
end Go.Ab
