/-
  AbMem2: slicing, slices made, bytes of strings, maps: what the model's runs give on values that read as known.
-/
import Derived.Test.YtnofpgegbhegnaaGreatDoorAbStepOk
import Derived.WideKeyRuns
import Derived.Test.YtnofpgegbhegnaaGreatDoorAbBDef
namespace Go.Ab

section
variable {S : Nat → Prop} {w : World} {ι : Imap} {P : Program}

theorem eqFs_up {d d' : Nat} (ih : ∀ t xs ys c r, eqCells P d t xs ys c = some r → eqCells P d' t xs ys c = some r) :
    ∀ (l : List Field) (xs ys : List AV) (c : Nat) (r : Bool), eqFsG (eqCells P d) l xs ys c = some r → eqFsG (eqCells P d') l xs ys c = some r := by
  intro l
  induction l with
  | nil => intro xs ys c r h; simpa [eqFsG] using h
  | cons f l ihl =>
    intro xs ys c r h
    simp only [eqFsG] at h ⊢
    split at h
    · rename_i a b ha hb
      rw [ih _ _ _ _ _ ha, ihl _ _ _ _ hb]
      exact h
    · cases h
theorem eqCells_up1 : ∀ (d : Nat) (t : TypeId) (xs ys : List AV) (c : Nat) (r : Bool), eqCells P d t xs ys c = some r → eqCells P (d + 1) t xs ys c = some r := by
  intro d
  induction d with
  | zero => intro t xs ys c r h; simp [eqCells] at h
  | succ d ih =>
    intro t xs ys c r h
    unfold eqCells at h
    unfold eqCells
    split at h
    · exact h
    · exact h
    · exact h
    · exact eqFs_up ih _ _ _ _ _ h
    · cases h
theorem eqCells_up (k : Nat) : ∀ (d : Nat) (t : TypeId) (xs ys : List AV) (c : Nat) (r : Bool), eqCells P d t xs ys c = some r → eqCells P (d + k) t xs ys c = some r := by
  induction k with
  | zero => intro d t xs ys c r h; exact h
  | succ k ih => intro d t xs ys c r h; exact eqCells_up1 (d + k) t xs ys c r (ih d t xs ys c r h)
theorem plainEq_up1 : ∀ (d : Nat) (t : TypeId), plainEq P d t = true → plainEq P (d + 1) t = true := by
  intro d
  induction d with
  | zero => intro t h; simp [plainEq] at h
  | succ d ih =>
    intro t h
    unfold plainEq at h
    unfold plainEq
    split at h
    · simp only [Bool.and_eq_true] at h ⊢
      refine ⟨h.1, ?_⟩
      rw [Array.all_eq_true] at h ⊢
      intro i hi
      have := h.2 i hi
      simp only [Bool.and_eq_true] at this ⊢
      exact ⟨⟨this.1.1, ih _ this.1.2⟩, this.2⟩
    · exact h
    · exact h
    · exact h
    · cases h
theorem plainEq_up (k : Nat) : ∀ (d : Nat) (t : TypeId), plainEq P d t = true → plainEq P (d + k) t = true := by
  induction k with
  | zero => intro d t h; exact h
  | succ k ih => intro d t h; exact plainEq_up1 (d + k) t (ih d t h)

theorem agg_eq {t : TypeId} {cs ds : List AV} {us vs : Array Value} {r : Bool} (h1 : RepL S w ι cs us.toList) (h2 : RepL S w ι ds vs.toList) (hp : plainEq P 20 t = true)
    (hc : cs.length = P.cellsOf t) (hd : ds.length = P.cellsOf t) (he : eqCells P 20 t cs ds 0 = some r) (hst : ∃ fs, P.underlying t = some (.struct fs)) : (Op.equalIn 10000 t (.agg us) (.agg vs)).run P w = .ok r w := by
  have l1 := h1.1; have l2 := h2.1
  simp only [Array.length_toList] at l1 l2
  obtain ⟨fs, ht⟩ := hst
  have hk : (kindT P t).isSome = true := by
    unfold plainEq at hp; rw [ht] at hp
    simp only [Bool.and_eq_true] at hp
    exact hp.1.2
  obtain ⟨⟨b, n⟩, hk⟩ := Option.isSome_iff_exists.1 hk
  obtain ⟨ha, hs⟩ := kindT_run hk w
  have hb : b = true := by
    unfold kindT at hk; rw [ht] at hk
    simp only at hk
    split at hk
    · cases hk
    · simp only [Option.some.injEq, Prod.mk.injEq] at hk; exact hk.1.symm
  have hn : n = P.cellsOf t := by
    unfold kindT at hk; rw [ht] at hk
    simp only at hk
    split at hk
    · cases hk
    · rename_i i hi
      simp only [Option.some.injEq, Prod.mk.injEq] at hk; rw [← hk.2]; simp [Program.cellsOf, hi]
  subst hb
  have hpart : ∀ (xs : Array Value), xs.size = P.cellsOf t → (part t xs 0).run P w = .ok (.agg xs) w := by
    intro xs hx
    unfold part
    simp only [Sem.run_bind, ha, Result.andThen_ok, if_true, hs, Sem.run_pure, Nat.zero_add, hn, ← hx]
    congr 2
    simp
  exact eqCells_ok 9999 t cs ds 0 r (eqCells_up 9979 20 t cs ds 0 r he) (plainEq_up 9979 20 t hp) us vs h1 h2 (by omega) (by omega) _ _ (hpart us (by omega)) (hpart vs (by omega))

/-- a bound of a slice expression -/
def bndV (o : Option Value) (d n : Nat) : Prop :=
  match o with
  | none => n = d
  | some v => ∃ k i, v = .int k i ∧ 0 ≤ i ∧ i.toNat = n

theorem run_bounds {isS : Bool} {len cap a b : Nat} {lo hi : Option Value} (ha : bndV lo 0 a) (hb : bndV hi len b) (hab : a ≤ b) (hbc : b ≤ cap) :
    (Instr.sliceBounds isS len cap lo hi none).run P w = .ok (a, b, cap) w := by
  unfold Instr.sliceBounds
  cases hi with
  | none =>
    simp only [bndV] at hb; subst hb
    cases lo with
    | none => simp only [bndV] at ha; subst ha; simp
    | some v =>
      obtain ⟨k, i, rfl, h0, rfl⟩ := ha
      simp only [Sem.run_bind, Sem.run_pure, Result.andThen_ok]
      rw [run_sliceBound w k i b _ h0 (by omega)]
      simp
  | some u =>
    obtain ⟨k, i, rfl, h0, rfl⟩ := hb
    simp only [Sem.run_bind, Sem.run_pure, Result.andThen_ok]
    rw [run_sliceBound w k i cap _ h0 (by omega)]
    cases lo with
    | none => simp only [bndV] at ha; subst ha; simp
    | some v =>
      obtain ⟨k', i', rfl, h0', rfl⟩ := ha
      simp only [Sem.run_bind, Sem.run_pure, Result.andThen_ok]
      rw [run_sliceBound w k' i' i.toNat _ h0' (by omega)]
      simp

theorem slice_str {t : TypeId} {l : List UInt8} {a b : Nat} {lo hi : Option Value} (ht : P.underlying t = some .string) (ha : bndV lo 0 a) (hb : bndV hi l.length b) (hab : a ≤ b) (hbl : b ≤ l.length) :
    (Instr.sliceAt t (.string ⟨l.toArray⟩) lo hi none).run P w = .ok (.string ⟨((l.take b).drop a).toArray⟩) w := by
  have e : (⟨l.toArray⟩ : ByteArray).size = l.length := by show l.toArray.size = _; simp
  have hx : ((⟨l.toArray⟩ : ByteArray).extract a b) = ⟨((l.take b).drop a).toArray⟩ := by
    apply ByteArray.ext
    simp [ByteArray.data_extract, List.extract_eq_take_drop, List.drop_take]
  unfold Instr.sliceAt
  simp only [Sem.run_bind, run_underlying ht, Result.andThen_ok]
  unfold Instr.slice
  simp only [Sem.run_bind, run_underlying ht, Result.andThen_ok, Option.isSome_none, Bool.false_eq_true, if_false, Sem.run_pure, e, run_bounds ha hb hab hbl, hx]

theorem slice_sl {t e : TypeId} {ad : Option Addr} {len cap a b sz : Nat} {lo hi : Option Value} (ht : P.underlying t = some (.slice e)) {i : TypeInfo} (hinf : P.info? e = some i) (hsz : i.size = sz)
    (ha : bndV lo 0 a) (hb : bndV hi len b) (hab : a ≤ b) (hbc : b ≤ cap) :
    (Instr.sliceAt t (.slice ad len cap) lo hi none).run P w = .ok (.slice (if cap = a then ad else ad.map (·.add (a * sz))) (b - a) (cap - a)) w := by
  unfold Instr.sliceAt
  simp only [Sem.run_bind, run_underlying ht, Result.andThen_ok]
  unfold Instr.slice
  simp only [Sem.run_bind, run_underlying ht, Result.andThen_ok, run_bounds ha hb hab hbc, run_sizeOf_info hinf, hsz, Sem.run_pure]

theorem slice_zero {t e : TypeId} {ad : Option Addr} {len cap sz : Nat} {lo : Option Value} {k k' : IntKind} (ht : P.underlying t = some (.slice e)) {i : TypeInfo} (hinf : P.info? e = some i) (hsz : i.size = sz) (ha : bndV lo 0 0) :
    (Instr.sliceAt t (.slice ad len cap) lo (some (.int k 0)) (some (.int k' 0))).run P w = .ok (.slice ad 0 0) w := by
  unfold Instr.sliceAt
  simp only [Sem.run_bind, run_underlying ht, Result.andThen_ok]
  unfold Instr.slice
  have hb : (Instr.sliceBounds true len cap lo (some (.int k 0)) (some (.int k' 0))).run P w = .ok (0, 0, 0) w := by
    unfold Instr.sliceBounds
    simp only [Sem.run_bind]
    rw [run_sliceBound w k' 0 cap _ (by omega) (by omega)]
    simp only [Result.andThen_ok]
    rw [run_sliceBound w k 0 _ _ (by omega) (by simp)]
    cases lo with
    | none => simp
    | some v =>
      obtain ⟨k2, i, rfl, h0, h1⟩ := ha
      have : i = 0 := by omega
      subst this
      simp only [Sem.run_bind, Sem.run_pure, Result.andThen_ok]
      rw [run_sliceBound w k2 0 _ _ (by omega) (by simp)]
      simp
  simp only [Sem.run_bind, run_underlying ht, Result.andThen_ok, hb, run_sizeOf_info hinf, hsz, Sem.run_pure, if_true, Nat.sub_self]

/-- a part of an immutable slice -/
theorem sl_part {xs : List (List AV)} {ad : Option Addr} {len cap a b sz : Nat} (h : Rep S w ι (.sl xs) (.slice ad len cap)) (hlen : a = 0 ∨ ∀ r, r ∈ xs → r.length = sz) (hab : a ≤ b) (hb : b ≤ xs.length) :
    len = xs.length ∧ len ≤ cap ∧ Rep S w ι (.sl ((xs.take b).drop a)) (.slice (if cap = a then ad else ad.map (·.add (a * sz))) (b - a) (cap - a)) := by
  cases h with
  | imm _ _ h =>
    generalize hv : Value.slice ad len cap = v at h
    cases h with
    | snil =>
      injection hv with h1 h2 h3
      subst h1; subst h2; subst h3
      simp only [List.length_nil] at hb
      refine ⟨rfl, Nat.le_refl _, .imm _ _ ?_⟩
      have hb0 : b = 0 := by omega
      have ha0 : a = 0 := by omega
      subst hb0; subst ha0
      simp only [List.take_nil, List.drop_nil, if_true, Nat.sub_self]
      exact .snil
    | sl _ a' cap' sz' vals hcap hlim hS hl hcell hrep =>
      injection hv with h1 h2 h3
      subst h1; subst h2; subst h3
      refine ⟨rfl, hcap, .imm _ _ ?_⟩
      have hlen' : ((xs.take b).drop a).length = b - a := by simp; omega
      have hget : ∀ (i : Nat) r, ((xs.take b).drop a)[i]? = some r → i < b - a ∧ xs[a + i]? = some r := by
        intro i r hri
        have hlt := lt_of_get hri
        rw [hlen'] at hlt
        rw [List.getElem?_drop, List.getElem?_take] at hri
        rw [if_pos (by omega)] at hri
        exact ⟨hlt, hri⟩
      have hgen : ∀ ad' : Addr, ((xs.take b).drop a ≠ [] → ad' = ⟨a'.block, a'.off + a * sz', none⟩) → IRep S w (.sl ((xs.take b).drop a)) (.slice (some ad') (b - a) (cap - a)) := by
        intro ad' had
        have := IRep.sl (S := S) (w := w) ((xs.take b).drop a) ad' (cap - a) sz' (fun i => vals (a + i)) (by omega) (by omega) (fun hne => by
            rw [had hne]
            have hx : xs ≠ [] := by intro e; subst e; simp at hne
            exact ⟨(hS hx).1, rfl⟩) (fun i r hri => hl _ r (hget i r hri).2) (fun i j v hi hv => by
            have hne : (xs.take b).drop a ≠ [] := by intro e; rw [e] at hi; simp at hi
            rw [hlen'] at hi
            rw [had hne]
            have := hcell (a + i) j v (by omega) hv
            rw [Nat.add_mul] at this
            simp only
            rw [show a'.off + a * sz' + (i * sz' + j) = a'.off + (a * sz' + i * sz' + j) by omega]
            exact this) (fun i j r x v h1 h2 h3 => hrep _ j r x v (hget i r h1).2 h2 h3)
        rw [hlen'] at this
        exact this
      split
      · rename_i hca
        refine hgen a' (fun hne => ?_)
        have : 0 < ((xs.take b).drop a).length := List.length_pos_iff.2 hne
        omega
      · refine hgen (a'.add (a * sz)) (fun hne => ?_)
        have hx : xs ≠ [] := by intro e; subst e; simp at hne
        have hsp := (hS hx).2
        obtain ⟨x, hxm⟩ := List.exists_mem_of_ne_nil xs hx
        obtain ⟨i, hi⟩ := List.getElem?_of_mem hxm
        have e1 := (hl i x hi).1
        have e2 : a * sz = a * sz' := by
          rcases hlen with rfl | hlen
          · simp
          · rw [← hlen x hxm, e1]
        rw [e2]
        obtain ⟨bl, of, sp⟩ := a'
        simp only at hsp
        subst hsp
        exact add_plain _ _ _

theorem ck_int {e : Bool} {n : Nat} {kt : TypeId} {k q : IntKind} {i : Int} (h : P.underlying kt = some (.int k)) : (Instr.checkKey e (n + 1) kt (.int q i)).run P w = .ok () w := by
  rw [Instr.checkKey.eq_2]; simp only [Sem.run_bind, run_underlying h, Result.andThen_ok, Sem.run_pure]
theorem ck_str {e : Bool} {n : Nat} {kt : TypeId} {b : ByteArray} (h : P.underlying kt = some .string) : (Instr.checkKey e (n + 1) kt (.string b)).run P w = .ok () w := by
  rw [Instr.checkKey.eq_2]; simp only [Sem.run_bind, run_underlying h, Result.andThen_ok, Sem.run_pure]
theorem ck_bool {e : Bool} {n : Nat} {kt : TypeId} {b : Bool} (h : P.underlying kt = some .bool) : (Instr.checkKey e (n + 1) kt (.bool b)).run P w = .ok () w := by
  rw [Instr.checkKey.eq_2]; simp only [Sem.run_bind, run_underlying h, Result.andThen_ok, Sem.run_pure]
theorem sb_int (n : Nat) (k : IntKind) (i : Int) : Instr.sameBits n (.int k i) (.int k i) = true := by rw [Instr.sameBits.eq_2]; simp
theorem sb_str (n : Nat) (l : List UInt8) : Instr.sameBits n (.string ⟨l.toArray⟩) (.string ⟨l.toArray⟩) = true := by rw [Instr.sameBits.eq_5, bytes_eq]; simp
theorem sb_bool (n : Nat) (b : Bool) : Instr.sameBits n (.bool b) (.bool b) = true := by rw [Instr.sameBits.eq_1]; simp

theorem sb_pair (q r : IntKind) (a b : Int) : Instr.sameBits 10000 (.agg #[.int q a, .int r b]) (.agg #[.int q a, .int r b]) = true := by
  rw [show (10000 : Nat) = 9999 + 1 from rfl, Instr.sameBits.eq_10]
  simp [sb_int]
theorem pair_inv {q r : IntKind} {a b : Int} {u : Value} (hu : Rep S w ι (.agg [.int q a, .int r b]) u) : u = .agg #[.int q a, .int r b] := by
  obtain ⟨vs, rfl, hl, hg⟩ := hu.agg_inv
  match vs, hl with
  | ⟨[x, y]⟩, _ =>
    have h1 := (hg 0 _ x rfl rfl).int_inv
    have h2 := (hg 1 _ y rfl rfl).int_inv
    subst h1; subst h2; rfl

theorem keyEq_bits {kt : TypeId} {k k' : AV} {u v : Value} (h : keyEq P kt k k' = some true) (hu : Rep S w ι k u) (hv : IRep S w k' v) : Instr.sameBits 10000 v u = true := by
  unfold keyEq at h
  split at h
  · rename_i q0 q a q' b' ht
    split at h
    · rename_i e; subst e
      injection h with h
      rw [hu.int_inv]
      cases hv
      have : a = b' := by simpa using h
      subst this; exact sb_int _ _ _
    · cases h
  · rename_i a b' ht
    injection h with h
    rw [hu.str_inv]
    have hv' := (Rep.imm (ι := ι) _ _ hv).str_inv
    rw [hv']
    have : a = b' := by simpa using h
    subst this; exact sb_str _ _
  · rename_i a b' ht
    injection h with h
    rw [hu.bool_inv]
    cases hv
    have : a = b' := by simpa using h
    subst this; exact sb_bool _ _
  · rename_i fs q a r b q' a' r' b' ht
    split at h
    · rename_i e
      obtain ⟨e1, e2⟩ := e; subst e1; subst e2
      injection h with h
      have hv' := pair_inv (Rep.imm (ι := ι) _ _ hv)
      rw [pair_inv hu, hv']
      simp only [Bool.and_eq_true, beq_iff_eq] at h
      obtain ⟨rfl, rfl⟩ := h
      exact sb_pair _ _ _ _
    · cases h
  · cases h

theorem keyEq_now {kt : TypeId} {k k' : AV} {b : Bool} {u v : Value} {d : TypeDesc} (hd : P.underlying kt = some d) (hns : ∀ fs, d ≠ .struct fs) (h : keyEq P kt k k' = some b) (hu : Rep S w ι k u) (hv : IRep S w k' v) :
    Instr.sameNow d u v = some b := by
  unfold keyEq at h
  split at h
  · rename_i q0 q a q' b' ht
    rw [hd] at ht; injection ht with ht; subst ht
    split at h
    · rename_i e; subst e
      injection h with h; subst h
      rw [hu.int_inv]
      cases hv
      simp [Instr.sameNow]
    · cases h
  · rename_i a b' ht
    rw [hd] at ht; injection ht with ht; subst ht
    injection h with h; subst h
    rw [hu.str_inv]
    have hv' := (Rep.imm (ι := ι) _ _ hv).str_inv
    rw [hv']
    simp [Instr.sameNow, bytes_eq]
  · rename_i a b' ht
    rw [hd] at ht; injection ht with ht; subst ht
    injection h with h; subst h
    rw [hu.bool_inv]
    cases hv
    simp [Instr.sameNow]
  · rename_i fs q a r b q' a' r' b' ht
    rw [hd] at ht; injection ht with ht
    exact absurd ht (hns fs)
  · cases h

theorem findAt_now {p : Bool} {kt : TypeId} {k : AV} {u : Value} {d : TypeDesc} (hd : P.underlying kt = some d) (hns : ∀ fs, d ≠ .struct fs) (hu : Rep S w ι k u) :
    ∀ (es : List (AV × AV)) (xs : List MapEntry) (i : Nat) (r : Option Nat), MapRep p S w ι es xs → findAt P kt k es i r →
      (∃ e, Instr.findNow d u xs i = some e ∧ e.map (·.1) = r ∧ ∀ j y, e = some (j, y) → i ≤ j ∧ ∃ q, xs[j - i]? = some q ∧ q.val = y) := by
  intro es
  induction es with
  | nil =>
    intro xs i r hm h
    have : xs = [] := List.length_eq_zero_iff.1 hm.1.symm
    subst this
    simp only [findAt] at h
    subst h
    exact ⟨none, rfl, rfl, by simp⟩
  | cons e es ih =>
    intro xs i r hm h
    cases xs with
    | nil => have := hm.1; simp at this
    | cons x xs =>
      have hm' : MapRep p S w ι es xs := ⟨by simpa using hm.1, fun j a b ha hb => hm.2 (j + 1) a b (by simpa using ha) (by simpa using hb)⟩
      have hx := hm.2 0 e x rfl rfl
      simp only [findAt] at h
      rcases h with ⟨h1, rfl⟩ | ⟨h1, h2⟩
      · have hs := keyEq_now hd hns h1 hu hx.1
        refine ⟨some (i, x.val), by simp [Instr.findNow, hs], rfl, ?_⟩
        intro j y he
        injection he with he
        simp only [Prod.mk.injEq] at he
        obtain ⟨rfl, rfl⟩ := he
        exact ⟨Nat.le_refl _, x, by simp, rfl⟩
      · have hs := keyEq_now hd hns h1 hu hx.1
        obtain ⟨e', h3, h4, h5⟩ := ih xs (i + 1) r hm' h2
        refine ⟨e', by simp [Instr.findNow, hs, h3], h4, ?_⟩
        intro j y he
        obtain ⟨h6, q, h7, h8⟩ := h5 j y he
        refine ⟨by omega, q, ?_, h8⟩
        rw [show j - i = (j - (i + 1)) + 1 by omega]
        simpa using h7

theorem pairT_inv {kt : TypeId} (h : pairT P kt = true) : ∃ f g : Field, P.underlying kt = some (.struct #[f, g]) ∧ f.name ≠ "_" ∧ g.name ≠ "_" ∧ f.offset = 0 ∧ g.offset = 1 ∧
    (∃ k, P.underlying f.type = some (.int k)) ∧ (∃ k, P.underlying g.type = some (.int k)) ∧ (kindT P f.type).map (·.1) = some false ∧ (kindT P g.type).map (·.1) = some false ∧ plainEq P 20 kt = true ∧ P.cellsOf kt = 2 := by
  unfold pairT at h
  split at h
  · rename_i fs ht
    split at h
    · rename_i f g hfs
      simp only [Bool.and_eq_true, decide_eq_true_eq, bne_iff_ne, ne_eq] at h
      obtain ⟨⟨⟨⟨⟨⟨⟨⟨h1, h2⟩, h3⟩, h4⟩, h5⟩, h6⟩, h7⟩, h8⟩, h9⟩ := h
      have e : fs = #[f, g] := by apply Array.ext'; simpa using hfs
      subst e
      split at h5
      · rename_i a b ha hb
        exact ⟨f, g, ht, h1, h2, h3, h4, ⟨_, ha⟩, ⟨_, hb⟩, h6, h7, h8, h9⟩
      · cases h5
    · cases h
  · cases h

theorem part_one {t : TypeId} {xs : Array Value} {c : Nat} {v : Value} (h : (kindT P t).map (·.1) = some false) (hv : xs[c]? = some v) : (part t xs c).run P w = .ok v w := by
  rw [Option.map_eq_some_iff] at h
  obtain ⟨⟨b, n⟩, hk, hb⟩ := h
  simp only at hb; subst hb
  obtain ⟨ha, hs⟩ := kindT_run hk w
  unfold part
  simp only [Sem.run_bind, ha, Result.andThen_ok, Bool.false_eq_true, if_false, hv, Sem.run_pure]

theorem ck_pair {e : Bool} {kt : TypeId} {q r : IntKind} {a b : Int} (h : pairT P kt = true) : (Instr.checkKey e 10000 kt (.agg #[.int q a, .int r b])).run P w = .ok () w := by
  obtain ⟨f, g, ht, h1, h2, h3, h4, ⟨k1, hf⟩, ⟨k2, hg⟩, h6, h7, _, _⟩ := pairT_inv h
  have p1 : (part f.type #[.int q a, .int r b] f.offset).run P w = .ok (.int q a) w := part_one h6 (by rw [h3]; rfl)
  have p2 : (part g.type #[.int q a, .int r b] g.offset).run P w = .ok (.int r b) w := part_one h7 (by rw [h4]; rfl)
  have c1 : (Instr.checkKey e 9999 f.type (.int q a)).run P w = .ok () w := ck_int hf
  have c2 : (Instr.checkKey e 9999 g.type (.int r b)).run P w = .ok () w := ck_int hg
  rw [show (10000 : Nat) = 9999 + 1 from rfl, Instr.checkKey.eq_2]
  simp [run_underlying ht, h1, h2, p1, p2, c1, c2]

theorem findAsk {p : Bool} {kt : TypeId} {k : AV} {u : Value} (hk : keyOk P kt k = true) {fs : Array Field} (hd : P.underlying kt = some (.struct fs)) (hu : Rep S w ι k u) :
    ∀ (es : List (AV × AV)) (xs : List MapEntry) (i : Nat) (r : Option Nat), MapRep p S w ι es xs → findAt P kt k es i r →
      (∃ e, (Instr.findAsking kt u xs i).run P w = .ok e w ∧ e.map (·.1) = r ∧ ∀ j y, e = some (j, y) → i ≤ j ∧ ∃ q, xs[j - i]? = some q ∧ q.val = y) := by
  unfold keyOk at hk
  rw [hd] at hk
  split at hk
  · rename_i _ ht; cases ht
  · rename_i ht; cases ht
  · rename_i ht; cases ht
  · rename_i _ q a r0 b ht
    obtain ⟨f, g, hfg, _, _, ho1, ho2, ⟨ki, hfi⟩, ⟨kj, hgi⟩, _, _, hpl, hcl⟩ := pairT_inv hk
    have eqr : ∀ (k' : AV) (v : Value) (c : Bool), keyEq P kt (.agg [.int q a, .int r0 b]) k' = some c → IRep S w k' v → (Op.equal kt u v).run P w = .ok c w := by
      intro k' v c hc hv
      unfold keyEq at hc
      rw [hd] at hc
      split at hc
      · rename_i _ e0 _; cases e0
      · rename_i _ e0 _; cases e0
      · rename_i _ e0 _; cases e0
      · rename_i _ q1 a1 r1 b1 q' a' r' b' _ e1
        injection e1 with e1
        simp only [List.cons.injEq, AV.int.injEq, and_true] at e1
        obtain ⟨⟨rfl, rfl⟩, rfl, rfl⟩ := e1
        split at hc
        · rename_i e
          obtain ⟨e2, e3⟩ := e; subst e2; subst e3
          injection hc with hc; subst hc
          rw [pair_inv hu, pair_inv (Rep.imm (ι := ι) _ _ hv)]
          have h1 := hu; rw [pair_inv hu] at h1
          have h2 := Rep.imm (ι := ι) _ _ hv; rw [pair_inv h2] at h2
          obtain ⟨_, e4, hL1⟩ := h1.agg_inv
          injection e4 with e4; subst e4
          obtain ⟨_, e5, hL2⟩ := h2.agg_inv
          injection e5 with e5; subst e5
          refine agg_eq hL1 hL2 hpl hcl.symm hcl.symm ?_ ⟨_, hd⟩
          simp only [eqCells, hfg, eqFsG, hfi, hgi, ho1, ho2]
          simp
        · cases hc
      · cases hc
    intro es
    induction es with
    | nil =>
      intro xs i r hm h
      have : xs = [] := List.length_eq_zero_iff.1 hm.1.symm
      subst this
      simp only [findAt] at h
      subst h
      exact ⟨none, rfl, rfl, by simp⟩
    | cons e es ih =>
      intro xs i r hm h
      cases xs with
      | nil => have := hm.1; simp at this
      | cons x xs =>
        have hm' : MapRep p S w ι es xs := ⟨by simpa using hm.1, fun j a b ha hb => hm.2 (j + 1) a b (by simpa using ha) (by simpa using hb)⟩
        have hx := hm.2 0 e x rfl rfl
        simp only [findAt] at h
        rcases h with ⟨h1, rfl⟩ | ⟨h1, h2⟩
        · have hs := eqr _ _ _ h1 hx.1
          refine ⟨some (i, x.val), by simp [Instr.findAsking, hs], rfl, ?_⟩
          intro j y he
          injection he with he
          simp only [Prod.mk.injEq] at he
          obtain ⟨rfl, rfl⟩ := he
          exact ⟨Nat.le_refl _, x, by simp, rfl⟩
        · have hs := eqr _ _ _ h1 hx.1
          obtain ⟨e', h3, h4, h5⟩ := ih xs (i + 1) r hm' h2
          refine ⟨e', by simp [Instr.findAsking, hs, h3], h4, ?_⟩
          intro j y he
          obtain ⟨h6, q, h7, h8⟩ := h5 j y he
          refine ⟨by omega, q, ?_, h8⟩
          rw [show j - i = (j - (i + 1)) + 1 by omega]
          simpa using h7
  · cases hk

theorem findAt_run {p : Bool} {kt : TypeId} {k : AV} {u : Value} {d : TypeDesc} (hd : P.underlying kt = some d) (hk : keyOk P kt k = true) (hu : Rep S w ι k u)
    {es : List (AV × AV)} {xs : List MapEntry} {r : Option Nat} (hm : MapRep p S w ι es xs) (h : findAt P kt k es 0 r) :
    ∃ e, (Instr.findKey kt u xs).run P w = .ok e w ∧ e.map (·.1) = r ∧ ∀ j y, e = some (j, y) → ∃ q, xs[j]? = some q ∧ q.val = y := by
  by_cases hs : ∃ fs, d = .struct fs
  · obtain ⟨fs, rfl⟩ := hs
    obtain ⟨e, h1, h2, h3⟩ := findAsk hk hd hu es xs 0 r hm h
    refine ⟨e, ?_, h2, fun j y he => by simpa using (h3 j y he).2⟩
    rw [run_findKey_eq w (by rw [hd])]
    exact h1
  · obtain ⟨e, h1, h2, h3⟩ := findAt_now hd (fun fs e => hs ⟨fs, e⟩) hu es xs 0 r hm h
    refine ⟨e, ?_, h2, fun j y he => by simpa using (h3 j y he).2⟩
    simp only [Instr.findKey, Sem.run_bind, run_underlying hd, Result.andThen_ok, h1, Sem.run_pure]
end
end Go.Ab
