/-
  AbStepOk: an abstract step is one of the model.
-/
import Derived.Test.YtnofpgegbhegnaaGreatDoorAbStep
namespace Go.Ab
section
variable {S : Nat → Prop} {w : World} {ι : Imap} {P : Program}

theorem loadVar_at {row : List AV} {vals : List Value} (hL : RepL S w ι row vals) {blk b0 : Nat} (hcell : ∀ (j : Nat) v, vals[j]? = some v → cellOf w blk (b0 + j) = some v ∧ v.oneCell' = true)
    {t : TypeId} {c : Nat} {v : AV} (hl : loadAs P t row c = some v) : ∃ v', (loadVar t ⟨blk, b0 + c, none⟩).run P w = .ok v' w ∧ Rep S w ι v v' := by
  unfold loadAs at hl
  split at hl
  · rename_i n hk
    split at hl
    · rename_i hc
      injection hl with hl; subst hl
      obtain ⟨h1, h2⟩ := kindT_run hk w
      have hr := (hL.drop c).take n
      have hlen : ((vals.drop c).take n).length = n := by
        have := hL.1
        simp; omega
      have hload := run_loadCells_list (P := P) w ⟨blk, b0 + c, none⟩ ((vals.drop c).take n) (fun j v hv => by
        rw [add_plain]
        rw [List.getElem?_take] at hv
        split at hv
        · rw [List.getElem?_drop] at hv
          have := (hcell _ _ hv).1
          rw [show b0 + c + j = b0 + (c + j) by omega]; exact this
        · cases hv)
      rw [hlen] at hload
      refine ⟨.agg ((vals.drop c).take n).toArray, ?_, RepL.agg (by simpa using hr)⟩
      unfold loadVar
      simp only [Sem.run_bind, h1, Result.andThen_ok, if_true, h2, hload, Sem.run_pure]
    · cases hl
  · rename_i n hk
    obtain ⟨h1, h2⟩ := kindT_run hk w
    obtain ⟨v', hv, hr⟩ := hL.get hl
    refine ⟨v', ?_, hr⟩
    have := (hcell _ _ hv).1
    unfold loadVar
    simp only [Sem.run_bind, h1, Result.andThen_ok, Bool.false_eq_true, if_false, run_load]
    simp only [cellOf] at this
    rw [this]
  · cases hl

theorem RowsRep.get {p : Bool} {rs : List (List AV)} {vals : Nat → List Value} (h : RowsRep p S w ι rs vals) {i : Nat} {row : List AV} (hr : rs[i]? = some row) :
    RepL S w ι row (vals i) := by
  have := h i row hr
  cases p
  · simpa using this
  · simp only [if_true] at this; exact this.rep

theorem lt_of_get {α : Type} {l : List α} {i : Nat} {x : α} (h : l[i]? = some x) : i < l.length := by
  rcases Nat.lt_or_ge i l.length with h' | h'
  · exact h'
  · rw [List.getElem?_eq_none h'] at h; cases h

/-- the rows of an object, live or frozen -/
theorem obj_rows {o : Nat} {y : AO} {rs : List (List AV)} (h : ObjOk S w ι o y) (hy : y = .rows true rs ∨ y = .rows false rs ∨ y = .froz rs) :
    (ι o = some none ∧ rs = []) ∨ ∃ l vals, ι o = some (some l) ∧ rs.length = l.cnt ∧ RowsAt w l rs.length vals ∧ ∀ (i : Nat) row, rs[i]? = some row → RepL S w ι row (vals i) := by
  rcases hy with rfl | rfl | rfl
  · rcases h with h | ⟨l, vals, h1, h2, h3, h4, h5⟩
    · exact .inl h
    · exact .inr ⟨l, vals, h1, h2, h4, fun i row hr => h5.get hr⟩
  · rcases h with h | ⟨l, vals, h1, h2, h3, h4, h5⟩
    · exact .inl h
    · exact .inr ⟨l, vals, h1, h2, h4, fun i row hr => h5.get hr⟩
  · rcases h with h | ⟨l, vals, h1, h2, h3, h4, h5⟩
    · exact .inl h
    · exact .inr ⟨l, vals, h1, h2, h4, fun i row hr => h5.get hr⟩

theorem rp_inv {row : List AV} {c : Nat} {v : Value} (h : Rep S w ι (.rp row c) v) :
    ∃ blk base vals, v = .pointer (some ⟨blk, base + c, none⟩) ∧ S blk ∧ IRepL S w row vals ∧ ∀ (j : Nat) v, vals[j]? = some v → cellOf w blk (base + j) = some v ∧ v.oneCell' = true := by
  cases h with
  | imm _ _ h =>
    cases h with
    | rp _ _ blk base vals hS hl hcell h => exact ⟨blk, base, vals, rfl, hS, ⟨hl, h⟩, hcell⟩

theorem sl_inv {xs : List (List AV)} {v : Value} (h : Rep S w ι (.sl xs) v) {i : Nat} {row : List AV} (hr : xs[i]? = some row) :
    ∃ (a : Addr) (cap sz : Nat) (vals : List Value), v = .slice (some a) xs.length cap ∧ a.spot = none ∧ S a.block ∧ row.length = sz ∧ IRepL S w row vals ∧
      ∀ (j : Nat) v, vals[j]? = some v → cellOf w a.block (a.off + i * sz + j) = some v ∧ v.oneCell' = true := by
  cases h with
  | imm _ _ h =>
    cases h with
    | snil => simp at hr
    | sl _ a cap sz vals hcap hlim hS hlen hcell hrep =>
      have hne : xs ≠ [] := by intro e; subst e; simp at hr
      have hl := hlen i row hr
      exact ⟨a, cap, sz, vals i, rfl, (hS hne).2, (hS hne).1, hl.1, ⟨by rw [hl.1, hl.2], fun j x v hx hv => hrep i j row x v hr hx hv⟩,
        fun j v hv => by rw [Nat.add_assoc]; exact hcell i j v (lt_of_get hr) hv⟩

theorem bytesless_lem (a b : List UInt8) : Op.bytesLess (⟨a.toArray⟩ : ByteArray).toList (⟨b.toArray⟩ : ByteArray).toList = Op.bytesLess a b := by simp

/-- equality of rows, in the model -/
theorem eqCells_ok : ∀ (d : Nat) (t : TypeId) (xs ys : List AV) (c : Nat) (r : Bool), eqCells P d t xs ys c = some r → plainEq P d t = true →
    ∀ (us vs : Array Value), RepL S w ι xs us.toList → RepL S w ι ys vs.toList → c + P.cellsOf t ≤ xs.length → c + P.cellsOf t ≤ ys.length →
    ∀ (x y : Value), (part t us c).run P w = .ok x w → (part t vs c).run P w = .ok y w → (Op.equalIn (d + 1) t x y).run P w = .ok r w := by
  intro d
  induction d with
  | zero => intro t xs ys c r h; simp [eqCells] at h
  | succ d ih =>
    intro t xs ys c r h hp us vs hu hv hcx hcy x y hx hy
    unfold eqCells at h
    split at h
    · rename_i k ht
      have hag : (isAgg t).run P w = .ok false w := by unfold isAgg; simp [run_underlying ht]
      split at h
      · rename_i k1 a k2 b h1 h2
        split at h
        · rename_i e; subst e
          injection h with h; subst h
          obtain ⟨u, hu1, hu2⟩ := hu.get h1
          obtain ⟨v, hv1, hv2⟩ := hv.get h2
          have e1 : us[c]? = some u := by simpa using hu1
          have e2 : vs[c]? = some v := by simpa using hv1
          unfold part at hx hy
          simp only [Sem.run_bind, hag, Result.andThen_ok, Bool.false_eq_true, if_false, e1, e2, Sem.run_pure, Result.ok.injEq, and_true] at hx hy
          subst hx; subst hy
          rw [hu2.int_inv, hv2.int_inv]
          exact run_equalIn_int w (d + 1) t k1 k a b ht
        · cases h
      · cases h
    · rename_i ht
      have hag : (isAgg t).run P w = .ok false w := by unfold isAgg; simp [run_underlying ht]
      split at h
      · rename_i a b h1 h2
        injection h with h; subst h
        obtain ⟨u, hu1, hu2⟩ := hu.get h1
        obtain ⟨v, hv1, hv2⟩ := hv.get h2
        have e1 : us[c]? = some u := by simpa using hu1
        have e2 : vs[c]? = some v := by simpa using hv1
        unfold part at hx hy
        simp only [Sem.run_bind, hag, Result.andThen_ok, Bool.false_eq_true, if_false, e1, e2, Sem.run_pure, Result.ok.injEq, and_true] at hx hy
        subst hx; subst hy
        rw [hu2.str_inv, hv2.str_inv]
        rw [run_equalIn_string w (d + 1) t _ _ ht]; simp
      · cases h
    · rename_i ht
      have hag : (isAgg t).run P w = .ok false w := by unfold isAgg; simp [run_underlying ht]
      split at h
      · rename_i a b h1 h2
        injection h with h; subst h
        obtain ⟨u, hu1, hu2⟩ := hu.get h1
        obtain ⟨v, hv1, hv2⟩ := hv.get h2
        have e1 : us[c]? = some u := by simpa using hu1
        have e2 : vs[c]? = some v := by simpa using hv1
        unfold part at hx hy
        simp only [Sem.run_bind, hag, Result.andThen_ok, Bool.false_eq_true, if_false, e1, e2, Sem.run_pure, Result.ok.injEq, and_true] at hx hy
        subst hx; subst hy
        rw [hu2.bool_inv, hv2.bool_inv]
        exact run_equalIn_bool w (d + 1) t a b ht
      · cases h
    · rename_i fs ht
      unfold plainEq at hp
      rw [ht] at hp
      simp only [Bool.and_eq_true, Bool.not_eq_eq_eq_not, Bool.not_true] at hp
      obtain ⟨⟨hst, hkind⟩, hall⟩ := hp
      have hag : (isAgg t).run P w = .ok true w := by unfold isAgg; simp [run_underlying ht]
      have hsz : (sizeOf t).run P w = .ok (P.cellsOf t) w := by
        obtain ⟨⟨b, n⟩, hk⟩ := Option.isSome_iff_exists.1 hkind
        have := (kindT_run hk w).2
        unfold kindT at hk
        split at hk
        · cases hk
        · split at hk
          · cases hk
          · rename_i i hi
            rw [run_sizeOf_info hi]
            simp [Program.cellsOf, hi]
      unfold part at hx hy
      simp only [Sem.run_bind, hag, Result.andThen_ok, if_true, hsz, Sem.run_pure, Result.ok.injEq, and_true] at hx hy
      subst hx; subst hy
      have hfo : P.fieldsOf t = fs := by simp [Program.fieldsOf, ht]
      rw [run_equalIn_struct w (d + 1) t _ _ (by rw [hfo]; exact ht) hst, hfo]
      have hall' : ∀ f ∈ fs.toList, (f.name != "_" && plainEq P d f.type && decide (f.offset + P.cellsOf f.type ≤ P.cellsOf t)) = true := by
        intro f hf
        have := Array.all_eq_true.1 hall
        obtain ⟨i, hi, he⟩ := List.getElem_of_mem hf
        have := this i (by simpa using hi)
        simp only [Array.getElem_toList] at he
        rw [he] at this
        exact this
      clear hall
      generalize fs.toList = l at h hall'
      clear ht hfo
      induction l generalizing r with
      | nil =>
        simp only [eqFsG, Option.some.injEq] at h
        subst h
        rfl
      | cons f l ihl =>
        simp only [eqFsG] at h
        split at h
        · rename_i a b ha hb
          injection h with h; subst h
          have hf := hall' f (by simp)
          simp only [Bool.and_eq_true, decide_eq_true_eq] at hf
          obtain ⟨⟨hf1, hf2⟩, hf3⟩ := hf
          have hname : f.name ≠ "_" := by simpa using hf1
          -- the two parts
          have hpart : ∀ (us : Array Value) (zs : List AV), RepL S w ι zs us.toList → c + P.cellsOf t ≤ zs.length →
              ∃ q, (part f.type us (c + f.offset)).run P w = .ok q w ∧ (part f.type (us.extract c (c + P.cellsOf t)) f.offset).run P w = .ok q w := by
            intro us zs hz hzl
            have hzl' := hz.1
            simp only [Array.length_toList] at hzl'
            have one : (isAgg f.type).run P w = .ok false w → P.cellsOf f.type = 1 → ∃ q, (part f.type us (c + f.offset)).run P w = .ok q w ∧ (part f.type (us.extract c (c + P.cellsOf t)) f.offset).run P w = .ok q w := by
              intro hagf hone
              have hlt : c + f.offset < us.size := by omega
              have h1 : us[c + f.offset]? = some us[c + f.offset] := Array.getElem?_eq_getElem hlt
              have h2 : (us.extract c (c + P.cellsOf t))[f.offset]? = some us[c + f.offset] := by
                rw [Array.getElem?_extract, if_pos (by omega), h1]
              refine ⟨us[c + f.offset], ?_, ?_⟩
              · unfold part
                simp only [Sem.run_bind, hagf, Result.andThen_ok, Bool.false_eq_true, if_false, h1, Sem.run_pure]
              · unfold part
                simp only [Sem.run_bind, hagf, Result.andThen_ok, Bool.false_eq_true, if_false, h2, Sem.run_pure]
            cases d with
            | zero => simp [plainEq] at hf2
            | succ d =>
              unfold plainEq at hf2
              split at hf2
              · rename_i fs' hft
                simp only [Bool.and_eq_true] at hf2
                obtain ⟨⟨bb, n⟩, hk⟩ := Option.isSome_iff_exists.1 hf2.1.2
                have hszf : (sizeOf f.type).run P w = .ok (P.cellsOf f.type) w := by
                  unfold kindT at hk
                  split at hk
                  · cases hk
                  · split at hk
                    · cases hk
                    · rename_i i hi
                      rw [run_sizeOf_info hi]; simp [Program.cellsOf, hi]
                have hagf : (isAgg f.type).run P w = .ok true w := by unfold isAgg; simp [run_underlying hft]
                refine ⟨.agg (us.extract (c + f.offset) (c + f.offset + P.cellsOf f.type)), by unfold part; simp [hagf, hszf], ?_⟩
                unfold part
                simp only [Sem.run_bind, hagf, Result.andThen_ok, if_true, hszf, Sem.run_pure, Array.extract_extract]
                congr 2
                rw [Nat.min_eq_left (by omega)]
                congr 1
                omega
              · rename_i kk hft
                exact one (by unfold isAgg; simp [run_underlying hft]) (by simpa using hf2)
              · rename_i hft
                exact one (by unfold isAgg; simp [run_underlying hft]) (by simpa using hf2)
              · rename_i hft
                exact one (by unfold isAgg; simp [run_underlying hft]) (by simpa using hf2)
              · simp at hf2
          obtain ⟨q1, hq1, hq1'⟩ := hpart us xs hu hcx
          obtain ⟨q2, hq2, hq2'⟩ := hpart vs ys hv hcy
          have he := ih f.type xs ys (c + f.offset) a ha hf2 us vs hu hv (by omega) (by omega) q1 q2 hq1 hq2
          simp only [Op.eqFields, hname, ne_eq, not_false_iff, if_true, Sem.run_bind, hq1', Result.andThen_ok, hq2', he]
          cases a
          · rfl
          · simp only [Bool.not_true, Bool.false_eq_true, if_false, Bool.true_and]
            exact ihl b hb (fun g hg => hall' g (by simp [hg]))
        · cases h
    · cases h
end
end Go.Ab
