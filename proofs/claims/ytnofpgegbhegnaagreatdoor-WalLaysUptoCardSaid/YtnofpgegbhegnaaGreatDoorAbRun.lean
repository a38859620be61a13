/-
  AbRun: the evaluator, one operation.
-/
import Derived.Test.YtnofpgegbhegnaaGreatDoorAbRunB
namespace Go.Ab

def elemT (P : Program) (t : TypeId) : Option TypeId :=
  match P.underlying t with
  | some (.slice e) => some e
  | _ => none
def sizeT (P : Program) (t : TypeId) : Option Nat := (kindT P t).map (·.2)

/-- a call that is handed objects -/
structure CallG (P : Program) (G : Gmap) (f : Nat) (avs : List AV) (ol : Nat → Option AO) (id : Nat) (K : AV → List (Nat × Option AO) → List Nat → Prop) : Prop where
  h : ∃ (V : List Nat) (oin : List (Nat × AO)) (argsC : List AV) (rv : AV) (os' : List (Nat × AO)), FC P G f oin argsC rv os' ∧ Hands V id ol avs oin argsC ∧
    fAV (renAV (bk V id) rv) fun v => K v (backU V id os') V
theorem callG_w {P : Program} {G : Gmap} {f : Nat} {avs : List AV} {ol : Nat → Option AO} {id : Nat} {K : AV → List (Nat × Option AO) → List Nat → Prop}
    (V : List Nat) {oin : List (Nat × AO)} {argsC : List AV} {rv : AV} {os' : List (Nat × AO)} (hf : FC P G f oin argsC rv os')
    (h1 : (decide V.Nodup && idsBL V.length argsC && oin.all fun e => idsBO V.length e.2) = true) (h2 : oin.map (·.1) = List.range V.length)
    (h3 : WkOs (V.map ol) (oin.map fun e => some (renO (bk V id) e.2))) (h4 : WkL avs (renL (bk V id) argsC)) (hK : fAV (renAV (bk V id) rv) fun v => K v (backU V id os') V) :
    CallG P G f avs ol id K := ⟨V, oin, argsC, rv, os', hf, ⟨h1, h2, h3, h4⟩, hK⟩
theorem callG_i {P : Program} {G : Gmap} {f : Nat} {avs : List AV} {ol : Nat → Option AO} {id : Nat} {K : AV → List (Nat × Option AO) → List Nat → Prop}
    (V : List Nat) {oin : List (Nat × AO)} {argsC : List AV} {rv : AV} {os' : List (Nat × AO)} (hf : FC P G f oin argsC rv os')
    (h1 : (decide V.Nodup && idsBL V.length argsC && oin.all fun e => idsBO V.length e.2) = true) (h2 : oin.map (·.1) = List.range V.length)
    (h3 : oin.map (fun e => some (renO (bk V id) e.2)) = V.map ol) (h4 : renL (bk V id) argsC = avs) (hK : fAV (renAV (bk V id) rv) fun v => K v (backU V id os') V) :
    CallG P G f avs ol id K := ⟨V, oin, argsC, rv, os', hf, ⟨h1, h2, .of_eq h3, .of_eq h4⟩, hK⟩

/-- one case for each place of an array -/
def CaseAt (K : Nat → Prop) (n : Int) : Nat → Nat → Prop
  | 0, _ => True
  | k + 1, i => brn (n == Int.ofNat i) (K i) (fN (i + 1) fun j => CaseAt K n k j)
theorem caseAt_e {K : Nat → Prop} {n : Int} : ∀ (k i : Nat), CaseAt K n k i → (i : Int) ≤ n → n < (i + k : Nat) → K n.toNat := by
  intro k
  induction k with
  | zero => intro i _ h1 h2; omega
  | succ k ih =>
    intro i h h1 h2
    simp only [CaseAt] at h
    rcases brn_e h with ⟨hb, hx⟩ | ⟨hb, hx⟩
    · have : n = (i : Int) := by simpa using hb
      subst this
      rw [Int.toNat_natCast]
      exact hx
    · rw [fN_eq] at hx
      have : n ≠ (i : Int) := by simpa using hb
      exact ih (i + 1) hx (by omega) (by omega)
theorem caseAt_or {K : Nat → Prop} {n : Int} {k : Nat} (h0 : 0 ≤ n) (h1 : n < (k : Int)) (h : K n.toNat ∨ CaseAt K n k 0) : K n.toNat := by
  rcases h with h | h
  · exact h
  · exact caseAt_e k 0 h (by simpa using h0) (by simpa using h1)
/-- ONE OPERATION -/
def xop (P : Program) (G : Gmap) (ev : Operand → AV) (ol : Nat → Option AO) (ids : List Nat) (id : Nat) (ty : TypeId) (op : Op) (K : AV → List (Nat × Option AO) → List Nat → Prop) : Prop :=
  match op with
  | .assign (.const (.slice none 0 0)) => opt (rowT P ty) fun z => K (.osw id z) [(id, some (.rows true []))] []
  | .pick c a b => match ev c with
    | .bool t => brn t (fAV (ev a) fun v => K v [] []) (fAV (ev b) fun v => K v [] [])
    | _ => False
  | .alloc t => opt (zeroA P t) fun cs => fL cs fun cs => K (.ptr id 0 0) [(id, some (.rows false [cs]))] []
  | .box _ x => opt (cellsOfAV (ev x)) fun cs => fL cs fun cs => K (.ptr id 0 0) [(id, some (.rows false [cs]))] []
  | .load t a => match ev a with
    | .ptr o i c => opt (rowsR ol o) fun rs => opt (rs[i]?) fun row => opt (loadAs P t row c) fun v => fAV v fun v => K v [] [o]
    | .rp row c => opt (loadAs P t row c) fun v => fAV v fun v => K v [] []
    | _ => False
  | .store t a x => match ev a with
    | .ptr o i c => match ol o with
      | some (.rows p rs) => opt (rs[i]?) fun row => opt (cellsOfAV (ev x)) fun cs => opt (sizeT P t) fun n =>
          brn (decide (cs.length = n) && decide (c + n ≤ row.length)) (fU (p && cs.all idFree) (rs.set i (setAt row c cs)) fun y => K .undef [(o, some y)] []) False
      | _ => False
    | _ => False
  | .indexAddr t x ix => match ev ix with
    | .int _ n => match ev x with
      | .sl xs => 0 ≤ n ∧ opt (elemT P t) fun e => opt (sizeT P e) fun sz => opt (xs[n.toNat]?) fun row => brn (decide (sz = row.length)) (K (.rp row 0) [] []) False
      | .osw o _ => 0 ≤ n ∧ opt (elemT P t) fun e => opt (sizeT P e) fun sz => opt (rowsR ol o) fun rs => opt (rs[n.toNat]?) fun row => brn (decide (sz = row.length)) (K (.ptr o n.toNat 0) [] [o]) False
      | .osl o off len _ => 0 ≤ n ∧ n.toNat < len ∧ opt (elemT P t) fun e => opt (sizeT P e) fun sz => opt (rowsR ol o) fun rs => opt (rs[off + n.toNat]?) fun row =>
          brn (decide (sz = row.length)) (K (.ptr o (off + n.toNat) 0) [] [o]) False
      | .ptr o r c => match P.underlying t with
        | some (.array len e) => 0 ≤ n ∧ n < len ∧ opt (sizeT P e) fun sz => K (.ptr o r (c + n.toNat * sz)) [] [] ∨ CaseAt (fun i => K (.ptr o r (c + i * sz)) [] []) n len 0
        | _ => False
      | .rp row c => match P.underlying t with
        | some (.array len e) => 0 ≤ n ∧ n < len ∧ opt (sizeT P e) fun sz => K (.rp row (c + n.toNat * sz)) [] [] ∨ CaseAt (fun i => K (.rp row (c + i * sz)) [] []) n len 0
        | _ => False
      | _ => False
    | _ => False
  | .index t x ix => match ev ix with
    | .int _ n => match ev x with
      | .str l => match P.underlying t with
        | some .string => 0 ≤ n ∧ opt (l[n.toNat]?) fun c => K (.int .u8 c.toNat) [] []
        | _ => False
      | .agg cs => match P.underlying t with
        | some (.array len e) => 0 ≤ n ∧ n < len ∧ opt (sizeT P e) fun sz => (opt (loadAs P e cs (n.toNat * sz)) fun v => fAV v fun v => K v [] []) ∨ CaseAt (fun i => opt (loadAs P e cs (i * sz)) fun v => fAV v fun v => K v [] []) n len 0
        | _ => False
      | _ => False
    | _ => False
  | .binOp .quo _ x y _ => match ev x, ev y with
    | .int k a, .int k' b => match decEq k k' with | .isTrue _ => b ≠ 0 ∧ K (.int k (k.wrap (a.tdiv b))) [] [] | .isFalse _ => False
    | _, _ => False
  | .binOp .rem _ x y _ => match ev x, ev y with
    | .int k a, .int k' b => match decEq k k' with | .isTrue _ => b ≠ 0 ∧ K (.int k (a.tmod b)) [] [] | .isFalse _ => False
    | _, _ => False
  | .binOp .shl _ x y _ => match ev x, ev y with
    | .int k a, .int _ b => 0 ≤ b ∧ K (.int k (k.wrap (a * 2 ^ (min b.toNat k.bits)))) [] []
    | _, _ => False
  | .binOp .shr _ x y _ => match ev x, ev y with
    | .int k a, .int _ b => 0 ≤ b ∧ K (.int k (a.fdiv (2 ^ (min b.toNat k.bits)))) [] []
    | _, _ => False
  | .binOp .eql t x (.const (.slice none 0 0)) _ => opt (elemT P t) fun _ => match ev x with
    | .sl xs => K (.anyb (xs = [])) [] []
    | .osw o _ => match ol o with
      | some (.rows true rs) => K (.anyb (rs = [])) [] [o]
      | _ => False
    | _ => False
  | .binOp op t x y _ => match ev x, ev y with
    | .agg cs, .agg ds => match op with
      | .eql => ((plainEq P 20 t && !P.eqGuardType P.depth t && decide (cs.length = P.cellsOf t) && decide (ds.length = P.cellsOf t)) = true ∧ ∃ fs, P.underlying t = some (.struct fs)) ∧
          opt (eqCells P 20 t cs ds 0) fun r => K (.bool r) [] []
      | .neq => ((plainEq P 20 t && !P.eqGuardType P.depth t && decide (cs.length = P.cellsOf t) && decide (ds.length = P.cellsOf t)) = true ∧ ∃ fs, P.underlying t = some (.struct fs)) ∧
          opt (eqCells P 20 t cs ds 0) fun r => K (.bool !r) [] []
      | _ => False
    | .str a, .str b => match op with
      | .add => a.length + b.length ≤ 9223372036854775807 ∧ K (.str (a ++ b)) [] []
      | op => opt (bin P op t (.str a) (.str b)) fun v => K v [] []
    | x, y => opt (bin P op t x y) fun v => fAV v fun v => K v [] []
  | .call { callee := .builtin .len, args, argTypes } => opt (argTypes[0]?) fun t => opt (args[0]?) fun x => match ev x with
    | .osw o _ => opt (elemT P t) fun _ => opt (rowsR ol o) fun rs => K (.int .i64 rs.length) [] [o]
    | .mapo o => match ol o with
      | some (.fmap _ fs _) => brn (keyT P t).isSome (K (.int .i64 fs.length) [] [o]) False
      | _ => False
    | v => opt (lenOp P t v) fun v => K v [] []
  | .call { callee := .value fn, args, .. } => match ev fn with
    | .fn f cap => (opt (optMap (closeAV ids ol 8) (args.toList.map ev ++ cap)) fun argsC => fL argsC fun argsC =>
        ∃ rv os', FC P G f [] argsC rv os' ∧
          ((flat rv = true ∧ os' = [] ∧ fAV rv fun rv => K rv [] ids) ∨ ∃ V, (optMap (closeAV V ol 8) (args.toList.map ev ++ cap) = some argsC) ∧
            opt (frozen V ol 8) fun U => fAV (renAV (id + ·) rv) fun rv => K rv (U ++ addNew id os') V)) ∨
        CallG P G f (args.toList.map ev ++ cap) ol id K
    | _ => False
  | .slice t x lo hi mx => xopB P ev ol id (.slice t x lo hi mx) K
  | .convert s d x => brn (cnvT P s d) (xopF P ev ol id (.convert s d x) K) (brn (bytesT P s d || bytesT P d s) (xopB P ev ol id (.convert s d x) K) (opt (pval P ev (.convert s d x)) fun v => fAV v fun v => K v [] []))
  | .makeSlice t l c => xopB P ev ol id (.makeSlice t l c) K
  | .buildSlice t l ps => xopB P ev ol id (.buildSlice t l ps) K ∨ LitX (xopF P ev ol id (.buildSlice t l ps) K)
  | .makeMap t none => xopB P ev ol id (.makeMap t none) K ∨ brn (keyT P t).isSome (FMk id K) False
  | .makeMap t r => xopB P ev ol id (.makeMap t r) K
  | .mapUpdate t m k x => orF (isF ev ol m) (xopF P ev ol id (.mapUpdate t m k x) K) (xopB P ev ol id (.mapUpdate t m k x) K)
  | .insert t m k x => orF (isF ev ol m) (xopF P ev ol id (.insert t m k x) K) (xopB P ev ol id (.insert t m k x) K)
  | .lookup t m k ok => orF (isF ev ol m) (xopF P ev ol id (.lookup t m k ok) K) (xopB P ev ol id (.lookup t m k ok) K)
  | .call { callee := .builtin .append, args, argTypes } => xopB P ev ol id (.call { callee := .builtin .append, args, argTypes }) K
  | .call { callee := .builtin .delete, args, argTypes } => xopF P ev ol id (.call { callee := .builtin .delete, args, argTypes }) K
  | .call { callee := .builtin .clear, args, argTypes } => xopF P ev ol id (.call { callee := .builtin .clear, args, argTypes }) K
  | op => opt (pval P ev op) fun v => fAV v fun v => K v [] []

theorem elemT_inv {P : Program} {t e : TypeId} (h : elemT P t = some e) : P.underlying t = some (.slice e) := by
  unfold elemT at h
  split at h
  · rename_i q; injection h with h; subst h; exact q
  · cases h
theorem sizeT_inv {P : Program} {t : TypeId} {n : Nat} (h : sizeT P t = some n) : ∃ b, kindT P t = some (b, n) := by
  unfold sizeT at h
  rw [Option.map_eq_some_iff] at h
  obtain ⟨⟨b, m⟩, h1, rfl⟩ := h
  exact ⟨b, h1⟩

theorem xop_ok {P : Program} {G : Gmap} {ev : Operand → AV} {ol : Nat → Option AO} {ids : List Nat} {id : Nat} {ty : TypeId} {op : Op} {K : AV → List (Nat × Option AO) → List Nat → Prop}
    (h : xop P G ev ol ids id ty op K) : ∃ v U RO, AStep P G ev ol id op v U RO ∧ K v U RO := by
  have pv : ∀ {op : Op}, (opt (pval P ev op) fun v => fAV v fun v => K v [] []) → ∃ v U RO, AStep P G ev ol id op v U RO ∧ K v U RO := by
    intro op h
    obtain ⟨v, hv, h⟩ := opt_e h
    rw [fAV_eq] at h
    exact ⟨v, [], [], .pure op v hv, h⟩
  have bv : ∀ {op : Op}, xopB P ev ol id op K → ∃ v U RO, AStep P G ev ol id op v U RO ∧ K v U RO := by
    intro op h
    obtain ⟨v, U, RO, h1, h2⟩ := xopB_ok h
    exact ⟨v, U, RO, .more op v U RO h1, h2⟩
  have fv : ∀ {b : Bool} {op : Op}, orF b (xopF P ev ol id op K) (xopB P ev ol id op K) → ∃ v U RO, AStep P G ev ol id op v U RO ∧ K v U RO := by
    intro b op h
    rcases orF_e h with h | h
    · obtain ⟨v, U, RO, h1, h2⟩ := xopF_ok h
      exact ⟨v, U, RO, .files op v U RO h1, h2⟩
    · exact bv h
  unfold xop at h
  split at h
  · obtain ⟨z, _, h⟩ := opt_e h
    exact ⟨_, _, _, .nil z, h⟩
  · rename_i c a b
    split at h
    · rename_i t hc
      rcases brn_e h with ⟨ht, h'⟩ | ⟨ht, h'⟩
      · subst ht
        rw [fAV_eq] at h'
        exact ⟨_, _, _, .pick c a b true hc, h'⟩
      · subst ht
        rw [fAV_eq] at h'
        exact ⟨_, _, _, .pick c a b false hc, h'⟩
    · exact h.elim
  · rename_i t
    obtain ⟨cs, hz, h⟩ := opt_e h
    rw [fL_eq] at h
    exact ⟨_, _, _, .alloc t cs hz, h⟩
  · rename_i t x
    obtain ⟨cs, hz, h⟩ := opt_e h
    rw [fL_eq] at h
    exact ⟨_, _, _, .box t x cs hz, h⟩
  · rename_i t a
    split at h
    · rename_i o i c hev
      obtain ⟨rs, hrs, h⟩ := opt_e h
      obtain ⟨row, hrow, h⟩ := opt_e h
      obtain ⟨v, hv, h⟩ := opt_e h
      rw [fAV_eq] at h
      obtain ⟨y, hy, hy'⟩ := rowsR_inv hrs
      rcases hy' with rfl | rfl | rfl
      · exact ⟨_, _, _, .load t a o i c _ rs row v hev hy hrow hv, h⟩
      · exact ⟨_, _, _, .load t a o i c _ rs row v hev hy hrow hv, h⟩
      · exact ⟨_, _, _, .loadf t a o i c rs row v hev hy hrow hv, h⟩
    · rename_i row c hev
      obtain ⟨v, hv, h⟩ := opt_e h
      rw [fAV_eq] at h
      exact ⟨_, _, _, .loadr t a row c v hev hv, h⟩
    · exact h.elim
  · rename_i t a x
    split at h
    · rename_i o i c hev
      split at h
      · rename_i p rs ho
        obtain ⟨row, hrow, h⟩ := opt_e h
        obtain ⟨cs, hcs, h⟩ := opt_e h
        obtain ⟨n, hn, h⟩ := opt_e h
        obtain ⟨b, hk⟩ := sizeT_inv hn
        rcases brn_e h with ⟨hc, h'⟩ | ⟨_, h'⟩
        · simp only [Bool.and_eq_true, decide_eq_true_eq] at hc
          rw [fU_eq] at h'
          exact ⟨_, _, _, .store t a x o i c p rs row cs b n hev ho hrow hcs hk hc.1 hc.2, h'⟩
        · exact h'.elim
      · exact h.elim
    · exact h.elim
  · rename_i t x ix
    split at h
    · rename_i k n hix
      split at h
      · rename_i xs hev
        obtain ⟨h0, h⟩ := h
        obtain ⟨e, he, h⟩ := opt_e h
        obtain ⟨sz, hsz, h⟩ := opt_e h
        obtain ⟨row, hrow, h⟩ := opt_e h
        obtain ⟨b, hk⟩ := sizeT_inv hsz
        rcases brn_e h with ⟨hc, h'⟩ | ⟨_, h'⟩
        · have hc := of_decide_eq_true hc
          subst hc
          exact ⟨_, _, _, .idxSl t e x ix xs k n row b hev hix h0 hrow (elemT_inv he) hk, h'⟩
        · exact h'.elim
      · rename_i o z hev
        obtain ⟨h0, h⟩ := h
        obtain ⟨e, he, h⟩ := opt_e h
        obtain ⟨sz, hsz, h⟩ := opt_e h
        obtain ⟨rs, hrs, h⟩ := opt_e h
        obtain ⟨row, hrow, h⟩ := opt_e h
        obtain ⟨b, hk⟩ := sizeT_inv hsz
        obtain ⟨y, hy, hy'⟩ := rowsR_inv hrs
        rcases brn_e h with ⟨hc, h'⟩ | ⟨_, h'⟩
        · have hc := of_decide_eq_true hc
          subst hc
          exact ⟨_, _, _, .idxOsw t e x ix o z k n y rs row b hev hix h0 hy hy' hrow (elemT_inv he) hk, h'⟩
        · exact h'.elim
      · rename_i o off len room hev
        obtain ⟨h0, h1, h⟩ := h
        obtain ⟨e, he, h⟩ := opt_e h
        obtain ⟨sz, hsz, h⟩ := opt_e h
        obtain ⟨rs, hrs, h⟩ := opt_e h
        obtain ⟨row, hrow, h⟩ := opt_e h
        obtain ⟨b, hk⟩ := sizeT_inv hsz
        obtain ⟨y, hy, hy'⟩ := rowsR_inv hrs
        rcases brn_e h with ⟨hc, h'⟩ | ⟨_, h'⟩
        · have hc := of_decide_eq_true hc
          subst hc
          exact ⟨_, _, _, .idxOsl t e x ix o off len room k n y rs row b hev hix h0 h1 hy hy' hrow (elemT_inv he) hk, h'⟩
        · exact h'.elim
      · rename_i o r c hev
        split at h
        · rename_i len e ht
          obtain ⟨h0, h1, h⟩ := h
          obtain ⟨sz, hsz, h⟩ := opt_e h
          obtain ⟨b, hk⟩ := sizeT_inv hsz
          exact ⟨_, _, _, .idxArr t e x ix o r c len sz k n b hev hix h0 h1 ht hk, caseAt_or (K := fun i => K (.ptr o r (c + i * sz)) [] []) h0 h1 h⟩
        · exact h.elim
      · rename_i row c hev
        split at h
        · rename_i len e ht
          obtain ⟨h0, h1, h⟩ := h
          obtain ⟨sz, hsz, h⟩ := opt_e h
          obtain ⟨b, hk⟩ := sizeT_inv hsz
          exact ⟨_, _, _, .idxArrR t e x ix row c len sz k n b hev hix h0 h1 ht hk, caseAt_or (K := fun i => K (.rp row (c + i * sz)) [] []) h0 h1 h⟩
        · exact h.elim
      · exact h.elim
    · exact h.elim
  · rename_i t x ix
    split at h
    · rename_i k n hix
      split at h
      · rename_i l hev
        split at h
        · rename_i ht
          obtain ⟨h0, h⟩ := h
          obtain ⟨c, hc, h⟩ := opt_e h
          exact ⟨_, _, _, .strIx t x ix l k n c hev hix h0 hc ht, h⟩
        · exact h.elim
      · rename_i cs hev
        split at h
        · rename_i len e ht
          obtain ⟨h0, h1, h⟩ := h
          obtain ⟨sz, hsz, h⟩ := opt_e h
          replace h := caseAt_or (K := fun i => opt (loadAs P e cs (i * sz)) fun v => fAV v fun v => K v [] []) h0 h1 h
          obtain ⟨v, hv, h⟩ := opt_e h
          rw [fAV_eq] at h
          obtain ⟨b, hk⟩ := sizeT_inv hsz
          exact ⟨_, _, _, .arrIx t e x ix cs len sz k n b v hev hix h0 h1 ht hk hv, h⟩
        · exact h.elim
      · exact h.elim
    · exact h.elim
  · rename_i t x y t'
    split at h
    · rename_i k a k' b hx hy
      split at h
      · rename_i e _; subst e
        exact ⟨_, _, _, .quo t t' x y k a b hx hy h.1, h.2⟩
      · exact h.elim
    · exact h.elim
  · rename_i t x y t'
    split at h
    · rename_i k a k' b hx hy
      split at h
      · rename_i e _; subst e
        exact ⟨_, _, _, .rem t t' x y k a b hx hy h.1, h.2⟩
      · exact h.elim
    · exact h.elim
  · rename_i t x y t'
    split at h
    · rename_i k a k' b hx hy
      exact ⟨_, _, _, .shl t t' x y k k' a b hx hy h.1, h.2⟩
    · exact h.elim
  · rename_i t x y t'
    split at h
    · rename_i k a k' b hx hy
      exact ⟨_, _, _, .shr t t' x y k k' a b hx hy h.1, h.2⟩
    · exact h.elim
  · rename_i t x t'
    obtain ⟨e, he, h⟩ := opt_e h
    split at h
    · rename_i xs hx
      exact ⟨_, _, _, .nilq t t' e x xs hx (elemT_inv he), h⟩
    · rename_i o z hx
      split at h
      · rename_i rs ho
        exact ⟨_, _, _, .files _ _ _ _ (.nilqW t t' e x o z true rs hx ho (elemT_inv he)), h⟩
      · exact h.elim
    · exact h.elim
  · rename_i op t x y t' _ _ _ _ _
    split at h
    · rename_i cs ds hx hy
      split at h
      · obtain ⟨⟨hp, hst⟩, h⟩ := h
        obtain ⟨r, hr, h⟩ := opt_e h
        simp only [Bool.and_eq_true, decide_eq_true_eq, Bool.not_eq_eq_eq_not, Bool.not_true] at hp
        exact ⟨_, _, _, .eqAgg t t' x y cs ds r hx hy hp.1.1.1 hp.1.1.2 hst hp.1.2 hp.2 hr, h⟩
      · obtain ⟨⟨hp, hst⟩, h⟩ := h
        obtain ⟨r, hr, h⟩ := opt_e h
        simp only [Bool.and_eq_true, decide_eq_true_eq, Bool.not_eq_eq_eq_not, Bool.not_true] at hp
        exact ⟨_, _, _, .neAgg t t' x y cs ds r hx hy hp.1.1.1 hp.1.1.2 hst hp.1.2 hp.2 hr, h⟩
      · exact h.elim
    · rename_i a b hx hy
      split at h
      · exact ⟨_, _, _, .cat t t' x y a b hx hy h.1, h.2⟩
      · refine pv ?_
        obtain ⟨v, hv, h⟩ := opt_e h
        refine opt_i v ?_ (by rw [fAV_eq]; exact h)
        simp only [pval, hx, hy]; exact hv
    · refine pv ?_
      simp only [pval]; exact h
  · rename_i args ts
    obtain ⟨t, ht, h⟩ := opt_e h
    obtain ⟨x, hx, h⟩ := opt_e h
    split at h
    · rename_i o z hev
      obtain ⟨e, he, h⟩ := opt_e h
      obtain ⟨rs, hrs, h⟩ := opt_e h
      obtain ⟨y, hy, hy'⟩ := rowsR_inv hrs
      exact ⟨_, _, _, .lenOsw x ts args t e o z y rs hx ht (elemT_inv he) hev hy hy', h⟩
    · rename_i o hev
      split at h
      · rename_i z fs hh ho
        obtain ⟨hc, h⟩ := brn_t h
        exact ⟨_, _, _, .files _ _ _ _ (.len x ts args t o z fs hh hx ht hc hev ho), h⟩
      · exact h.elim
    · obtain ⟨v, hv, h⟩ := opt_e h
      exact ⟨v, [], [], .pure _ v (by simp only [pval, ht, hx]; exact hv), h⟩
  · rename_i fn args ts
    split at h
    · rename_i f cap hev
      rcases h with h | ⟨V, oin, argsC, rv, os', hf, hh, h⟩
      rotate_left
      · rw [fAV_eq] at h
        exact ⟨_, _, _, .callG fn args ts f cap V oin argsC rv os' hev hh hf, h⟩
      obtain ⟨argsC, ha, h⟩ := opt_e h
      rw [fL_eq] at h
      obtain ⟨rv, os', hf, h⟩ := h
      rcases h with ⟨hfl, rfl, h⟩ | ⟨V, hV, h⟩
      · rw [fAV_eq] at h
        exact ⟨_, _, _, .call fn args ts f cap ids 8 argsC rv hev ha hf hfl, h⟩
      · obtain ⟨U, hU, h⟩ := opt_e h
        rw [fAV_eq] at h
        exact ⟨_, _, _, .callF fn args ts f cap V 8 argsC rv os' U hev hV hf hU, h⟩
    · exact h.elim
  · exact bv h
  · rcases brn_e h with ⟨_, h⟩ | ⟨_, h⟩
    · obtain ⟨v, U, RO, h1, h2⟩ := xopF_ok h
      exact ⟨v, U, RO, .files _ v U RO h1, h2⟩
    · rcases brn_e h with ⟨_, h⟩ | ⟨_, h⟩
      · exact bv h
      · exact pv h
  · exact bv h
  · rcases h with h | h
    · exact bv h
    · obtain ⟨v, U, RO, h1, h2⟩ := xopF_ok h
      exact ⟨v, U, RO, .files _ v U RO h1, h2⟩
  · rename_i t
    rcases h with h | h
    · exact bv h
    · obtain ⟨hc, z, h⟩ := brn_t h
      exact ⟨_, _, _, .files _ _ _ _ (.mk t z hc), h⟩
  · exact bv h
  · exact fv h
  · exact fv h
  · exact fv h
  · exact bv h
  · obtain ⟨v, U, RO, h1, h2⟩ := xopF_ok h
    exact ⟨v, U, RO, .files _ v U RO h1, h2⟩
  · obtain ⟨v, U, RO, h1, h2⟩ := xopF_ok h
    exact ⟨v, U, RO, .files _ v U RO h1, h2⟩
  · exact pv h
end Go.Ab
