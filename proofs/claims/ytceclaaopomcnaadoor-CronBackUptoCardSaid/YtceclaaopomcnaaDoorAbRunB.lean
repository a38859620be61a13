/-
  AbRunB: the evaluator's operations on lists and maps.
-/
import Derived.Test.YtceclaaopomcnaaDoorAbRun0
namespace Go.Ab

/-- a bound of a slice expression -/
def bndX (ev : Operand → AV) (o : Option Operand) (d : Nat) (K : Nat → Prop) : Prop :=
  match o with
  | none => K d
  | some x => match ev x with
    | .int _ i => 0 ≤ i ∧ K i.toNat
    | _ => False

def cut {α : Type} (lo hi : Option Operand) (xs : List α) (a b : Nat) : List α :=
  match lo, hi with
  | none, none => xs
  | none, some _ => xs.take b
  | some _, none => xs.drop a
  | some _, some _ => (xs.take b).drop a

theorem bndX_e {ev : Operand → AV} {o : Option Operand} {d : Nat} {K : Nat → Prop} (h : bndX ev o d K) : ∃ n, bndP ev o d n ∧ K n := by
  unfold bndX at h
  split at h
  · exact ⟨d, rfl, h⟩
  · rename_i x
    split at h
    · rename_i k i e
      exact ⟨i.toNat, ⟨k, i, e, h.1, rfl⟩, h.2⟩
    · exact h.elim

theorem cut_eq {α : Type} {ev : Operand → AV} {lo hi : Option Operand} {xs : List α} {a b : Nat} (ha : bndP ev lo 0 a) (hb : bndP ev hi xs.length b) : cut lo hi xs a b = (xs.take b).drop a := by
  unfold cut
  split
  · simp only [bndP] at ha hb; subst ha; subst hb; simp
  · simp only [bndP] at ha; subst ha; simp
  · simp only [bndP] at hb; subst hb; simp
  · rfl

def LenAll (n : Nat) (rs : List (List AV)) : Prop := ∀ r, r ∈ rs → r.length = n
theorem LenAll.nil {n : Nat} : LenAll n [] := fun r h => by cases h
theorem LenAll.cons {n : Nat} {r : List AV} {rs : List (List AV)} (h : r.length = n) (hr : LenAll n rs) : LenAll n (r :: rs) := fun x hx => by
  rcases List.mem_cons.1 hx with rfl | hx
  · exact h
  · exact hr x hx
theorem LenAll.map {α : Type} {n : Nat} {f : α → List AV} {l : List α} (h : ∀ x, (f x).length = n) : LenAll n (l.map f) := fun r hr => by
  obtain ⟨x, _, rfl⟩ := List.mem_map.1 hr
  exact h x
theorem LenAll.append {n : Nat} {rs qs : List (List AV)} (h : LenAll n rs) (h' : LenAll n qs) : LenAll n (rs ++ qs) := fun r hr => by
  rcases List.mem_append.1 hr with hr | hr
  · exact h r hr
  · exact h' r hr

/-- where a key stands -/
def xfind (P : Program) (kt : TypeId) (k : AV) : List (AV × AV) → Nat → (Option Nat → Prop) → Prop
  | [], _, K => K none
  | e :: es, i, K => match keyEq P kt k e.1 with
    | some b => brn b (K (some i)) (xfind P kt k es (i + 1) K)
    | none => False
theorem xfind_e {P : Program} {kt : TypeId} {k : AV} : ∀ {es : List (AV × AV)} {i : Nat} {K : Option Nat → Prop}, xfind P kt k es i K → ∃ r, findAt P kt k es i r ∧ K r := by
  intro es
  induction es with
  | nil => intro i K h; exact ⟨none, rfl, h⟩
  | cons e es ih =>
    intro i K h
    simp only [xfind] at h
    split at h
    · rename_i b hb
      rcases brn_e h with ⟨rfl, h⟩ | ⟨rfl, h⟩
      · exact ⟨some i, .inl ⟨hb, rfl⟩, h⟩
      · obtain ⟨r, h1, h2⟩ := ih h
        exact ⟨r, .inr ⟨hb, h1⟩, h2⟩
    · exact h.elim
theorem xfind_i {P : Program} {kt : TypeId} {k : AV} : ∀ {es : List (AV × AV)} {i : Nat} {K : Option Nat → Prop} (r : Option Nat), findAt P kt k es i r → K r → xfind P kt k es i K := by
  intro es
  induction es with
  | nil => intro i K r h hK; simp only [findAt] at h; subst h; exact hK
  | cons e es ih =>
    intro i K r h hK
    simp only [findAt] at h
    simp only [xfind]
    rcases h with ⟨h, rfl⟩ | ⟨h, h2⟩
    · rw [h]; exact hK
    · rw [h]; exact ih r h2 hK

/-- entries, worked out -/
def fE : List (AV × AV) → (List (AV × AV) → Prop) → Prop
  | [], K => K []
  | e :: r, K => fAV e.1 fun a => fAV e.2 fun b => fE r fun r => K ((a, b) :: r)
theorem fE_eq : ∀ (l : List (AV × AV)) (K : List (AV × AV) → Prop), fE l K = K l
  | [], K => rfl
  | e :: r, K => by simp only [fE]; rw [fAV_eq, fAV_eq, fE_eq]
theorem fE_i {l : List (AV × AV)} {K : List (AV × AV) → Prop} (h : K l) : fE l K := by rw [fE_eq]; exact h

/-- what is found -/
def xfound (P : Program) (t : TypeId) (es : List (AV × AV)) (r : Option Nat) (K : AV → Bool → Prop) : Prop :=
  Option.rec (motive := fun _ => Prop) (opt (valT P t) fun vt => opt (zeroV P vt) fun v => fAV v fun v => K v false) (fun i => opt (es[i]?) fun e => fAV e.2 fun v => K v true) r

/-- a list's part -/
def xslice (P : Program) (ev : Operand → AV) (ol : Nat → Option AO) (t : TypeId) (x : Operand) (lo hi : Option Operand) (K : AV → List (Nat × Option AO) → List Nat → Prop) : Prop :=
  match ev x with
  | .str l => match P.underlying t with
    | some .string => bndX ev lo 0 fun a => bndX ev hi l.length fun b => a ≤ b ∧ b ≤ l.length ∧ K (.str (cut lo hi l a b)) [] []
    | _ => False
  | .sl xs => opt (rowT P t) fun sz => (match lo with | none => True | some _ => LenAll sz xs) ∧ bndX ev lo 0 fun a => bndX ev hi xs.length fun b => a ≤ b ∧ b ≤ xs.length ∧ K (.sl (cut lo hi xs a b)) [] []
  | .osw o _ => opt (rowT P t) fun sz => opt (rowsR ol o) fun rs => LenAll sz rs ∧ bndX ev lo 0 fun a => bndX ev hi rs.length fun b => a ≤ b ∧ b ≤ rs.length ∧ K (.osl o a (b - a) (rs.length - a)) [] [o]
  | .osl o off len room => opt (rowT P t) fun sz => opt (rowsR ol o) fun rs => LenAll sz rs ∧ off + room ≤ rs.length ∧ bndX ev lo 0 fun a => bndX ev hi len fun b => a ≤ b ∧ b ≤ len ∧ K (.osl o (off + a) (b - a) (room - a)) [] [o]
  | _ => False

def xappend (P : Program) (ev : Operand → AV) (ol : Nat → Option AO) (id : Nat) (t tx : TypeId) (s x : Operand) (K : AV → List (Nat × Option AO) → List Nat → Prop) : Prop :=
  match ev s with
  | .esl => opt (listA ol (ev x)) fun q => opt (rowT P t) fun sz => brn (listT P tx) (LenAll sz q.2.1 ∧ q.2.1.length ≤ LIM ∧ fU q.1 q.2.1 fun y => K (.osw id sz) [(id, some y)] q.2.2) False
  | .osw o z => match ol o with
    | some (.rows p rs) => opt (listA ol (ev x)) fun q => opt (rowT P t) fun sz => brn (listT P tx && decide (z = sz)) (LenAll sz q.2.1 ∧ LenAll sz rs ∧ rs.length + q.2.1.length ≤ LIM ∧
        fU (p && q.1) (rs ++ q.2.1) fun y => K (.osw id sz) [(id, some y), (o, none)] q.2.2) False
    | _ => False
  | _ => False

def xopB (P : Program) (ev : Operand → AV) (ol : Nat → Option AO) (id : Nat) (op : Op) (K : AV → List (Nat × Option AO) → List Nat → Prop) : Prop :=
  match op with
  | .slice t x lo hi none => xslice P ev ol t x lo hi K
  | .slice t x none (some h) (some m) => match ev h, ev m with
    | .int _ h, .int _ m => match ev x with
      | .str _ => False
      | y => opt (rowT P t) fun _ => opt (listA ol y) fun q => brn (decide (h = 0) && decide (m = 0)) (K .esl [] q.2.2) False
    | _, _ => False
  | .makeSlice t l c => match ev l, ev c with
    | .int _ n, .int _ m => opt (rowT P t) fun sz => opt (zeroE P t) fun z => fL z fun z => 0 ≤ n ∧ n ≤ m ∧ m ≤ LIM ∧ K (.osw id sz) [(id, some (.rows true (List.replicate n.toNat z)))] []
    | _, _ => False
  | .buildSlice t len parts => opt (rowT P t) fun sz => opt (zeroE P t) fun z => opt (fillA ev (fun i => some (i * sz, sz)) parts.toList (List.replicate len z).flatten) fun cs => fL cs fun cs =>
      brn (decide (len * sz ≤ 16777216) && decide (len ≤ LIM) && decide (cs.length = len * sz) && cs.all isCell) (fU (cs.all idFree) (chunk sz len cs) fun y => K (.osw id sz) [(id, some y)] []) False
  | .convert s d x => match ev x with
    | .str l => brn (bytesT P s d) (l.length ≤ LIM ∧ K (.osw id 1) [(id, some (.rows true (enc8 l)))] []) False
    | y => opt (listA ol y) fun q => brn (bytesT P d s) (∃ l, q.2.1 = enc8 l ∧ K (.str l) [] q.2.2) False
  | .makeMap t none => brn (keyT P t).isSome (K (.mapo id) [(id, some (.mapo []))] []) False
  | .makeMap t (some x) => match ev x with
    | .int _ _ => brn (keyT P t).isSome (K (.mapo id) [(id, some (.mapo []))] []) False
    | _ => False
  | .mapUpdate t m k x => match ev m with
    | .mapo o => match ol o with
      | some (.mapo es) => opt (keyT P t) fun kt => brn (keyOk P kt (ev k)) (xfind P kt (ev k) es 0 fun r => es.length + 1 ≤ LIM ∧ fE (putE es r (ev k) (ev x)) fun es' => K .undef [(o, some (.mapo es'))] []) False
      | _ => False
    | _ => False
  | .insert t m k x => match ev m with
    | .mapo o => match ol o with
      | some (.mapo es) => opt (keyT P t) fun kt => brn (keyOk P kt (ev k)) (xfind P kt (ev k) es 0 fun r => es.length + 1 ≤ LIM ∧ fE (putE es r (ev k) (ev x)) fun es' => K .undef [(o, some (.mapo es'))] []) False
      | _ => False
    | _ => False
  | .lookup t m k ok => match ev m with
    | .mapo o => match ol o with
      | some (.mapo es) => opt (keyT P t) fun kt => brn (keyOk P kt (ev k)) (xfind P kt (ev k) es 0 fun r => xfound P t es r fun v fd => match ok with | true => K (.tup [v, .bool fd]) [] [o] | false => K v [] [o]) False
      | _ => False
    | .con (.map none) => opt (keyT P t) fun kt => brn (keyOk P kt (ev k)) (opt (valT P t) fun vt => opt (zeroV P vt) fun v => fAV v fun v => match ok with | true => K (.tup [v, .bool false]) [] [] | false => K v [] []) False
    | _ => False
  | .call { callee := .builtin .append, args, argTypes } => match args.toList, argTypes.toList with
    | [s, x], [t, tx] => xappend P ev ol id t tx s x K
    | _, _ => False
  | _ => False

theorem xslice_ok {P : Program} {ev : Operand → AV} {ol : Nat → Option AO} {id : Nat} {t : TypeId} {x : Operand} {lo hi : Option Operand} {K : AV → List (Nat × Option AO) → List Nat → Prop}
    (h : xslice P ev ol t x lo hi K) : ∃ v U RO, BStep P ev ol id (.slice t x lo hi none) v U RO ∧ K v U RO := by
  unfold xslice at h
  split at h
  · rename_i l hx
    split at h
    · rename_i ht
      obtain ⟨a, ha, h⟩ := bndX_e h
      obtain ⟨b, hb, h1, h2, h⟩ := bndX_e h
      rw [cut_eq ha hb] at h
      exact ⟨_, _, _, .slStr t x lo hi l a b hx ht ha hb h1 h2, h⟩
    · exact h.elim
  · rename_i xs hx
    obtain ⟨sz, hsz, hl, h⟩ := opt_e h
    obtain ⟨a, ha, h⟩ := bndX_e h
    obtain ⟨b, hb, h1, h2, h⟩ := bndX_e h
    rw [cut_eq ha hb] at h
    refine ⟨_, _, _, .slSl t x lo hi xs a b sz hx hsz ?_ ha hb h1 h2, h⟩
    cases lo with
    | none => exact .inl ha
    | some _ => exact .inr hl
  · rename_i o z hx
    obtain ⟨sz, hsz, h⟩ := opt_e h
    obtain ⟨rs, hrs, hl, h⟩ := opt_e h
    obtain ⟨a, ha, h⟩ := bndX_e h
    obtain ⟨b, hb, h1, h2, h⟩ := bndX_e h
    obtain ⟨y, hy, hy'⟩ := rowsR_inv hrs
    exact ⟨_, _, _, .slOsw t x lo hi o z a b sz y rs hx hy hy' hl hsz ha hb h1 h2, h⟩
  · rename_i o off len room hx
    obtain ⟨sz, hsz, h⟩ := opt_e h
    obtain ⟨rs, hrs, hl, hr, h⟩ := opt_e h
    obtain ⟨a, ha, h⟩ := bndX_e h
    obtain ⟨b, hb, h1, h2, h⟩ := bndX_e h
    obtain ⟨y, hy, hy'⟩ := rowsR_inv hrs
    exact ⟨_, _, _, .slOsl t x lo hi o off len room a b sz y rs hx hy hy' hl hsz ha hb h1 h2 hr, h⟩
  · exact h.elim

theorem brn_t {b : Bool} {A : Prop} (h : brn b A False) : b = true ∧ A := by
  rcases brn_e h with h | ⟨_, h⟩
  · exact h
  · exact h.elim

theorem arr2 {α : Type} {a : Array α} {x y : α} (h : a.toList = [x, y]) : a = #[x, y] := by
  apply Array.ext'; simpa using h

theorem xopB_ok {P : Program} {ev : Operand → AV} {ol : Nat → Option AO} {id : Nat} {op : Op} {K : AV → List (Nat × Option AO) → List Nat → Prop}
    (h : xopB P ev ol id op K) : ∃ v U RO, BStep P ev ol id op v U RO ∧ K v U RO := by
  unfold xopB at h
  split at h
  · exact xslice_ok h
  · rename_i t x hh m
    split at h
    · rename_i k1 h1 k2 m1 he hm
      split at h
      · exact h.elim
      · rename_i hs
        obtain ⟨sz, hsz, h⟩ := opt_e h
        obtain ⟨q, hq, h⟩ := opt_e h
        obtain ⟨hc, h⟩ := brn_t h
        simp only [Bool.and_eq_true, decide_eq_true_eq] at hc
        obtain ⟨rfl, rfl⟩ := hc
        exact ⟨_, _, _, .slZero t x none hh m k1 k2 q sz (fun l e => hs l e) hq hsz rfl he hm, h⟩
    · exact h.elim
  · rename_i t l c
    split at h
    · rename_i k1 n k2 m hl hc
      obtain ⟨sz, hsz, h⟩ := opt_e h
      obtain ⟨z, hz, h⟩ := opt_e h
      rw [fL_eq] at h
      obtain ⟨h0, h1, h2, h⟩ := h
      exact ⟨_, _, _, .mkSl t l c k1 k2 n m z sz hl hc h0 h1 h2 hsz hz, h⟩
    · exact h.elim
  · rename_i t len parts
    obtain ⟨sz, hsz, h⟩ := opt_e h
    obtain ⟨z, hz, h⟩ := opt_e h
    obtain ⟨cs, hcs, h⟩ := opt_e h
    rw [fL_eq] at h
    obtain ⟨hc, h⟩ := brn_t h
    simp only [Bool.and_eq_true, decide_eq_true_eq] at hc
    rw [fU_eq] at h
    exact ⟨_, _, _, .bldSl t len parts z cs sz hsz hz hc.1.1.1 hc.1.1.2 hc.1.2 hc.2 hcs, h⟩
  · rename_i s d x
    split at h
    · rename_i l hx
      obtain ⟨hc, hl, h⟩ := brn_t h
      exact ⟨_, _, _, .toBytes s d x l hx hc hl, h⟩
    · rename_i hs
      obtain ⟨q, hq, h⟩ := opt_e h
      obtain ⟨hc, l, hl, h⟩ := brn_t h
      exact ⟨_, _, _, .toStr s d x l q (fun l e => hs l e) hq hl hc, h⟩
  · rename_i t
    obtain ⟨hc, h⟩ := brn_t h
    exact ⟨_, _, _, .mkMap t hc, h⟩
  · rename_i t x
    split at h
    · rename_i k n hx
      obtain ⟨hc, h⟩ := brn_t h
      exact ⟨_, _, _, .mkMapN t x k n hc hx, h⟩
    · exact h.elim
  · rename_i t m k x
    split at h
    · rename_i o hm
      split at h
      · rename_i es ho
        obtain ⟨kt, hkt, h⟩ := opt_e h
        obtain ⟨hc, h⟩ := brn_t h
        obtain ⟨r, hr, hlim, h⟩ := xfind_e h
        rw [fE_eq] at h
        exact ⟨_, _, _, .mapUpd _ t kt m k x (.inl rfl) o es r hm ho hkt hc hr hlim, h⟩
      · exact h.elim
    · exact h.elim
  · rename_i t m k x
    split at h
    · rename_i o hm
      split at h
      · rename_i es ho
        obtain ⟨kt, hkt, h⟩ := opt_e h
        obtain ⟨hc, h⟩ := brn_t h
        obtain ⟨r, hr, hlim, h⟩ := xfind_e h
        rw [fE_eq] at h
        exact ⟨_, _, _, .mapUpd _ t kt m k x (.inr rfl) o es r hm ho hkt hc hr hlim, h⟩
      · exact h.elim
    · exact h.elim
  · rename_i t m k ok
    split at h
    · rename_i o hm
      split at h
      · rename_i es ho
        obtain ⟨kt, hkt, h⟩ := opt_e h
        obtain ⟨hc, h⟩ := brn_t h
        obtain ⟨r, hr, h⟩ := xfind_e h
        cases r with
        | none =>
          simp only [xfound] at h
          obtain ⟨vt, hvt, h⟩ := opt_e h
          obtain ⟨v, hv, h⟩ := opt_e h
          rw [fAV_eq] at h
          refine ⟨_, _, _, .look t kt m k ok o es _ v hm ho hkt hc hr (.inr ⟨rfl, vt, hvt, hv⟩), ?_⟩
          cases ok
          · exact h
          · exact h
        | some i =>
          simp only [xfound] at h
          obtain ⟨e, he, h⟩ := opt_e h
          rw [fAV_eq] at h
          refine ⟨_, _, _, .look t kt m k ok o es _ e.2 hm ho hkt hc hr (.inl ⟨i, e, rfl, he, rfl⟩), ?_⟩
          cases ok
          · exact h
          · exact h
      · exact h.elim
    · rename_i hm
      obtain ⟨kt, hkt, h⟩ := opt_e h
      obtain ⟨hc, h⟩ := brn_t h
      obtain ⟨vt, hvt, h⟩ := opt_e h
      obtain ⟨v, hv, h⟩ := opt_e h
      rw [fAV_eq] at h
      refine ⟨_, _, _, .lookN t kt vt m k ok v hm hkt hc hvt hv, ?_⟩
      cases ok
      · exact h
      · exact h
    · exact h.elim
  · rename_i args ts
    split at h
    · rename_i s x t tx ha ht
      rw [arr2 ha, arr2 ht]
      unfold xappend at h
      split at h
      · rename_i hs
        obtain ⟨q, hq, h⟩ := opt_e h
        obtain ⟨sz, hsz, h⟩ := opt_e h
        obtain ⟨hc, hl, hlim, h⟩ := brn_t h
        rw [fU_eq] at h
        exact ⟨_, _, _, .appE t tx s x q sz hs hq hsz hc hl hlim, h⟩
      · rename_i o z hs
        split at h
        · rename_i p rs ho
          obtain ⟨q, hq, h⟩ := opt_e h
          obtain ⟨sz, hsz, h⟩ := opt_e h
          obtain ⟨hc, hl, hl', hlim, h⟩ := brn_t h
          simp only [Bool.and_eq_true, decide_eq_true_eq] at hc
          rw [fU_eq] at h
          exact ⟨_, _, _, .appW t tx s x q sz o z p rs hs hc.2 ho hq hsz hc.1 hl hl' hlim, h⟩
        · exact h.elim
      · exact h.elim
    · exact h.elim
  · exact h.elim
end Go.Ab
