/-
  AbRunB: the evaluator's operations on lists and maps.
-/
import Derived.Test.YtnofpgegbhegnaaGreatDoorAbRun0
namespace Go.Ab

/-- a bound of a slice expression -/
def bndX (ev : Operand → AV) (o : Option Operand) (d : Nat) (K : Nat → Prop) : Prop :=
  match o with
  | none => K d
  | some x => match ev x with
    | .int _ i => 0 ≤ i ∧ K i.toNat
    | _ => False

def cut {α : Type} (lo hi : Option Operand) (xs : List α) (a b : Nat) : List α :=
  match lo, hi with
  | none, none => xs
  | none, some _ => xs.take b
  | some _, none => xs.drop a
  | some _, some _ => (xs.take b).drop a

theorem bndX_e {ev : Operand → AV} {o : Option Operand} {d : Nat} {K : Nat → Prop} (h : bndX ev o d K) : ∃ n, bndP ev o d n ∧ K n := by
  unfold bndX at h
  split at h
  · exact ⟨d, rfl, h⟩
  · rename_i x
    split at h
    · rename_i k i e
      exact ⟨i.toNat, ⟨k, i, e, h.1, rfl⟩, h.2⟩
    · exact h.elim

theorem cut_eq {α : Type} {ev : Operand → AV} {lo hi : Option Operand} {xs : List α} {a b : Nat} (ha : bndP ev lo 0 a) (hb : bndP ev hi xs.length b) : cut lo hi xs a b = (xs.take b).drop a := by
  unfold cut
  split
  · simp only [bndP] at ha hb; subst ha; subst hb; simp
  · simp only [bndP] at ha; subst ha; simp
  · simp only [bndP] at hb; subst hb; simp
  · rfl

def LenAll (n : Nat) (rs : List (List AV)) : Prop := ∀ r, r ∈ rs → r.length = n
theorem LenAll.nil {n : Nat} : LenAll n [] := fun r h => by cases h
theorem LenAll.cons {n : Nat} {r : List AV} {rs : List (List AV)} (h : r.length = n) (hr : LenAll n rs) : LenAll n (r :: rs) := fun x hx => by
  rcases List.mem_cons.1 hx with rfl | hx
  · exact h
  · exact hr x hx
theorem LenAll.map {α : Type} {n : Nat} {f : α → List AV} {l : List α} (h : ∀ x, (f x).length = n) : LenAll n (l.map f) := fun r hr => by
  obtain ⟨x, _, rfl⟩ := List.mem_map.1 hr
  exact h x
theorem LenAll.append {n : Nat} {rs qs : List (List AV)} (h : LenAll n rs) (h' : LenAll n qs) : LenAll n (rs ++ qs) := fun r hr => by
  rcases List.mem_append.1 hr with hr | hr
  · exact h r hr
  · exact h' r hr

/-- where a key stands -/
def xfind (P : Program) (kt : TypeId) (k : AV) : List (AV × AV) → Nat → (Option Nat → Prop) → Prop
  | [], _, K => K none
  | e :: es, i, K => match keyEq P kt k e.1 with
    | some b => brn b (K (some i)) (xfind P kt k es (i + 1) K)
    | none => False
theorem xfind_e {P : Program} {kt : TypeId} {k : AV} : ∀ {es : List (AV × AV)} {i : Nat} {K : Option Nat → Prop}, xfind P kt k es i K → ∃ r, findAt P kt k es i r ∧ K r := by
  intro es
  induction es with
  | nil => intro i K h; exact ⟨none, rfl, h⟩
  | cons e es ih =>
    intro i K h
    simp only [xfind] at h
    split at h
    · rename_i b hb
      rcases brn_e h with ⟨rfl, h⟩ | ⟨rfl, h⟩
      · exact ⟨some i, .inl ⟨hb, rfl⟩, h⟩
      · obtain ⟨r, h1, h2⟩ := ih h
        exact ⟨r, .inr ⟨hb, h1⟩, h2⟩
    · exact h.elim
theorem xfind_i {P : Program} {kt : TypeId} {k : AV} : ∀ {es : List (AV × AV)} {i : Nat} {K : Option Nat → Prop} (r : Option Nat), findAt P kt k es i r → K r → xfind P kt k es i K := by
  intro es
  induction es with
  | nil => intro i K r h hK; simp only [findAt] at h; subst h; exact hK
  | cons e es ih =>
    intro i K r h hK
    simp only [findAt] at h
    simp only [xfind]
    rcases h with ⟨h, rfl⟩ | ⟨h, h2⟩
    · rw [h]; exact hK
    · rw [h]; exact ih r h2 hK

/-- entries, worked out -/
def fE : List (AV × AV) → (List (AV × AV) → Prop) → Prop
  | [], K => K []
  | e :: r, K => fAV e.1 fun a => fAV e.2 fun b => fE r fun r => K ((a, b) :: r)
theorem fE_eq : ∀ (l : List (AV × AV)) (K : List (AV × AV) → Prop), fE l K = K l
  | [], K => rfl
  | e :: r, K => by simp only [fE]; rw [fAV_eq, fAV_eq, fE_eq]
theorem fE_i {l : List (AV × AV)} {K : List (AV × AV) → Prop} (h : K l) : fE l K := by rw [fE_eq]; exact h

/-- what is found -/
def xfound (P : Program) (t : TypeId) (es : List (AV × AV)) (r : Option Nat) (K : AV → Bool → Prop) : Prop :=
  Option.rec (motive := fun _ => Prop) (opt (valT P t) fun vt => opt (zeroV P vt) fun v => fAV v fun v => K v false) (fun i => opt (es[i]?) fun e => fAV e.2 fun v => K v true) r

/-- a map's new content, worked out -/
def fM (p : Bool) (es : List (AV × AV)) (K : AO → Prop) : Prop :=
  Bool.rec (motive := fun _ => Prop) (fE es fun es => K (.mapo false es)) (fE es fun es => K (.mapo true es)) p
theorem fM_eq (p : Bool) (es : List (AV × AV)) (K : AO → Prop) : fM p es K = K (.mapo p es) := by
  cases p <;> (simp only [fM]; rw [fE_eq])

/-! maps that are known as lists of typed pairs -/
def encM {κ ν : Type} (ek : κ → AV) (en : ν → AV) (L : List (κ × ν)) : List (AV × AV) := L.map fun p => (ek p.1, en p.2)
def mget {κ ν : Type} [DecidableEq κ] (q : κ) : List (κ × ν) → Option ν
  | [] => none
  | e :: r => if q = e.1 then some e.2 else mget q r
def mput {κ ν : Type} [DecidableEq κ] (q : κ) (x : ν) : List (κ × ν) → List (κ × ν)
  | [] => [(q, x)]
  | e :: r => if q = e.1 then (q, x) :: r else e :: mput q x r
def mix {κ ν : Type} [DecidableEq κ] (q : κ) : List (κ × ν) → Option Nat
  | [] => none
  | e :: r => if q = e.1 then some 0 else (mix q r).map (· + 1)
structure MPut (P : Program) (kt : TypeId) (es : List (AV × AV)) (k v : AV) (p : Bool) (K : AO → Prop) : Prop where
  h : ∃ r v', Wk v v' ∧ findAt P kt k es 0 r ∧ es.length + 1 ≤ LIM ∧ K (.mapo (p && idFreeV v') (putE es r k v'))
structure MLook (P : Program) (t kt : TypeId) (es : List (AV × AV)) (k : AV) (K : AV → Bool → Prop) : Prop where
  h : ∃ (r : Option Nat) (v : AV), findAt P kt k es 0 r ∧ ((∃ i e, r = some i ∧ es[i]? = some e ∧ v = e.2) ∨ (r = none ∧ ∃ vt zv, valT P t = some vt ∧ zeroV P vt = some zv ∧ Wk zv v)) ∧ K v r.isSome
/-! maps that own their lists -/
structure FLook (P : Program) (t kt : TypeId) (ok : Bool) (k : AV) (o z : Nat) (fs : List (AV × List (List AV))) (h : Option (Nat × Nat)) (id : Nat) (K : AV → List (Nat × Option AO) → List Nat → Prop) : Prop where
  h : (∃ i e, h = none ∧ findAt P kt k (keysF fs) 0 (some i) ∧ fs[i]? = some e ∧ K (if ok then .tup [.osw id z, .bool true] else .osw id z) [(id, some (.rows true e.2)), (o, some (.fmap z fs (some (i, id))))] []) ∨
    (∃ r, ok = true ∧ findAt P kt k (keysF fs) 0 r ∧ (∃ vt zv, valT P t = some vt ∧ zeroV P vt = some zv) ∧ K (.tup [.undef, .bool r.isSome]) [] [o]) ∨
    (∃ v, findAt P kt k (keysF fs) 0 none ∧ (∃ vt zv, valT P t = some vt ∧ zeroV P vt = some zv ∧ Wk zv v) ∧ K (if ok then .tup [v, .bool false] else v) [] [o])
structure FPut (P : Program) (kt : TypeId) (k v : AV) (o z : Nat) (fs : List (AV × List (List AV))) (h : Option (Nat × Nat)) (ol : Nat → Option AO) (K : List (Nat × Option AO) → Prop) : Prop where
  h : ∃ r q rs, findAt P kt k (keysF fs) 0 r ∧ holeAt h r ∧ fs.length + 1 ≤ LIM ∧ v = .osw q z ∧ ol q = some (.rows true rs) ∧ (∀ row, row ∈ rs → row.length = z) ∧ 0 < z ∧ q ≠ o ∧
    K [(o, some (.fmap z (putF fs r k rs) none)), (q, none)]
structure FDel (P : Program) (kt : TypeId) (k : AV) (o z : Nat) (fs : List (AV × List (List AV))) (h : Option (Nat × Nat)) (K : List (Nat × Option AO) → Prop) : Prop where
  h : ∃ r, findAt P kt k (keysF fs) 0 r ∧ holeAt h r ∧ K [(o, some (.fmap z (delF fs r) none))]
structure FMk (id : Nat) (K : AV → List (Nat × Option AO) → List Nat → Prop) : Prop where
  h : ∃ z, K (.mapo id) [(id, some (.fmap z [] none))] []
structure CutX (P : Program) (ev : Operand → AV) (ol : Nat → Option AO) (id o z sz : Nat) (lo hi : Option Operand) (K : AV → List (Nat × Option AO) → List Nat → Prop) : Prop where
  h : ∃ rs hi', lo = none ∧ hi = some hi' ∧ ol o = some (.rows true rs) ∧ z = sz ∧ bndX ev (some hi') rs.length fun b => b ≤ rs.length ∧ K (.osw id z) [(id, some (.rows true (rs.take b))), (o, none)] []

section
variable {P : Program} {t kt : TypeId} {κ ν : Type} [DecidableEq κ] {ek : κ → AV} {en : ν → AV}
theorem find_enc (heq : ∀ a b, keyEq P kt (ek a) (ek b) = some (decide (a = b))) (q : κ) : ∀ (L : List (κ × ν)) (i : Nat), findAt P kt (ek q) (encM ek en L) i ((mix q L).map (· + i))
  | [], i => rfl
  | e :: r, i => by
    simp only [encM, List.map_cons, findAt, mix, heq]
    by_cases h : q = e.1
    · left; simp [h]
    · right
      simp only [h, if_false, Option.map_map, decide_false, true_and]
      have := find_enc heq q r (i + 1)
      rw [show ((fun x => x + i) ∘ (fun x => x + 1)) = (fun x : Nat => x + (i + 1)) by funext x; simp only [Function.comp]; omega]
      exact this
theorem mix_get (q : κ) : ∀ (L : List (κ × ν)), (mix q L = none ∧ mget q L = none) ∨ ∃ j e, mix q L = some j ∧ L[j]? = some e ∧ mget q L = some e.2
  | [] => .inl ⟨rfl, rfl⟩
  | e :: r => by
    by_cases h : q = e.1
    · exact .inr ⟨0, e, by simp [mix, h], rfl, by simp [mget, h]⟩
    · rcases mix_get q r with ⟨h1, h2⟩ | ⟨j, e', h1, h2, h3⟩
      · exact .inl ⟨by simp [mix, h, h1], by simp [mget, h, h2]⟩
      · exact .inr ⟨j + 1, e', by simp [mix, h, h1], by simpa using h2, by simp [mget, h, h3]⟩
theorem put_enc (q : κ) (x : ν) : ∀ (L : List (κ × ν)), putE (encM ek en L) (mix q L) (ek q) (en x) = encM ek en (mput q x L)
  | [] => rfl
  | e :: r => by
    by_cases h : q = e.1
    · simp [mix, h, putE, encM, mput]
    · have := put_enc q x r
      simp only [mix, h, if_false, mput]
      cases hm : mix q r with
      | none => rw [hm] at this; simp only [putE, Option.map_none, encM, List.map_cons, List.cons_append] at this ⊢; rw [this]
      | some j => rw [hm] at this; simp only [putE, Option.map_some, encM, List.map_cons, List.modify_succ_cons] at this ⊢; rw [this]
theorem mput_i {es : List (AV × AV)} {k v : AV} {p : Bool} {K : AO → Prop} (L : List (κ × ν)) (q : κ) (x : ν) (hes : es = encM ek en L) (hk : k = ek q) (hv : Wk v (en x)) (hp : (p && idFreeV (en x)) = true)
    (heq : ∀ a b, keyEq P kt (ek a) (ek b) = some (decide (a = b))) (hl : L.length + 1 ≤ LIM) (hK : K (.mapo true (encM ek en (mput q x L)))) : MPut P kt es k v p K := by
  subst hes; subst hk
  have h1 := find_enc (en := en) heq q L 0
  rw [show (fun x : Nat => x + 0) = id from rfl, Option.map_id, id] at h1
  exact ⟨_, en x, hv, h1, by simpa [encM] using hl, by rw [put_enc, hp]; exact hK⟩
theorem mlook_i {es : List (AV × AV)} {k : AV} {K : AV → Bool → Prop} (L : List (κ × ν)) (q : κ) (z : ν) (hes : es = encM ek en L) (hk : k = ek q)
    (heq : ∀ a b, keyEq P kt (ek a) (ek b) = some (decide (a = b))) (hz : ∃ vt zv, valT P t = some vt ∧ zeroV P vt = some zv ∧ Wk zv (en z))
    (hK : K (en ((mget q L).getD z)) (mget q L).isSome) : MLook P t kt es k K := by
  subst hes; subst hk
  have h1 := find_enc (en := en) heq q L 0
  rw [show (fun x : Nat => x + 0) = id from rfl, Option.map_id, id] at h1
  rcases mix_get q L with ⟨h2, h3⟩ | ⟨j, e, h2, h3, h4⟩
  · rw [h3] at hK; rw [h2] at h1
    exact ⟨none, _, h1, .inr ⟨rfl, hz⟩, hK⟩
  · rw [h4] at hK; rw [h2] at h1
    exact ⟨some j, _, h1, .inl ⟨j, (ek e.1, en e.2), rfl, by simp [encM, h3], rfl⟩, hK⟩
theorem bq {α : Type} [DecidableEq α] (a b : α) : (a == b) = decide (a = b) := by
  by_cases h : a = b
  · subst h; simp
  · simp [h]
theorem keq_int {k q : IntKind} (h : P.underlying kt = some (.int k)) (a b : Int) : keyEq P kt (.int q a) (.int q b) = some (decide (a = b)) := by
  simp only [keyEq, h]
  simp [bq]
theorem keq_str (h : P.underlying kt = some .string) (a b : List UInt8) : keyEq P kt (.str a) (.str b) = some (decide (a = b)) := by
  simp only [keyEq, h]
  rw [Option.some.injEq, Bool.eq_iff_iff]
  simp
theorem keq_pair {fs : Array Field} (h : P.underlying kt = some (.struct fs)) (q r : IntKind) (a b a' b' : Int) :
    keyEq P kt (.agg [.int q a, .int r b]) (.agg [.int q a', .int r b']) = some (decide (a = a' ∧ b = b')) := by
  simp only [keyEq, h]
  simp [bq]
end

/-- a list's part -/
def xslice (P : Program) (ev : Operand → AV) (ol : Nat → Option AO) (id : Nat) (t : TypeId) (x : Operand) (lo hi : Option Operand) (K : AV → List (Nat × Option AO) → List Nat → Prop) : Prop :=
  match ev x with
  | .str l => match P.underlying t with
    | some .string => bndX ev lo 0 fun a => bndX ev hi l.length fun b => a ≤ b ∧ b ≤ l.length ∧ K (.str (cut lo hi l a b)) [] []
    | _ => False
  | .sl xs => opt (rowT P t) fun sz => (match lo with | none => True | some _ => LenAll sz xs) ∧ bndX ev lo 0 fun a => bndX ev hi xs.length fun b => a ≤ b ∧ b ≤ xs.length ∧ K (.sl (cut lo hi xs a b)) [] []
  | .osw o z => opt (rowT P t) fun sz => opt (rowsR ol o) fun rs => LenAll sz rs ∧ ((bndX ev lo 0 fun a => bndX ev hi rs.length fun b => a ≤ b ∧ b ≤ rs.length ∧ K (.osl o a (b - a) (rs.length - a)) [] [o]) ∨ CutX P ev ol id o z sz lo hi K)
  | .osl o off len room => opt (rowT P t) fun sz => opt (rowsR ol o) fun rs => LenAll sz rs ∧ off + room ≤ rs.length ∧ bndX ev lo 0 fun a => bndX ev hi len fun b => a ≤ b ∧ b ≤ len ∧ K (.osl o (off + a) (b - a) (room - a)) [] [o]
  | _ => False

def xappend (P : Program) (ev : Operand → AV) (ol : Nat → Option AO) (id : Nat) (t tx : TypeId) (s x : Operand) (K : AV → List (Nat × Option AO) → List Nat → Prop) : Prop :=
  match ev s with
  | .esl => opt (listA ol (ev x)) fun q => opt (rowT P t) fun sz => brn (listT P tx) (LenAll sz q.2.1 ∧ q.2.1.length ≤ LIM ∧ fU q.1 q.2.1 fun y => K (.osw id sz) [(id, some y)] q.2.2) False
  | .osw o z => match ol o with
    | some (.rows p rs) => opt (listA ol (ev x)) fun q => opt (rowT P t) fun sz => brn (listT P tx && decide (z = sz)) (LenAll sz q.2.1 ∧ LenAll sz rs ∧ rs.length + q.2.1.length ≤ LIM ∧
        fU (p && q.1) (rs ++ q.2.1) fun y => K (.osw id sz) [(id, some y), (o, none)] q.2.2) False
    | _ => False
  | _ => False

def xopB (P : Program) (ev : Operand → AV) (ol : Nat → Option AO) (id : Nat) (op : Op) (K : AV → List (Nat × Option AO) → List Nat → Prop) : Prop :=
  match op with
  | .slice t x lo hi none => xslice P ev ol id t x lo hi K
  | .slice t x none (some h) (some m) => match ev h, ev m with
    | .int _ h, .int _ m => match ev x with
      | .str _ => False
      | y => opt (rowT P t) fun _ => opt (listA ol y) fun q => brn (decide (h = 0) && decide (m = 0)) (K .esl [] q.2.2) False
    | _, _ => False
  | .makeSlice t l c => match ev l, ev c with
    | .int _ n, .int _ m => opt (rowT P t) fun sz => opt (zeroE P t) fun z => fL z fun z => 0 ≤ n ∧ n ≤ m ∧ m ≤ LIM ∧ K (.osw id sz) [(id, some (.rows true (List.replicate n.toNat z)))] []
    | _, _ => False
  | .buildSlice t len parts => opt (rowT P t) fun sz => opt (zeroE P t) fun z => opt (fillA ev (fun i => some (i * sz, sz)) parts.toList (List.replicate len z).flatten) fun cs => fL cs fun cs =>
      brn (decide (len * sz ≤ 16777216) && decide (len ≤ LIM) && decide (cs.length = len * sz) && cs.all isCell) (fU (cs.all idFree) (chunk sz len cs) fun y => K (.osw id sz) [(id, some y)] []) False
  | .convert s d x => match ev x with
    | .str l => brn (bytesT P s d) (l.length ≤ LIM ∧ K (.osw id 1) [(id, some (.rows true (enc8 l)))] []) False
    | y => opt (listA ol y) fun q => brn (bytesT P d s) (∃ l, q.2.1 = enc8 l ∧ K (.str l) [] q.2.2) False
  | .makeMap t none => brn (keyT P t).isSome (K (.mapo id) [(id, some (.mapo true []))] []) False
  | .makeMap t (some x) => match ev x with
    | .int _ _ => brn (keyT P t).isSome (K (.mapo id) [(id, some (.mapo true []))] []) False
    | _ => False
  | .mapUpdate t m k x => match ev m with
    | .mapo o => match ol o with
      | some (.mapo p es) => opt (keyT P t) fun kt => keyOk P kt (ev k) = true ∧ ((xfind P kt (ev k) es 0 fun r => es.length + 1 ≤ LIM ∧ fM (p && idFreeV (ev x)) (putE es r (ev k) (ev x)) fun y => K .undef [(o, some y)] []) ∨
          MPut P kt es (ev k) (ev x) p fun y => K .undef [(o, some y)] [])
      | _ => False
    | _ => False
  | .insert t m k x => match ev m with
    | .mapo o => match ol o with
      | some (.mapo p es) => opt (keyT P t) fun kt => keyOk P kt (ev k) = true ∧ ((xfind P kt (ev k) es 0 fun r => es.length + 1 ≤ LIM ∧ fM (p && idFreeV (ev x)) (putE es r (ev k) (ev x)) fun y => K .undef [(o, some y)] []) ∨
          MPut P kt es (ev k) (ev x) p fun y => K .undef [(o, some y)] [])
      | _ => False
    | _ => False
  | .lookup t m k ok => match ev m with
    | .mapo o => match ol o with
      | some (.mapo _ es) => opt (keyT P t) fun kt => keyOk P kt (ev k) = true ∧ ((xfind P kt (ev k) es 0 fun r => xfound P t es r fun v fd => match ok with | true => K (.tup [v, .bool fd]) [] [o] | false => K v [] [o]) ∨
          MLook P t kt es (ev k) fun v fd => match ok with | true => K (.tup [v, .bool fd]) [] [o] | false => K v [] [o])
      | _ => False
    | .con (.map none) => opt (keyT P t) fun kt => keyOk P kt (ev k) = true ∧ (opt (valT P t) fun vt => opt (zeroV P vt) fun v => fAV v fun v => match ok with | true => K (.tup [v, .bool false]) [] [] | false => K v [] [])
    | _ => False
  | .call { callee := .builtin .append, args, argTypes } => match args.toList, argTypes.toList with
    | [s, x], [t, tx] => xappend P ev ol id t tx s x K
    | _, _ => False
  | _ => False

/-- is it a map that owns its lists? -/
def isF (ev : Operand → AV) (ol : Nat → Option AO) (m : Operand) : Bool :=
  match ev m with
  | .mapo o => (match ol o with | some (.fmap ..) => true | _ => false)
  | _ => false
def orF (b : Bool) (A B : Prop) : Prop := Bool.rec (motive := fun _ => Prop) B A b
theorem orF_e {b : Bool} {A B : Prop} (h : orF b A B) : A ∨ B := by
  cases b
  · exact .inr h
  · exact .inl h
def toLit : AO → AO
  | .rows _ rs => .lit rs
  | x => x
def LitX (A : Prop) : Prop := A
def xopF (P : Program) (ev : Operand → AV) (ol : Nat → Option AO) (id : Nat) (op : Op) (K : AV → List (Nat × Option AO) → List Nat → Prop) : Prop :=
  match op with
  | .mapUpdate t m k x => match ev m with
    | .mapo o => match ol o with
      | some (.fmap z fs h) => opt (keyT P t) fun kt => keyOk P kt (ev k) = true ∧ FPut P kt (ev k) (ev x) o z fs h ol fun U => K .undef U []
      | _ => False
    | _ => False
  | .insert t m k x => match ev m with
    | .mapo o => match ol o with
      | some (.fmap z fs h) => opt (keyT P t) fun kt => keyOk P kt (ev k) = true ∧ FPut P kt (ev k) (ev x) o z fs h ol fun U => K .undef U []
      | _ => False
    | _ => False
  | .lookup t m k ok => match ev m with
    | .mapo o => match ol o with
      | some (.fmap z fs h) => opt (keyT P t) fun kt => keyOk P kt (ev k) = true ∧ FLook P t kt ok (ev k) o z fs h id K
      | _ => False
    | _ => False
  | .call { callee := .builtin .delete, args, argTypes } => match args.toList, argTypes.toList with
    | [m, k], [t, _] => match ev m with
      | .mapo o => match ol o with
        | some (.fmap z fs h) => opt (keyT P t) fun kt => keyOk P kt (ev k) = true ∧ FDel P kt (ev k) o z fs h fun U => K (.tup []) U []
        | _ => False
      | _ => False
    | _, _ => False
  | .call { callee := .builtin .clear, args, argTypes } => match args.toList, argTypes.toList with
    | [x], [t] => match ev x with
      | .osl o off len room => match ol o with
        | some (.rows true rs) => opt (rowT P t) fun sz => opt (zeroE P t) fun z => fL z fun z => LenAll sz rs ∧ off + room ≤ rs.length ∧ K (.tup []) [(o, some (.rows true (rs.take off ++ (List.replicate len z ++ rs.drop (off + len)))))] []
        | _ => False
      | _ => False
    | _, _ => False
  | .buildSlice t len parts => opt (rowT P t) fun sz => opt (zeroE P t) fun z => opt (fillA ev (fun i => some (i * 1, 1)) parts.toList (List.replicate len z).flatten) fun cs => fL cs fun cs =>
      brn (Nat.beq sz 1 && decide (len * 1 ≤ 16777216) && decide (len ≤ LIM) && decide (0 < len) && decide (cs.length = len * 1) && cs.all isCell && cs.all idFree) (fU true (chunk 1 len cs) fun y => K (.osw id 1) [(id, some (toLit y))] []) False
  | .convert s d x => match ev x with
    | .osw o z => match ol o with
      | some (.lit rs) => brn (cnvT P s d && Nat.beq z 1) (K (.osw o 1) [(o, some (.rows true rs))] []) False
      | _ => False
    | _ => False
  | _ => False

theorem arr2 {α : Type} {a : Array α} {x y : α} (h : a.toList = [x, y]) : a = #[x, y] := by
  apply Array.ext'; simpa using h

theorem arr1 {α : Type} {a : Array α} {x : α} (h : a.toList = [x]) : a = #[x] := by
  apply Array.ext'; simpa using h
theorem brn_t {b : Bool} {A : Prop} (h : brn b A False) : b = true ∧ A := by
  rcases brn_e h with h | ⟨_, h⟩
  · exact h
  · exact h.elim

theorem xopF_ok {P : Program} {ev : Operand → AV} {ol : Nat → Option AO} {id : Nat} {op : Op} {K : AV → List (Nat × Option AO) → List Nat → Prop}
    (h : xopF P ev ol id op K) : ∃ v U RO, FStep P ev ol id op v U RO ∧ K v U RO := by
  unfold xopF at h
  split at h
  · rename_i t m k x
    split at h
    · rename_i o hm
      split at h
      · rename_i z fs hh ho
        obtain ⟨kt, hkt, h⟩ := opt_e h
        obtain ⟨hc, r, q, rs, h1, h2, h3, h4, h5, h6, h7, h8, h⟩ := h
        exact ⟨_, _, _, .upd _ t kt m k x (.inl rfl) o z q fs hh r rs hm ho hkt hc h1 h2 h3 h4 h5 h6 h7 h8, h⟩
      · exact h.elim
    · exact h.elim
  · rename_i t m k x
    split at h
    · rename_i o hm
      split at h
      · rename_i z fs hh ho
        obtain ⟨kt, hkt, h⟩ := opt_e h
        obtain ⟨hc, r, q, rs, h1, h2, h3, h4, h5, h6, h7, h8, h⟩ := h
        exact ⟨_, _, _, .upd _ t kt m k x (.inr rfl) o z q fs hh r rs hm ho hkt hc h1 h2 h3 h4 h5 h6 h7 h8, h⟩
      · exact h.elim
    · exact h.elim
  · rename_i t m k ok
    split at h
    · rename_i o hm
      split at h
      · rename_i z fs hh ho
        obtain ⟨kt, hkt, h⟩ := opt_e h
        obtain ⟨hc, h⟩ := h
        rcases h.h with ⟨i, e, rfl, h1, h2, h⟩ | ⟨r, rfl, h1, h2, h⟩ | ⟨v, h1, h2, h⟩
        · exact ⟨_, _, _, .look t kt m k ok o z fs i e hm ho hkt hc h1 h2, h⟩
        · exact ⟨_, _, _, .peek t kt m k o z fs hh r hm ho hkt hc h1 h2, h⟩
        · exact ⟨_, _, _, .lookNo t kt m k ok o z fs hh v hm ho hkt hc h1 h2, h⟩
      · exact h.elim
    · exact h.elim
  · rename_i args ts
    split at h
    · rename_i m k t tk ha ht
      rw [arr2 ha, arr2 ht]
      split at h
      · rename_i o hm
        split at h
        · rename_i z fs hh ho
          obtain ⟨kt, hkt, h⟩ := opt_e h
          obtain ⟨hc, r, h1, h2, h⟩ := h
          exact ⟨_, _, _, .del t tk kt m k o z fs hh r hm ho hkt hc h1 h2, h⟩
        · exact h.elim
      · exact h.elim
    · exact h.elim
  · rename_i args ts
    split at h
    · rename_i x t ha ht
      rw [arr1 ha, arr1 ht]
      split at h
      · rename_i o off len room hx
        split at h
        · rename_i rs ho
          obtain ⟨sz, hsz, h⟩ := opt_e h
          obtain ⟨z, hz, h⟩ := opt_e h
          rw [fL_eq] at h
          obtain ⟨hl, hr, h⟩ := h
          exact ⟨_, _, _, .clr t x o off len room true rs z sz hx ho hsz hz hl hr, h⟩
        · exact h.elim
      · exact h.elim
    · exact h.elim
  · rename_i t len parts
    obtain ⟨sz, hsz, h⟩ := opt_e h
    obtain ⟨z, hz, h⟩ := opt_e h
    obtain ⟨cs, hcs, h⟩ := opt_e h
    rw [fL_eq] at h
    obtain ⟨hc, h'⟩ := brn_t h
    rw [fU_eq] at h'
    simp only [Bool.and_eq_true, decide_eq_true_eq] at hc
    have h1 := Nat.eq_of_beq_eq_true hc.1.1.1.1.1.1
    subst h1
    exact ⟨_, _, _, .litS t len parts z cs hsz hz hc.1.1.1.1.1.2 hc.1.1.1.1.2 hc.1.1.1.2 hc.1.1.2 hc.1.2 hc.2 hcs, h'⟩
  · rename_i s d x
    split at h
    · rename_i o z hx
      split at h
      · rename_i rs ho
        obtain ⟨hc, h'⟩ := brn_t h
        rw [Bool.and_eq_true] at hc
        have h1 := Nat.eq_of_beq_eq_true hc.2
        subst h1
        exact ⟨_, _, _, .cnv s d x o rs hx ho hc.1, h'⟩
      · exact h.elim
    · exact h.elim
  · exact h.elim

theorem xslice_ok {P : Program} {ev : Operand → AV} {ol : Nat → Option AO} {id : Nat} {t : TypeId} {x : Operand} {lo hi : Option Operand} {K : AV → List (Nat × Option AO) → List Nat → Prop}
    (h : xslice P ev ol id t x lo hi K) : ∃ v U RO, BStep P ev ol id (.slice t x lo hi none) v U RO ∧ K v U RO := by
  unfold xslice at h
  split at h
  · rename_i l hx
    split at h
    · rename_i ht
      obtain ⟨a, ha, h⟩ := bndX_e h
      obtain ⟨b, hb, h1, h2, h⟩ := bndX_e h
      rw [cut_eq ha hb] at h
      exact ⟨_, _, _, .slStr t x lo hi l a b hx ht ha hb h1 h2, h⟩
    · exact h.elim
  · rename_i xs hx
    obtain ⟨sz, hsz, hl, h⟩ := opt_e h
    obtain ⟨a, ha, h⟩ := bndX_e h
    obtain ⟨b, hb, h1, h2, h⟩ := bndX_e h
    rw [cut_eq ha hb] at h
    refine ⟨_, _, _, .slSl t x lo hi xs a b sz hx hsz ?_ ha hb h1 h2, h⟩
    cases lo with
    | none => exact .inl ha
    | some _ => exact .inr hl
  · rename_i o z hx
    obtain ⟨sz, hsz, h⟩ := opt_e h
    obtain ⟨rs, hrs, hl, h⟩ := opt_e h
    rcases h with h | ⟨rs', hi', h5, h6, ho, h7, h4⟩
    rotate_left
    · subst h5; subst h6; subst h7
      obtain ⟨b, hb, hbl, h3⟩ := bndX_e h4
      have : rs = rs' := by
        unfold rowsR at hrs
        rw [ho] at hrs
        injection hrs with hrs; exact hrs.symm
      subst this
      exact ⟨_, _, _, .cutW t x hi' o z b rs hx ho hl hsz hb hbl, h3⟩
    obtain ⟨a, ha, h⟩ := bndX_e h
    obtain ⟨b, hb, h1, h2, h⟩ := bndX_e h
    obtain ⟨y, hy, hy'⟩ := rowsR_inv hrs
    exact ⟨_, _, _, .slOsw t x lo hi o z a b sz y rs hx hy hy' hl hsz ha hb h1 h2, h⟩
  · rename_i o off len room hx
    obtain ⟨sz, hsz, h⟩ := opt_e h
    obtain ⟨rs, hrs, hl, hr, h⟩ := opt_e h
    obtain ⟨a, ha, h⟩ := bndX_e h
    obtain ⟨b, hb, h1, h2, h⟩ := bndX_e h
    obtain ⟨y, hy, hy'⟩ := rowsR_inv hrs
    exact ⟨_, _, _, .slOsl t x lo hi o off len room a b sz y rs hx hy hy' hl hsz ha hb h1 h2 hr, h⟩
  · exact h.elim

theorem xopB_ok {P : Program} {ev : Operand → AV} {ol : Nat → Option AO} {id : Nat} {op : Op} {K : AV → List (Nat × Option AO) → List Nat → Prop}
    (h : xopB P ev ol id op K) : ∃ v U RO, BStep P ev ol id op v U RO ∧ K v U RO := by
  unfold xopB at h
  split at h
  · exact xslice_ok h
  · rename_i t x hh m
    split at h
    · rename_i k1 h1 k2 m1 he hm
      split at h
      · exact h.elim
      · rename_i hs
        obtain ⟨sz, hsz, h⟩ := opt_e h
        obtain ⟨q, hq, h⟩ := opt_e h
        obtain ⟨hc, h⟩ := brn_t h
        simp only [Bool.and_eq_true, decide_eq_true_eq] at hc
        obtain ⟨rfl, rfl⟩ := hc
        exact ⟨_, _, _, .slZero t x none hh m k1 k2 q sz (fun l e => hs l e) hq hsz rfl he hm, h⟩
    · exact h.elim
  · rename_i t l c
    split at h
    · rename_i k1 n k2 m hl hc
      obtain ⟨sz, hsz, h⟩ := opt_e h
      obtain ⟨z, hz, h⟩ := opt_e h
      rw [fL_eq] at h
      obtain ⟨h0, h1, h2, h⟩ := h
      exact ⟨_, _, _, .mkSl t l c k1 k2 n m z sz hl hc h0 h1 h2 hsz hz, h⟩
    · exact h.elim
  · rename_i t len parts
    obtain ⟨sz, hsz, h⟩ := opt_e h
    obtain ⟨z, hz, h⟩ := opt_e h
    obtain ⟨cs, hcs, h⟩ := opt_e h
    rw [fL_eq] at h
    obtain ⟨hc, h⟩ := brn_t h
    simp only [Bool.and_eq_true, decide_eq_true_eq] at hc
    rw [fU_eq] at h
    exact ⟨_, _, _, .bldSl t len parts z cs sz hsz hz hc.1.1.1 hc.1.1.2 hc.1.2 hc.2 hcs, h⟩
  · rename_i s d x
    split at h
    · rename_i l hx
      obtain ⟨hc, hl, h⟩ := brn_t h
      exact ⟨_, _, _, .toBytes s d x l hx hc hl, h⟩
    · rename_i hs
      obtain ⟨q, hq, h⟩ := opt_e h
      obtain ⟨hc, l, hl, h⟩ := brn_t h
      exact ⟨_, _, _, .toStr s d x l q (fun l e => hs l e) hq hl hc, h⟩
  · rename_i t
    obtain ⟨hc, h⟩ := brn_t h
    exact ⟨_, _, _, .mkMap t hc, h⟩
  · rename_i t x
    split at h
    · rename_i k n hx
      obtain ⟨hc, h⟩ := brn_t h
      exact ⟨_, _, _, .mkMapN t x k n hc hx, h⟩
    · exact h.elim
  · rename_i t m k x
    split at h
    · rename_i o hm
      split at h
      · rename_i p es ho
        obtain ⟨kt, hkt, h⟩ := opt_e h
        obtain ⟨hc, h⟩ := h
        rcases h with h | ⟨r, v', hwk, hr, hlim, h⟩
        · obtain ⟨r, hr, hlim, h⟩ := xfind_e h
          rw [fM_eq] at h
          exact ⟨_, _, _, .mapUpd _ t kt m k x (.inl rfl) o p es r hm ho hkt hc hr hlim _ (.refl _), h⟩
        · exact ⟨_, _, _, .mapUpd _ t kt m k x (.inl rfl) o p es r hm ho hkt hc hr hlim v' hwk, h⟩
      · exact h.elim
    · exact h.elim
  · rename_i t m k x
    split at h
    · rename_i o hm
      split at h
      · rename_i p es ho
        obtain ⟨kt, hkt, h⟩ := opt_e h
        obtain ⟨hc, h⟩ := h
        rcases h with h | ⟨r, v', hwk, hr, hlim, h⟩
        · obtain ⟨r, hr, hlim, h⟩ := xfind_e h
          rw [fM_eq] at h
          exact ⟨_, _, _, .mapUpd _ t kt m k x (.inr rfl) o p es r hm ho hkt hc hr hlim _ (.refl _), h⟩
        · exact ⟨_, _, _, .mapUpd _ t kt m k x (.inr rfl) o p es r hm ho hkt hc hr hlim v' hwk, h⟩
      · exact h.elim
    · exact h.elim
  · rename_i t m k ok
    split at h
    · rename_i o hm
      split at h
      · rename_i p es ho
        obtain ⟨kt, hkt, h⟩ := opt_e h
        obtain ⟨hc, h⟩ := h
        rcases h with h | ⟨r, v, hr, hv, h⟩
        · obtain ⟨r, hr, h⟩ := xfind_e h
          cases r with
          | none =>
            simp only [xfound] at h
            obtain ⟨vt, hvt, h⟩ := opt_e h
            obtain ⟨v, hv, h⟩ := opt_e h
            rw [fAV_eq] at h
            refine ⟨_, _, _, .look t kt m k ok o p es _ v hm ho hkt hc hr (.inr ⟨rfl, vt, v, hvt, hv, .refl _⟩), ?_⟩
            cases ok
            · exact h
            · exact h
          | some i =>
            simp only [xfound] at h
            obtain ⟨e, he, h⟩ := opt_e h
            rw [fAV_eq] at h
            refine ⟨_, _, _, .look t kt m k ok o p es _ e.2 hm ho hkt hc hr (.inl ⟨i, e, rfl, he, rfl⟩), ?_⟩
            cases ok
            · exact h
            · exact h
        · refine ⟨_, _, _, .look t kt m k ok o p es r v hm ho hkt hc hr hv, ?_⟩
          cases ok
          · exact h
          · exact h
      · exact h.elim
    · rename_i hm
      obtain ⟨kt, hkt, h⟩ := opt_e h
      obtain ⟨hc, h⟩ := h
      obtain ⟨vt, hvt, h⟩ := opt_e h
      obtain ⟨v, hv, h⟩ := opt_e h
      rw [fAV_eq] at h
      refine ⟨_, _, _, .lookN t kt vt m k ok v hm hkt hc hvt hv, ?_⟩
      cases ok
      · exact h
      · exact h
    · exact h.elim
  · rename_i args ts
    split at h
    · rename_i s x t tx ha ht
      rw [arr2 ha, arr2 ht]
      unfold xappend at h
      split at h
      · rename_i hs
        obtain ⟨q, hq, h⟩ := opt_e h
        obtain ⟨sz, hsz, h⟩ := opt_e h
        obtain ⟨hc, hl, hlim, h⟩ := brn_t h
        rw [fU_eq] at h
        exact ⟨_, _, _, .appE t tx s x q sz hs hq hsz hc hl hlim, h⟩
      · rename_i o z hs
        split at h
        · rename_i p rs ho
          obtain ⟨q, hq, h⟩ := opt_e h
          obtain ⟨sz, hsz, h⟩ := opt_e h
          obtain ⟨hc, hl, hl', hlim, h⟩ := brn_t h
          simp only [Bool.and_eq_true, decide_eq_true_eq] at hc
          rw [fU_eq] at h
          exact ⟨_, _, _, .appW t tx s x q sz o z p rs hs hc.2 ho hq hsz hc.1 hl hl' hlim, h⟩
        · exact h.elim
      · exact h.elim
    · exact h.elim
  · exact h.elim
end Go.Ab
