/-
  AbBDef: operations on lists and maps: slices of slices, rows made, appended, copied, bytes of strings, maps.
-/
import Derived.Test.YtnofpgegbhegnaaGreatDoorAbPval
namespace Go.Ab

/-- the rows of a list: are they pure, what are they, which objects are read -/
def listA (ol : Nat → Option AO) : AV → Option (Bool × List (List AV) × List Nat)
  | .sl xs => some (true, xs, [])
  | .esl => some (true, [], [])
  | .osw o _ => match ol o with
    | some (.rows p rs) => some (p, rs, [o])
    | some (.froz rs) => some (true, rs, [o])
    | _ => none
  | .osl o off len _ => match ol o with
    | some (.rows p rs) => some (p, (rs.drop off).take len, [o])
    | some (.froz rs) => some (true, (rs.drop off).take len, [o])
    | _ => none
  | .str l => some (true, l.map fun b => [.int .u8 b.toNat], [])
  | _ => none

/-- a key of a map -/
def keyEq (P : Program) (kt : TypeId) (k k' : AV) : Option Bool :=
  match P.underlying kt, k, k' with
  | some (.int _), .int q a, .int q' b => if q = q' then some (a == b) else none
  | some .string, .str a, .str b => some (a == b)
  | some .bool, .bool a, .bool b => some (a == b)
  | some (.struct _), .agg [.int q a, .int r b], .agg [.int q' a', .int r' b'] => if q = q' ∧ r = r' then some (a == a' && b == b') else none
  | _, _, _ => none

/-- a key of two numbers -/
def pairT (P : Program) (kt : TypeId) : Bool :=
  match P.underlying kt with
  | some (.struct fs) => (match fs.toList with
    | [f, g] => f.name != "_" && g.name != "_" && decide (f.offset = 0) && decide (g.offset = 1) && (match P.underlying f.type, P.underlying g.type with | some (.int _), some (.int _) => true | _, _ => false) &&
        decide ((kindT P f.type).map (·.1) = some false) && decide ((kindT P g.type).map (·.1) = some false) && plainEq P 20 kt && decide (P.cellsOf kt = 2)
    | _ => false)
  | _ => false

/-- a key of a kind of its type -/
def keyOk (P : Program) (kt : TypeId) (k : AV) : Bool :=
  match P.underlying kt, k with
  | some (.int _), .int _ _ => true
  | some .string, .str _ => true
  | some .bool, .bool _ => true
  | some (.struct _), .agg [.int _ _, .int _ _] => pairT P kt
  | _, _ => false

/-- a zero value -/
def zeroV (P : Program) (t : TypeId) : Option AV :=
  match P.info? t with
  | none => none
  | some i => match i.zero with
    | some v => some (ofVal v)
    | none => none

/-- where a key stands -/
def findAt (P : Program) (kt : TypeId) (k : AV) : List (AV × AV) → Nat → Option Nat → Prop
  | [], _, r => r = none
  | e :: es, i, r => (keyEq P kt k e.1 = some true ∧ r = some i) ∨ (keyEq P kt k e.1 = some false ∧ findAt P kt k es (i + 1) r)


/-- a bound of a slice expression -/
def bndP (ev : Operand → AV) (o : Option Operand) (d n : Nat) : Prop :=
  match o with
  | none => n = d
  | some x => ∃ k i, ev x = .int k i ∧ 0 ≤ i ∧ i.toNat = n

/-- the cells of an element, of a type whose elements are not too wide -/
def rowT (P : Program) (t : TypeId) : Option Nat :=
  match P.underlying t with
  | some (.slice e) => match P.info? e with
    | some i => match i.zero with
      | some z => if (decide (i.bytes ≤ 131072) && decide (z.cells.size = i.size)) = true then some i.size else none
      | none => none
    | none => none
  | _ => none

/-- a list's type, of which appends may be -/
def listT (P : Program) (t : TypeId) : Bool :=
  match P.underlying t with
  | some (.slice _) => true
  | some .string => true
  | _ => false

/-- a zero element of a slice's type -/
def zeroE (P : Program) (t : TypeId) : Option (List AV) :=
  match P.underlying t with
  | some (.slice e) => zeroA P e
  | _ => none

def chunk (n : Nat) : Nat → List AV → List (List AV)
  | 0, _ => []
  | k + 1, cs => cs.take n :: chunk n k (cs.drop n)

/-- the type of a map's keys -/
def keyT (P : Program) (t : TypeId) : Option TypeId :=
  match P.underlying t with
  | some (.map k _) => some k
  | _ => none
def valT (P : Program) (t : TypeId) : Option TypeId :=
  match P.underlying t with
  | some (.map _ e) => some e
  | _ => none

/-- an entry is set, or put behind the others -/
def putE (es : List (AV × AV)) (r : Option Nat) (k v : AV) : List (AV × AV) :=
  match r with
  | some i => es.modify i fun _ => (k, v)
  | none => es ++ [(k, v)]

/-- bytes, as cells -/
def enc8 (l : List UInt8) : List (List AV) := l.map fun b => [.int .u8 b.toNat]

/-- a string's type, and one of bytes -/
def bytesT (P : Program) (s d : TypeId) : Bool :=
  match P.underlying s, P.underlying d with
  | some .string, some (.slice e) => match P.underlying e with
    | some (.int .u8) => true
    | _ => false
  | _, _ => false

inductive BStep (P : Program) (ev : Operand → AV) (ol : Nat → Option AO) (id : Nat) : Op → AV → List (Nat × Option AO) → List Nat → Prop
  | slStr (t : TypeId) (x : Operand) (lo hi : Option Operand) (l : List UInt8) (a b : Nat) (h : ev x = .str l) (ht : P.underlying t = some .string)
      (ha : bndP ev lo 0 a) (hb : bndP ev hi l.length b) (hab : a ≤ b) (hbl : b ≤ l.length) : BStep P ev ol id (.slice t x lo hi none) (.str ((l.take b).drop a)) [] []
  | slSl (t : TypeId) (x : Operand) (lo hi : Option Operand) (xs : List (List AV)) (a b sz : Nat) (h : ev x = .sl xs) (ht : rowT P t = some sz) (hl : a = 0 ∨ ∀ r, r ∈ xs → r.length = sz)
      (ha : bndP ev lo 0 a) (hb : bndP ev hi xs.length b) (hab : a ≤ b) (hbl : b ≤ xs.length) : BStep P ev ol id (.slice t x lo hi none) (.sl ((xs.take b).drop a)) [] []
  | slZero (t : TypeId) (x : Operand) (lo : Option Operand) (h m : Operand) (k k' : IntKind) (q : Bool × List (List AV) × List Nat) (sz : Nat) (hs : ∀ l, ev x ≠ .str l) (hx : listA ol (ev x) = some q) (ht : rowT P t = some sz)
      (ha : bndP ev lo 0 0) (hh : ev h = .int k 0) (hm : ev m = .int k' 0) : BStep P ev ol id (.slice t x lo (some h) (some m)) .esl [] q.2.2
  | slOsw (t : TypeId) (x : Operand) (lo hi : Option Operand) (o z a b sz : Nat) (y : AO) (rs : List (List AV)) (h : ev x = .osw o z) (ho : ol o = some y) (hy : y = .rows true rs ∨ y = .rows false rs ∨ y = .froz rs)
      (hr : ∀ r, r ∈ rs → r.length = sz) (ht : rowT P t = some sz) (ha : bndP ev lo 0 a) (hb : bndP ev hi rs.length b) (hab : a ≤ b) (hbl : b ≤ rs.length) :
      BStep P ev ol id (.slice t x lo hi none) (.osl o a (b - a) (rs.length - a)) [] [o]
  | slOsl (t : TypeId) (x : Operand) (lo hi : Option Operand) (o off len room a b sz : Nat) (y : AO) (rs : List (List AV)) (h : ev x = .osl o off len room) (ho : ol o = some y) (hy : y = .rows true rs ∨ y = .rows false rs ∨ y = .froz rs)
      (hr : ∀ r, r ∈ rs → r.length = sz) (ht : rowT P t = some sz) (ha : bndP ev lo 0 a) (hb : bndP ev hi len b) (hab : a ≤ b) (hbl : b ≤ len) (hbr : off + room ≤ rs.length) :
      BStep P ev ol id (.slice t x lo hi none) (.osl o (off + a) (b - a) (room - a)) [] [o]
  | cutW (t : TypeId) (x : Operand) (hi : Operand) (o z b : Nat) (rs : List (List AV)) (h : ev x = .osw o z) (ho : ol o = some (.rows true rs)) (hr : ∀ r, r ∈ rs → r.length = z) (ht : rowT P t = some z)
      (hb : bndP ev (some hi) rs.length b) (hbl : b ≤ rs.length) : BStep P ev ol id (.slice t x none (some hi) none) (.osw id z) [(id, some (.rows true (rs.take b))), (o, none)] []
  | mkSl (t : TypeId) (l c : Operand) (k k' : IntKind) (n m : Int) (z : List AV) (sz : Nat) (hl : ev l = .int k n) (hc : ev c = .int k' m) (h0 : 0 ≤ n) (h1 : n ≤ m) (h2 : m ≤ LIM)
      (ht : rowT P t = some sz) (hz : zeroE P t = some z) : BStep P ev ol id (.makeSlice t l c) (.osw id sz) [(id, some (.rows true (List.replicate n.toNat z)))] []
  | bldSl (t : TypeId) (len : Nat) (parts : Array (Nat × Operand)) (z cs : List AV) (sz : Nat) (ht : rowT P t = some sz) (hz : zeroE P t = some z) (hlim : len * sz ≤ 16777216) (hlim2 : len ≤ LIM)
      (hcl : cs.length = len * sz) (hall : cs.all isCell = true) (hf : fillA ev (fun i => some (i * sz, sz)) parts.toList (List.replicate len z).flatten = some cs) : BStep P ev ol id (.buildSlice t len parts) (.osw id sz) [(id, some (.rows (cs.all idFree) (chunk sz len cs)))] []
  | appE (t tx : TypeId) (s x : Operand) (q : Bool × List (List AV) × List Nat) (sz : Nat) (hs : ev s = .esl) (hx : listA ol (ev x) = some q) (ht : rowT P t = some sz) (htx : listT P tx = true)
      (hr : ∀ r, r ∈ q.2.1 → r.length = sz) (hlim : q.2.1.length ≤ LIM) : BStep P ev ol id (.call { callee := .builtin .append, args := #[s, x], argTypes := #[t, tx] }) (.osw id sz) [(id, some (.rows q.1 q.2.1))] q.2.2
  | appW (t tx : TypeId) (s x : Operand) (q : Bool × List (List AV) × List Nat) (sz o z : Nat) (p : Bool) (rs : List (List AV)) (hs : ev s = .osw o z) (hz : z = sz) (ho : ol o = some (.rows p rs)) (hx : listA ol (ev x) = some q)
      (ht : rowT P t = some sz) (htx : listT P tx = true) (hr : ∀ r, r ∈ q.2.1 → r.length = sz) (hr' : ∀ r, r ∈ rs → r.length = sz) (hlim : rs.length + q.2.1.length ≤ LIM) :
      BStep P ev ol id (.call { callee := .builtin .append, args := #[s, x], argTypes := #[t, tx] }) (.osw id sz) [(id, some (.rows (p && q.1) (rs ++ q.2.1))), (o, none)] q.2.2
  | toBytes (s d : TypeId) (x : Operand) (l : List UInt8) (hx : ev x = .str l) (ht : bytesT P s d = true) (hl : l.length ≤ LIM) :
      BStep P ev ol id (.convert s d x) (.osw id 1) [(id, some (.rows true (enc8 l)))] []
  | toStr (s d : TypeId) (x : Operand) (l : List UInt8) (q : Bool × List (List AV) × List Nat) (hs : ∀ l, ev x ≠ .str l) (hx : listA ol (ev x) = some q) (hl : q.2.1 = enc8 l) (ht : bytesT P d s = true) :
      BStep P ev ol id (.convert s d x) (.str l) [] q.2.2
  | mkMap (t : TypeId) (h : (keyT P t).isSome = true) : BStep P ev ol id (.makeMap t none) (.mapo id) [(id, some (.mapo true []))] []
  | mkMapN (t : TypeId) (x : Operand) (k : IntKind) (n : Int) (h : (keyT P t).isSome = true) (hx : ev x = .int k n) : BStep P ev ol id (.makeMap t (some x)) (.mapo id) [(id, some (.mapo true []))] []
  | mapUpd (op : Op) (t kt : TypeId) (m k x : Operand) (hop : op = .mapUpdate t m k x ∨ op = .insert t m k x) (o : Nat) (p : Bool) (es : List (AV × AV)) (r : Option Nat) (hm : ev m = .mapo o) (ho : ol o = some (.mapo p es)) (ht : keyT P t = some kt)
      (hk : keyOk P kt (ev k) = true) (hr : findAt P kt (ev k) es 0 r) (hlim : es.length + 1 ≤ LIM) (v' : AV) (hw : Wk (ev x) v') : BStep P ev ol id op .undef [(o, some (.mapo (p && idFreeV v') (putE es r (ev k) v')))] []
  | look (t kt : TypeId) (m k : Operand) (ok : Bool) (o : Nat) (p : Bool) (es : List (AV × AV)) (r : Option Nat) (v : AV) (hm : ev m = .mapo o) (ho : ol o = some (.mapo p es)) (ht : keyT P t = some kt) (hk : keyOk P kt (ev k) = true)
      (hr : findAt P kt (ev k) es 0 r) (hv : (∃ i e, r = some i ∧ es[i]? = some e ∧ v = e.2) ∨ (r = none ∧ ∃ vt zv, valT P t = some vt ∧ zeroV P vt = some zv ∧ Wk zv v)) :
      BStep P ev ol id (.lookup t m k ok) (if ok then .tup [v, .bool r.isSome] else v) [] [o]
  | lookN (t kt vt : TypeId) (m k : Operand) (ok : Bool) (v : AV) (hm : ev m = .con (.map none)) (ht : keyT P t = some kt) (hk : keyOk P kt (ev k) = true)
      (hvt : valT P t = some vt) (hz : zeroV P vt = some v) : BStep P ev ol id (.lookup t m k ok) (if ok then .tup [v, .bool false] else v) [] []

/-! maps that own their lists -/
def keysF (fs : List (AV × List (List AV))) : List (AV × AV) := fs.map fun e => (e.1, AV.undef)
def putF (fs : List (AV × List (List AV))) (r : Option Nat) (k : AV) (rs : List (List AV)) : List (AV × List (List AV)) :=
  match r with
  | some i => fs.set i (k, rs)
  | none => fs ++ [(k, rs)]
def delF (fs : List (AV × List (List AV))) (r : Option Nat) : List (AV × List (List AV)) :=
  match r with
  | some i => fs.eraseIdx i
  | none => fs
/-- the list that is out, if any, is the one of this place -/
def holeAt (h : Option (Nat × Nat)) (r : Option Nat) : Prop := h = none ∨ ∃ i q, h = some (i, q) ∧ r = some i
/-- a conversion of a list of bytes to its own type -/
def cnvT (P : Program) (s d : TypeId) : Bool :=
  Nat.beq s d && match P.underlying s with
    | some (.slice e) => (match P.underlying e with | some (.int .u8) => true | _ => false)
    | _ => false
theorem cnvT_inv {P : Program} {s d : TypeId} (h : cnvT P s d = true) : d = s ∧ ∃ e, P.underlying s = some (.slice e) ∧ P.underlying e = some (.int .u8) := by
  unfold cnvT at h
  rw [Bool.and_eq_true] at h
  obtain ⟨h1, h2⟩ := h
  split at h2
  · rename_i e he
    split at h2
    · rename_i h3; exact ⟨(Nat.eq_of_beq_eq_true h1).symm, e, he, h3⟩
    · cases h2
  · cases h2

inductive FStep (P : Program) (ev : Operand → AV) (ol : Nat → Option AO) (id : Nat) : Op → AV → List (Nat × Option AO) → List Nat → Prop
  | look (t kt : TypeId) (m k : Operand) (ok : Bool) (o z : Nat) (fs : List (AV × List (List AV))) (i : Nat) (e : AV × List (List AV)) (hm : ev m = .mapo o) (ho : ol o = some (.fmap z fs none)) (ht : keyT P t = some kt)
      (hk : keyOk P kt (ev k) = true) (hr : findAt P kt (ev k) (keysF fs) 0 (some i)) (he : fs[i]? = some e) :
      FStep P ev ol id (.lookup t m k ok) (if ok then .tup [.osw id z, .bool true] else .osw id z) [(id, some (.rows true e.2)), (o, some (.fmap z fs (some (i, id))))] []
  | peek (t kt : TypeId) (m k : Operand) (o z : Nat) (fs : List (AV × List (List AV))) (h : Option (Nat × Nat)) (r : Option Nat) (hm : ev m = .mapo o) (ho : ol o = some (.fmap z fs h)) (ht : keyT P t = some kt)
      (hk : keyOk P kt (ev k) = true) (hr : findAt P kt (ev k) (keysF fs) 0 r) (hz : ∃ vt zv, valT P t = some vt ∧ zeroV P vt = some zv) : FStep P ev ol id (.lookup t m k true) (.tup [.undef, .bool r.isSome]) [] [o]
  | lookNo (t kt : TypeId) (m k : Operand) (ok : Bool) (o z : Nat) (fs : List (AV × List (List AV))) (h : Option (Nat × Nat)) (v : AV) (hm : ev m = .mapo o) (ho : ol o = some (.fmap z fs h)) (ht : keyT P t = some kt)
      (hk : keyOk P kt (ev k) = true) (hr : findAt P kt (ev k) (keysF fs) 0 none) (hv : ∃ vt zv, valT P t = some vt ∧ zeroV P vt = some zv ∧ Wk zv v) :
      FStep P ev ol id (.lookup t m k ok) (if ok then .tup [v, .bool false] else v) [] [o]
  | upd (op : Op) (t kt : TypeId) (m k x : Operand) (hop : op = .mapUpdate t m k x ∨ op = .insert t m k x) (o z q : Nat) (fs : List (AV × List (List AV))) (h : Option (Nat × Nat)) (r : Option Nat) (rs : List (List AV))
      (hm : ev m = .mapo o) (ho : ol o = some (.fmap z fs h)) (ht : keyT P t = some kt) (hk : keyOk P kt (ev k) = true) (hr : findAt P kt (ev k) (keysF fs) 0 r) (hh : holeAt h r) (hlim : fs.length + 1 ≤ LIM)
      (hx : ev x = .osw q z) (hq : ol q = some (.rows true rs)) (hl : ∀ row, row ∈ rs → row.length = z) (hz : 0 < z) (hne : q ≠ o) :
      FStep P ev ol id op .undef [(o, some (.fmap z (putF fs r (ev k) rs) none)), (q, none)] []
  | del (t tk kt : TypeId) (m k : Operand) (o z : Nat) (fs : List (AV × List (List AV))) (h : Option (Nat × Nat)) (r : Option Nat) (hm : ev m = .mapo o) (ho : ol o = some (.fmap z fs h)) (ht : keyT P t = some kt)
      (hk : keyOk P kt (ev k) = true) (hr : findAt P kt (ev k) (keysF fs) 0 r) (hh : holeAt h r) :
      FStep P ev ol id (.call { callee := .builtin .delete, args := #[m, k], argTypes := #[t, tk] }) (.tup []) [(o, some (.fmap z (delF fs r) none))] []
  | len (x : Operand) (ts : Array TypeId) (args : Array Operand) (t : TypeId) (o z : Nat) (fs : List (AV × List (List AV))) (h : Option (Nat × Nat)) (ha : args[0]? = some x) (hts : ts[0]? = some t) (ht : (keyT P t).isSome = true)
      (hx : ev x = .mapo o) (ho : ol o = some (.fmap z fs h)) : FStep P ev ol id (.call { callee := .builtin .len, args := args, argTypes := ts }) (.int .i64 fs.length) [] [o]
  | nilqW (t t' e : TypeId) (x : Operand) (o z : Nat) (p : Bool) (rs : List (List AV)) (hx : ev x = .osw o z) (ho : ol o = some (.rows p rs)) (ht : P.underlying t = some (.slice e)) :
      FStep P ev ol id (.binOp .eql t x (.const (.slice none 0 0)) t') (.anyb (rs = [])) [] [o]
  | clr (t : TypeId) (x : Operand) (o off len room : Nat) (p : Bool) (rs : List (List AV)) (z : List AV) (sz : Nat) (h : ev x = .osl o off len room) (ho : ol o = some (.rows p rs)) (ht : rowT P t = some sz) (hz : zeroE P t = some z)
      (hr : ∀ r, r ∈ rs → r.length = sz) (hbr : off + room ≤ rs.length) :
      FStep P ev ol id (.call { callee := .builtin .clear, args := #[x], argTypes := #[t] }) (.tup []) [(o, some (.rows p (rs.take off ++ (List.replicate len z ++ rs.drop (off + len)))))] []
  | mk (t : TypeId) (z : Nat) (h : (keyT P t).isSome = true) : FStep P ev ol id (.makeMap t none) (.mapo id) [(id, some (.fmap z [] none))] []
  | litS (t : TypeId) (len : Nat) (parts : Array (Nat × Operand)) (z cs : List AV) (ht : rowT P t = some 1) (hz : zeroE P t = some z) (hlim : len * 1 ≤ 16777216) (hlim2 : len ≤ LIM) (hpos : 0 < len)
      (hcl : cs.length = len * 1) (hall : cs.all isCell = true) (hfr : cs.all idFree = true) (hf : fillA ev (fun i => some (i * 1, 1)) parts.toList (List.replicate len z).flatten = some cs) :
      FStep P ev ol id (.buildSlice t len parts) (.osw id 1) [(id, some (.lit (chunk 1 len cs)))] []
  | cnv (s d : TypeId) (x : Operand) (o : Nat) (rs : List (List AV)) (hx : ev x = .osw o 1) (ho : ol o = some (.lit rs)) (ht : cnvT P s d = true) :
      FStep P ev ol id (.convert s d x) (.osw o 1) [(o, some (.rows true rs))] []
end Go.Ab
