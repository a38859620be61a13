/-
  AbStep: one operation as a step on abstract states (AStep), contracts of functions (FC).
-/
import Derived.Test.YtnofpgegbhegnaaGreatDoorAbBDef
namespace Go.Ab

/-- so many numbers of objects an operation may take -/
def W : Nat := 8

/-- the objects of a list -/
def lk (os : List (Nat × AO)) (o : Nat) : Option AO :=
  match os with
  | [] => none
  | (k, x) :: r => if o = k then some x else lk r o

/-- the objects' part of a state -/
structure ObjsOk (Ow : Nat → Prop) (S : Nat → Prop) (w : World) (ι : Imap) (os : Nat → Option AO) : Prop where
  ob : ∀ o x, os o = some x → ObjOk S w ι o x
  own : ∀ o x, os o = some x → x.live = true → ∀ l, ι o = some (some l) → ∀ b, foot w x l b → Ow b ∧ ¬ S b ∧ b < w.heap.size
  inj : ∀ o o' x x', os o = some x → os o' = some x' → x.live = true → x'.live = true →
    ∀ l l', ι o = some (some l) → ι o' = some (some l') → ∀ b, foot w x l b → foot w x' l' b → o = o'

theorem Inv.objs {C : Cx} {S : Nat → Prop} {ι : Imap} {un : Nat → Prop} {f : FS} {a : Act} {w : World} (h : Inv C S ι un f a w) : ObjsOk C.Ow S w ι f.os :=
  ⟨h.ob, h.own, h.inj⟩

/-- a call of function f enters it -/
def callB (P : Program) (f : Nat) : Bool :=
  match P.funcs[f]? with
  | some fn => !(fn.name == "runtime.NumGoroutine") && fn.body.isSome && Nat.blt f FB
  | none => false

theorem callB_lt {P : Program} {f : Nat} (h : callB P f = true) : Nat.blt f FB = true := by
  unfold callB at h
  split at h
  · simp only [Bool.and_eq_true] at h; exact h.2
  · cases h
theorem callB_run {P : Program} {f : Nat} (h : callB P f = true) (args : Array Value) (w : World) : (callFunc f args).run P w = .ok (.enter f args) w := by
  unfold callB at h
  split at h
  · rename_i fn hf
    simp only [Bool.and_eq_true, Bool.not_eq_eq_eq_not, Bool.not_true] at h
    replace h := h.1
    have hb : fn.body.isNone = false := by cases hb : fn.body <;> simp_all
    unfold callFunc
    simp only [Sem.run_bind, run_program, Result.andThen_ok, hf, h.1, hb, Bool.false_eq_true, if_false, Sem.run_pure]
  · cases h

/-- blocks that a call may write: new ones, and those of the objects that it is handed -/
def OwOf (w0 : World) (ι0 : Imap) (oin : List (Nat × AO)) (b : Nat) : Prop :=
  w0.heap.size ≤ b ∨ ∃ o x l, lk oin o = some x ∧ x.live = true ∧ ι0 o = some (some l) ∧ foot w0 x l b

/-- THE CONTRACT of function f: called with arguments that read as args, and objects oin, it returns rv, and the objects behind it are os'; nothing else that was there has turned. -/
def FC (P : Program) (G : Gmap) (f : Nat) (oin : List (Nat × AO)) (args : List AV) (rv : AV) (os' : List (Nat × AO)) : Prop :=
  callB P f = true ∧ (∀ o x, lk os' o = some x → o < W) ∧
  ∀ (S0 : Nat → Prop) (ι0 : Imap) (w0 : World) (vs : Array Value),
    (∀ b, S0 b → b < w0.heap.size) → GOk G S0 w0 → ObjsOk (OwOf w0 ι0 oin) S0 w0 ι0 (lk oin) → (∀ o, oin.length ≤ o → ι0 o = none) → RepL S0 w0 ι0 args vs.toList →
    Calls P f vs w0 fun e w' => ∃ v S' ι', e = .returned v ∧ Fr (OwOf w0 ι0 oin) w0 w' ∧
      (∀ b, S' b → (S0 b ∨ OwOf w0 ι0 oin b) ∧ b < w'.heap.size) ∧ (∀ b, S0 b → S' b) ∧ ι0.le ι' ∧ (∀ o, W ≤ o → ι' o = none) ∧
      Rep S' w' ι' rv v ∧ ObjsOk (OwOf w0 ι0 oin) S' w' ι' (lk os')

mutual
/-- the objects that are named are renamed -/
def renAV (σ : Nat → Nat) : AV → AV
  | .ptr o r c => .ptr (σ o) r c
  | .osl o a b c => .osl (σ o) a b c
  | .osw o z => .osw (σ o) z
  | .mapo o => .mapo (σ o)
  | .agg cs => .agg (renL σ cs)
  | .tup cs => .tup (renL σ cs)
  | .fn f cs => .fn f (renL σ cs)
  | x => x
def renL (σ : Nat → Nat) : List AV → List AV
  | [] => []
  | x :: r => renAV σ x :: renL σ r
end

/-- rows of a box: each cell renamed (pure rows name no object) -/
def renO (σ : Nat → Nat) : AO → AO
  | .rows false rs => .rows false (rs.map (renL σ))
  | .rows true rs => .rows true rs
  | .froz rs => .froz rs
  | .fmap z fs h => .fmap z fs (h.map fun e => (e.1, σ e.2))
  | .lit rs => .lit rs
  | .mapo false es => .mapo false (es.map fun e => (e.1, renAV σ e.2))
  | .mapo true es => .mapo true es

mutual
/-- all objects that are named have numbers below n -/
def idsB (n : Nat) : AV → Bool
  | .ptr o _ _ => decide (o < n)
  | .osl o _ _ _ => decide (o < n)
  | .osw o _ => decide (o < n)
  | .mapo o => decide (o < n)
  | .agg cs => idsBL n cs
  | .tup cs => idsBL n cs
  | .fn _ cs => idsBL n cs
  | _ => true
def idsBL (n : Nat) : List AV → Bool
  | [] => true
  | x :: r => idsB n x && idsBL n r
end

def idsBO (n : Nat) : AO → Bool
  | .rows false rs => rs.all (idsBL n)
  | .mapo false es => es.all fun e => idsB n e.2
  | .fmap _ _ (some e) => decide (e.2 < n)
  | _ => true

mutual
/-- no memory hangs on it -/
def flat : AV → Bool
  | .int .. | .bool _ | .str _ | .con _ => true
  | .agg cs => flatL cs
  | .tup cs => flatL cs
  | _ => false
def flatL : List AV → Bool
  | [] => true
  | x :: r => flat x && flatL r
end

/-- mapping a list through a partial function -/
def optMap {α β : Type} (f : α → Option β) : List α → Option (List β)
  | [] => some []
  | x :: r => match f x, optMap f r with
    | some y, some s => some (y :: s)
    | _, _ => none

def rowsOf (cl : AV → Option AV) : AO → Option (List (List AV))
  | .rows true rs => some rs
  | .rows false rs => optMap (optMap cl) rs
  | .froz rs => some rs
  | .mapo _ _ => none
  | .fmap .. => none
  | .lit _ => none

/-- a value as one that names no object: the objects V are looked into -/
def closeAV (V : List Nat) (ol : Nat → Option AO) : Nat → AV → Option AV
  | 0, _ => none
  | n + 1, x => match x with
    | .osw o _ => if V.contains o then (match ol o with | some y => (rowsOf (closeAV V ol n) y).map .sl | none => none) else none
    | .osl o off len _ => if V.contains o then (match ol o with | some y => (rowsOf (closeAV V ol n) y).map fun rs => .sl ((rs.drop off).take len) | none => none) else none
    | .ptr o r c => if V.contains o then (match ol o with
        | some y => (match rowsOf (closeAV V ol n) y with | some rs => (match rs[r]? with | some row => some (.rp row c) | none => none) | none => none)
        | none => none) else none
    | .agg cs => (optMap (closeAV V ol n) cs).map .agg
    | .tup cs => (optMap (closeAV V ol n) cs).map .tup
    | .fn f cs => (optMap (closeAV V ol n) cs).map (.fn f)
    | .mapo _ => none
    | x => some x

/-- the objects V, written no more -/
def frozen (V : List Nat) (ol : Nat → Option AO) (n : Nat) : Option (List (Nat × Option AO)) :=
  optMap (fun o => match ol o with
    | some y => (rowsOf (closeAV V ol n) y).map fun rs => (o, some (.froz rs))
    | none => none) V

def addNew (id : Nat) (os : List (Nat × AO)) : List (Nat × Option AO) := os.map fun e => (id + e.1, some (renO (id + ·) e.2))

/-- a callee's number as the caller's: what is handed in stands at V, what is new behind id -/
def bk (V : List Nat) (id : Nat) (j : Nat) : Nat := if j < V.length then V.getD j 0 else id + j
def backU (V : List Nat) (id : Nat) (os' : List (Nat × AO)) : List (Nat × Option AO) :=
  os'.map (fun e => (bk V id e.1, some (renO (bk V id) e.2))) ++ V.map fun o => (o, none)
/-- a call that is handed objects: V, in the caller; oin, in the callee -/
structure Hands (V : List Nat) (id : Nat) (ol : Nat → Option AO) (avs : List AV) (oin : List (Nat × AO)) (argsC : List AV) : Prop where
  ok : (decide V.Nodup && idsBL V.length argsC && oin.all fun e => idsBO V.length e.2) = true
  keys : oin.map (·.1) = List.range V.length
  objs : WkOs (V.map ol) (oin.map fun e => some (renO (bk V id) e.2))
  args : WkL avs (renL (bk V id) argsC)

/-- ONE OPERATION: its value, the objects that turn, the objects that it reads -/
inductive AStep (P : Program) (G : Gmap) (ev : Operand → AV) (ol : Nat → Option AO) (id : Nat) : Op → AV → List (Nat × Option AO) → List Nat → Prop
  | pure (op : Op) (v : AV) (h : pval P ev op = some v) : AStep P G ev ol id op v [] []
  | more (op : Op) (v : AV) (U : List (Nat × Option AO)) (RO : List Nat) (h : BStep P ev ol id op v U RO) : AStep P G ev ol id op v U RO
  | files (op : Op) (v : AV) (U : List (Nat × Option AO)) (RO : List Nat) (h : FStep P ev ol id op v U RO) : AStep P G ev ol id op v U RO
  | nil (z : Nat) : AStep P G ev ol id (.assign (.const (.slice none 0 0))) (.osw id z) [(id, some (.rows true []))] []
  | pick (c a b : Operand) (t : Bool) (h : ev c = .bool t) : AStep P G ev ol id (.pick c a b) (if t then ev a else ev b) [] []
  | alloc (t : TypeId) (cs : List AV) (h : zeroA P t = some cs) : AStep P G ev ol id (.alloc t) (.ptr id 0 0) [(id, some (.rows false [cs]))] []
  | box (t : TypeId) (x : Operand) (cs : List AV) (h : cellsOfAV (ev x) = some cs) : AStep P G ev ol id (.box t x) (.ptr id 0 0) [(id, some (.rows false [cs]))] []
  | load (t : TypeId) (a : Operand) (o i c : Nat) (p : Bool) (rs : List (List AV)) (row : List AV) (v : AV) (h : ev a = .ptr o i c) (ho : ol o = some (.rows p rs))
      (hr : rs[i]? = some row) (hl : loadAs P t row c = some v) : AStep P G ev ol id (.load t a) v [] [o]
  | loadf (t : TypeId) (a : Operand) (o i c : Nat) (rs : List (List AV)) (row : List AV) (v : AV) (h : ev a = .ptr o i c) (ho : ol o = some (.froz rs))
      (hr : rs[i]? = some row) (hl : loadAs P t row c = some v) : AStep P G ev ol id (.load t a) v [] [o]
  | loadr (t : TypeId) (a : Operand) (row : List AV) (c : Nat) (v : AV) (h : ev a = .rp row c) (hl : loadAs P t row c = some v) : AStep P G ev ol id (.load t a) v [] []
  | store (t : TypeId) (a x : Operand) (o i c : Nat) (p : Bool) (rs : List (List AV)) (row cs : List AV) (b : Bool) (n : Nat) (h : ev a = .ptr o i c)
      (ho : ol o = some (.rows p rs)) (hr : rs[i]? = some row) (hc : cellsOfAV (ev x) = some cs) (hk : kindT P t = some (b, n)) (hn : cs.length = n)
      (hb : c + n ≤ row.length) : AStep P G ev ol id (.store t a x) .undef [(o, some (.rows (p && cs.all idFree) (rs.set i (setAt row c cs))))] []
  | idxSl (t e : TypeId) (x ix : Operand) (xs : List (List AV)) (k : IntKind) (n : Int) (row : List AV) (b : Bool) (h : ev x = .sl xs) (hi : ev ix = .int k n) (h0 : 0 ≤ n)
      (hr : xs[n.toNat]? = some row) (ht : P.underlying t = some (.slice e)) (hk : kindT P e = some (b, row.length)) : AStep P G ev ol id (.indexAddr t x ix) (.rp row 0) [] []
  | idxOsw (t e : TypeId) (x ix : Operand) (o z : Nat) (k : IntKind) (n : Int) (y : AO) (rs : List (List AV)) (row : List AV) (b : Bool) (h : ev x = .osw o z) (hi : ev ix = .int k n) (h0 : 0 ≤ n)
      (ho : ol o = some y) (hy : y = .rows true rs ∨ y = .rows false rs ∨ y = .froz rs) (hr : rs[n.toNat]? = some row) (ht : P.underlying t = some (.slice e)) (hk : kindT P e = some (b, row.length)) :
      AStep P G ev ol id (.indexAddr t x ix) (.ptr o n.toNat 0) [] [o]
  | idxOsl (t e : TypeId) (x ix : Operand) (o off len room : Nat) (k : IntKind) (n : Int) (y : AO) (rs : List (List AV)) (row : List AV) (b : Bool) (h : ev x = .osl o off len room)
      (hi : ev ix = .int k n) (h0 : 0 ≤ n) (h1 : n.toNat < len)
      (ho : ol o = some y) (hy : y = .rows true rs ∨ y = .rows false rs ∨ y = .froz rs) (hr : rs[off + n.toNat]? = some row) (ht : P.underlying t = some (.slice e)) (hk : kindT P e = some (b, row.length)) :
      AStep P G ev ol id (.indexAddr t x ix) (.ptr o (off + n.toNat) 0) [] [o]
  | idxArr (t e : TypeId) (x ix : Operand) (o r c len sz : Nat) (k : IntKind) (n : Int) (b : Bool) (h : ev x = .ptr o r c) (hi : ev ix = .int k n) (h0 : 0 ≤ n) (h1 : n < len)
      (ht : P.underlying t = some (.array len e)) (hk : kindT P e = some (b, sz)) : AStep P G ev ol id (.indexAddr t x ix) (.ptr o r (c + n.toNat * sz)) [] []
  | idxArrR (t e : TypeId) (x ix : Operand) (row : List AV) (c len sz : Nat) (k : IntKind) (n : Int) (b : Bool) (h : ev x = .rp row c) (hi : ev ix = .int k n) (h0 : 0 ≤ n) (h1 : n < len)
      (ht : P.underlying t = some (.array len e)) (hk : kindT P e = some (b, sz)) : AStep P G ev ol id (.indexAddr t x ix) (.rp row (c + n.toNat * sz)) [] []
  | strIx (t : TypeId) (x ix : Operand) (l : List UInt8) (k : IntKind) (n : Int) (c : UInt8) (h : ev x = .str l) (hi : ev ix = .int k n) (h0 : 0 ≤ n)
      (hr : l[n.toNat]? = some c) (ht : P.underlying t = some .string) : AStep P G ev ol id (.index t x ix) (.int .u8 c.toNat) [] []
  | arrIx (t e : TypeId) (x ix : Operand) (cs : List AV) (len sz : Nat) (k : IntKind) (n : Int) (b : Bool) (v : AV) (h : ev x = .agg cs) (hi : ev ix = .int k n) (h0 : 0 ≤ n) (h1 : n < len)
      (ht : P.underlying t = some (.array len e)) (hk : kindT P e = some (b, sz)) (hl : loadAs P e cs (n.toNat * sz) = some v) : AStep P G ev ol id (.index t x ix) v [] []
  | quo (t t' : TypeId) (x y : Operand) (k : IntKind) (a b : Int) (hx : ev x = .int k a) (hy : ev y = .int k b) (h0 : b ≠ 0) :
      AStep P G ev ol id (.binOp .quo t x y t') (.int k (k.wrap (a.tdiv b))) [] []
  | rem (t t' : TypeId) (x y : Operand) (k : IntKind) (a b : Int) (hx : ev x = .int k a) (hy : ev y = .int k b) (h0 : b ≠ 0) :
      AStep P G ev ol id (.binOp .rem t x y t') (.int k (a.tmod b)) [] []
  | shl (t t' : TypeId) (x y : Operand) (k k' : IntKind) (a b : Int) (hx : ev x = .int k a) (hy : ev y = .int k' b) (h0 : 0 ≤ b) :
      AStep P G ev ol id (.binOp .shl t x y t') (.int k (k.wrap (a * 2 ^ (min b.toNat k.bits)))) [] []
  | shr (t t' : TypeId) (x y : Operand) (k k' : IntKind) (a b : Int) (hx : ev x = .int k a) (hy : ev y = .int k' b) (h0 : 0 ≤ b) :
      AStep P G ev ol id (.binOp .shr t x y t') (.int k (a.fdiv (2 ^ (min b.toNat k.bits)))) [] []
  | cat (t t' : TypeId) (x y : Operand) (a b : List UInt8) (hx : ev x = .str a) (hy : ev y = .str b) (h : a.length + b.length ≤ 9223372036854775807) :
      AStep P G ev ol id (.binOp .add t x y t') (.str (a ++ b)) [] []
  | eqAgg (t t' : TypeId) (x y : Operand) (cs ds : List AV) (r : Bool) (hx : ev x = .agg cs) (hy : ev y = .agg ds) (hp : plainEq P 20 t = true) (hg : P.eqGuardType P.depth t = false) (hst : ∃ fs, P.underlying t = some (.struct fs))
      (hc : cs.length = P.cellsOf t) (hd : ds.length = P.cellsOf t) (h : eqCells P 20 t cs ds 0 = some r) : AStep P G ev ol id (.binOp .eql t x y t') (.bool r) [] []
  | neAgg (t t' : TypeId) (x y : Operand) (cs ds : List AV) (r : Bool) (hx : ev x = .agg cs) (hy : ev y = .agg ds) (hp : plainEq P 20 t = true) (hg : P.eqGuardType P.depth t = false) (hst : ∃ fs, P.underlying t = some (.struct fs))
      (hc : cs.length = P.cellsOf t) (hd : ds.length = P.cellsOf t) (h : eqCells P 20 t cs ds 0 = some r) : AStep P G ev ol id (.binOp .neq t x y t') (.bool !r) [] []
  | nilq (t t' e : TypeId) (x : Operand) (xs : List (List AV)) (hx : ev x = .sl xs) (ht : P.underlying t = some (.slice e)) :
      AStep P G ev ol id (.binOp .eql t x (.const (.slice none 0 0)) t') (.anyb (xs = [])) [] []
  | lenOsw (x : Operand) (ts : Array TypeId) (args : Array Operand) (t e : TypeId) (o z : Nat) (y : AO) (rs : List (List AV)) (ha : args[0]? = some x) (hts : ts[0]? = some t) (ht : P.underlying t = some (.slice e))
      (h : ev x = .osw o z) (ho : ol o = some y) (hy : y = .rows true rs ∨ y = .rows false rs ∨ y = .froz rs) :
      AStep P G ev ol id (.call { callee := .builtin .len, args := args, argTypes := ts }) (.int .i64 rs.length) [] [o]
  | call (fn : Operand) (args : Array Operand) (ts : Array TypeId) (f : Nat) (cap : List AV) (V : List Nat) (n : Nat) (argsC : List AV) (rv : AV)
      (h : ev fn = .fn f cap) (hv : optMap (closeAV V ol n) (args.toList.map ev ++ cap) = some argsC) (hf : FC P G f [] argsC rv []) (hfl : flat rv = true) :
      AStep P G ev ol id (.call { callee := .value fn, args := args, argTypes := ts }) rv [] V
  | callF (fn : Operand) (args : Array Operand) (ts : Array TypeId) (f : Nat) (cap : List AV) (V : List Nat) (n : Nat) (argsC : List AV) (rv : AV)
      (os' : List (Nat × AO)) (U : List (Nat × Option AO))
      (h : ev fn = .fn f cap) (hv : optMap (closeAV V ol n) (args.toList.map ev ++ cap) = some argsC) (hf : FC P G f [] argsC rv os') (hU : frozen V ol n = some U) :
      AStep P G ev ol id (.call { callee := .value fn, args := args, argTypes := ts }) (renAV (id + ·) rv) (U ++ addNew id os') V
  | callG (fn : Operand) (args : Array Operand) (ts : Array TypeId) (f : Nat) (cap : List AV) (V : List Nat) (oin : List (Nat × AO)) (argsC : List AV) (rv : AV) (os' : List (Nat × AO))
      (h : ev fn = .fn f cap) (hh : Hands V id ol (args.toList.map ev ++ cap) oin argsC) (hf : FC P G f oin argsC rv os') :
      AStep P G ev ol id (.call { callee := .value fn, args := args, argTypes := ts }) (renAV (bk V id) rv) (backU V id os') V
end Go.Ab
