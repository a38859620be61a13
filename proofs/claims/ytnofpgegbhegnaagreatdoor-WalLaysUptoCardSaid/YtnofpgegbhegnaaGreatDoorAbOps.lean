/-
  AbOps: operations that only compute: what they give on abstract values, and that the model gives just that.
-/
import Derived.Test.YtnofpgegbhegnaaGreatDoorAbWrite
namespace Go.Ab

/-- of a type: is it a struct or an array; how many cells -/
def kindT (P : Program) (t : TypeId) : Option (Bool × Nat) :=
  match P.underlying t with
  | none => none
  | some d => match P.info? t with
    | none => none
    | some i => some (match d with | .struct _ => true | .array .. => true | _ => false, i.size)

theorem run_sizeOf_info {P : Program} {t : TypeId} {i : TypeInfo} (h : P.info? t = some i) (w : World) : (sizeOf t).run P w = .ok i.size w := by
  simp [sizeOf, typeInfo, h]

theorem kindT_run {P : Program} {t : TypeId} {b : Bool} {n : Nat} (h : kindT P t = some (b, n)) (w : World) :
    (isAgg t).run P w = .ok b w ∧ (sizeOf t).run P w = .ok n w := by
  unfold kindT at h
  split at h
  · cases h
  · rename_i d hd
    split at h
    · cases h
    · rename_i i hi
      simp only [Option.some.injEq, Prod.mk.injEq] at h
      obtain ⟨h1, rfl⟩ := h
      refine ⟨?_, run_sizeOf_info hi w⟩
      unfold isAgg
      simp only [Sem.run_bind, run_underlying hd, Result.andThen_ok]
      subst h1
      cases d <;> rfl

def fieldT (P : Program) (s : TypeId) (f : Nat) : Option Field :=
  match P.underlying s with
  | some (.struct fs) => fs[f]?
  | _ => none

/-- a part of a row of cells, as a value of type t -/
def loadAs (P : Program) (t : TypeId) (row : List AV) (c : Nat) : Option AV :=
  match kindT P t with
  | some (true, n) => if c + n ≤ row.length then some (.agg ((row.drop c).take n)) else none
  | some (false, _) => row[c]?
  | none => none

def ofCell : Value → AV
  | .int k n => .int k n
  | .bool b => .bool b
  | .string s => .str s.data.toList
  | .slice none 0 0 => .esl
  | .pointer none => .con (.pointer none)
  | .map none => .con (.map none)
  | .nilFunc => .con .nilFunc
  | .nilIface => .con .nilIface
  | _ => .undef
def ofVal : Value → AV
  | .agg cs => .agg (cs.toList.map ofCell)
  | v => ofCell v

theorem ofCell_rep {S : Nat → Prop} {w : World} (v : Value) : IRep S w (ofCell v) v := by
  unfold ofCell
  split <;> first | exact .int _ _ | exact .bool _ | exact .str _ | exact .esl _ | exact .con _ rfl | exact .undef _
theorem ofVal_rep {S : Nat → Prop} {w : World} (v : Value) : IRep S w (ofVal v) v := by
  unfold ofVal
  split
  · rename_i cs
    refine .agg _ cs (by simp) (fun j x v hx hv => ?_)
    rw [List.getElem?_map] at hx
    have : cs.toList[j]? = some v := by simpa using hv
    rw [this] at hx
    simp only [Option.map_some, Option.some.injEq] at hx
    subst hx
    exact ofCell_rep v
  · exact ofCell_rep _

def evA (G : Gmap) (g : Nat → AV) : Operand → AV
  | .tmp t => g t
  | .const v => ofVal v
  | .global n => match G n with | some row => .rp row 0 | none => .undef
  | .func f => bif Nat.blt f FB then .fn f [] else .undef

theorem Inv.ev {C : Cx} {S : Nat → Prop} {ι : Imap} {un : Nat → Prop} {f : FS} {a : Act} {w : World}
    (h : Inv C S ι un f a w) (x : Operand) : Rep S w ι (evA C.G f.g x) (a.eval x) := by
  cases x with
  | tmp t => exact h.tm t
  | const v => exact .imm _ _ (ofVal_rep v)
  | global n =>
    simp only [evA, Act.eval]
    split
    · rename_i row hr; exact .imm _ _ (h.gv n row hr).1
    · exact .imm _ _ (.undef _)
  | func g =>
    simp only [evA, Act.eval]
    cases hg : Nat.blt g FB with
    | true =>
      simp only [cond_true]
      have := IRep.fn (S := S) (w := w) g [] #[] rfl (fun j x v hx => by simp at hx)
      rw [fnV_lt hg] at this
      exact .imm _ _ this
    | false => exact .imm _ _ (.undef _)

/-- bits of integers -/
def ibits (op : BinOp) (k : IntKind) (x y : Int) : Int :=
  k.wrap ((match op with
    | .and => BitVec.ofInt k.bits x &&& BitVec.ofInt k.bits y
    | .or => BitVec.ofInt k.bits x ||| BitVec.ofInt k.bits y
    | .xor => BitVec.ofInt k.bits x ^^^ BitVec.ofInt k.bits y
    | _ => BitVec.ofInt k.bits x &&& ~~~(BitVec.ofInt k.bits y) : BitVec k.bits).toNat)

def ibin (op : BinOp) (k : IntKind) (a b : Int) : Option AV :=
  match op with
  | .add => some (.int k (k.wrap (a + b)))
  | .sub => some (.int k (k.wrap (a - b)))
  | .mul => some (.int k (k.wrap (a * b)))
  | .and => some (.int k (ibits .and k a b))
  | .or => some (.int k (ibits .or k a b))
  | .xor => some (.int k (ibits .xor k a b))
  | .andNot => some (.int k (ibits .andNot k a b))
  | .eql => some (.bool (a == b))
  | .neq => some (.bool (a != b))
  | .lss => some (.bool (decide (a < b)))
  | .leq => some (.bool (decide (a ≤ b)))
  | .gtr => some (.bool (decide (b < a)))
  | .geq => some (.bool (decide (b ≤ a)))
  | _ => none

def sbin (op : BinOp) (a b : List UInt8) : Option AV :=
  match op with
  | .eql => some (.bool (a == b))
  | .neq => some (.bool (!(a == b)))
  | .lss => some (.bool (Op.bytesLess a b))
  | .leq => some (.bool (Op.bytesLess a b || a == b))
  | .gtr => some (.bool (!(Op.bytesLess a b || a == b)))
  | .geq => some (.bool (!Op.bytesLess a b))
  | _ => none

/-- equality of two rows of cells, field by field -/
def eqFsG (rc : TypeId → List AV → List AV → Nat → Option Bool) : List Field → List AV → List AV → Nat → Option Bool
  | [], _, _, _ => some true
  | f :: r, xs, ys, c => match rc f.type xs ys (c + f.offset), eqFsG rc r xs ys c with
    | some a, some b => some (a && b)
    | _, _ => none
def eqCells (P : Program) : Nat → TypeId → List AV → List AV → Nat → Option Bool
  | 0, _, _, _, _ => none
  | d + 1, t, xs, ys, c =>
    match P.underlying t with
    | some (.int _) => match xs[c]?, ys[c]? with | some (.int k a), some (.int k' b) => if k = k' then some (a == b) else none | _, _ => none
    | some .string => match xs[c]?, ys[c]? with | some (.str a), some (.str b) => some (a == b) | _, _ => none
    | some .bool => match xs[c]?, ys[c]? with | some (.bool a), some (.bool b) => some (a == b) | _, _ => none
    | some (.struct fs) => eqFsG (eqCells P d) fs.toList xs ys c
    | _ => none

/-- the types' part of what struct equality asks -/
def plainEq (P : Program) : Nat → TypeId → Bool
  | 0, _ => false
  | d + 1, t =>
    match P.underlying t with
    | some (.struct fs) => !P.stoodInHeld t && (kindT P t).isSome && fs.all fun f => f.name != "_" && plainEq P d f.type && decide (f.offset + P.cellsOf f.type ≤ P.cellsOf t)
    | some (.int _) | some .string | some .bool => P.cellsOf t == 1
    | _ => false

def bin (P : Program) (op : BinOp) (t : TypeId) (x y : AV) : Option AV :=
  match x, y with
  | .int k a, .int k' b => if k = k' then ibin op k a b else none
  | .str a, .str b => sbin op a b
  | .bool a, .bool b => match P.underlying t with
    | some .bool => (match op with | .eql => some (.bool (a == b)) | .neq => some (.bool (!(a == b))) | _ => none)
    | _ => none
  | .ptr .., .con (.pointer none) | .con (.pointer none), .ptr .. | .rp .., .con (.pointer none) | .con (.pointer none), .rp .. => match P.underlying t with
    | some (.pointer _) => (match op with | .eql => some (.bool false) | .neq => some (.bool true) | _ => none)
    | _ => none
  | .con (.pointer none), .con (.pointer none) => match P.underlying t with
    | some (.pointer _) => (match op with | .eql => some (.bool true) | .neq => some (.bool false) | _ => none)
    | _ => none
  | _, _ => none

def una (op : UnOp) (x : AV) : Option AV :=
  match op, x with
  | .neg, .int k n => some (.int k (k.wrap (0 - n)))
  | .xor, .int k n => some (.int k (ibits .xor k (if k.signed then -1 else k.max) n))
  | .not, .bool b => some (.bool !b)
  | _, _ => none

/-- the parts of a composite value laid into cells -/
def fillA (ev : Operand → AV) (place : Nat → Option (Nat × Nat)) : List (Nat × Operand) → List AV → Option (List AV)
  | [], cs => some cs
  | (i, x) :: r, cs =>
    match place i, cellsOfAV (ev x) with
    | some (off, n), some vs => if vs.length = n ∧ off + n ≤ cs.length then fillA ev place r (setAt cs off vs) else none
    | _, _ => none

def zeroA (P : Program) (t : TypeId) : Option (List AV) :=
  match P.info? t with
  | none => none
  | some i => match i.zero with
    | some v => cellsOfAV (ofVal v)
    | none => none

def placeS (P : Program) (fs : Array Field) (i : Nat) : Option (Nat × Nat) :=
  match fs[i]? with
  | some f => match P.info? f.type with | some j => some (f.offset, j.size) | none => none
  | none => none

def buildA (P : Program) (ev : Operand → AV) (t : TypeId) (parts : Array (Nat × Operand)) : Option AV :=
  match zeroA P t with
  | none => none
  | some z => match P.underlying t with
    | some (.struct fs) => if (fs.toList.all fun f => (P.info? f.type).isSome) = true then (fillA ev (placeS P fs) parts.toList z).map .agg else none
    | some (.array _ e) => match P.info? e with
      | some j => (fillA ev (fun i => some (i * j.size, j.size)) parts.toList z).map .agg
      | none => none
    | _ => none

def lenOp (P : Program) (t : TypeId) (x : AV) : Option AV :=
  match P.underlying t, x with
  | some .string, .str l => some (.int .i64 l.length)
  | some (.slice _), .sl xs => some (.int .i64 xs.length)
  | some (.slice _), .osl _ _ n _ => some (.int .i64 n)
  | some (.slice _), .esl => some (.int .i64 0)
  | some (.array n _), _ => some (.int .i64 n)
  | _, _ => none

/-- the value of an operation that only computes -/
def pval (P : Program) (ev : Operand → AV) : Op → Option AV
  | .move x => some (ev x)
  | .assign x => some (ev x)
  | .fieldAddr s x i => match fieldT P s i with
    | none => none
    | some fd => match kindT P fd.type with
      | some (_, _ + 1) => (match ev x with | .ptr o r c => some (.ptr o r (c + fd.offset)) | .rp row c => some (.rp row (c + fd.offset)) | _ => none)
      | _ => none
  | .field s x i => match fieldT P s i with
    | none => none
    | some fd => match ev x with | .agg cs => loadAs P fd.type cs fd.offset | _ => none
  | .unOp op _ x => una op (ev x)
  | .binOp op t x y _ => bin P op t (ev x) (ev y)
  | .extract t i => match ev t with | .tup vs => vs[i]? | _ => none
  | .build t parts => buildA P ev t parts
  | .makeFunc (.func f) first cap => bif first.isEmpty then (bif Nat.blt f FB then some (.fn f (cap.toList.map ev)) else none) else (bif cap.isEmpty then some (.fn (FB + f) (first.toList.map ev)) else none)
  | .nilCheck x => match ev x with | .ptr o r c => some (.ptr o r c) | .rp row c => some (.rp row c) | .fn f c => some (.fn f c) | _ => none
  | .convert s d x => match P.underlying s, P.underlying d, ev x with
    | some _, some (.int k), .int _ n => some (.int k (k.wrap n))
    | some _, some .string, .str l => some (.str l)
    | _, _, _ => none
  | .call { callee := .builtin .len, args, argTypes } => match argTypes[0]?, args[0]? with
    | some t, some x => lenOp P t (ev x)
    | _, _ => none
  | .call { callee := .builtin .max, args, .. } => match args.toList with
    | [x, y] => (match ev x, ev y with
      | .int k a, .int _ b => some (.int k (if b > a then b else a))
      | .str a, .str b => some (.str (if !Op.bytesLess a b then a else b))
      | _, _ => none)
    | _ => none
  | .call { callee := .builtin .min, args, .. } => match args.toList with
    | [x, y] => (match ev x, ev y with
      | .int k a, .int _ b => some (.int k (if b < a then b else a))
      | _, _ => none)
    | _ => none
  | _ => none

section
variable {S : Nat → Prop} {w : World} {ι : Imap} {P : Program}

theorem RepL.get {cs : List AV} {vs : List Value} (h : RepL S w ι cs vs) {j : Nat} {x : AV} (hx : cs[j]? = some x) : ∃ v, vs[j]? = some v ∧ Rep S w ι x v := by
  have hj : j < cs.length := by
    rcases Nat.lt_or_ge j cs.length with h | h
    · exact h
    · rw [List.getElem?_eq_none h] at hx; cases hx
  have : j < vs.length := by rw [← h.1]; exact hj
  exact ⟨vs[j], List.getElem?_eq_getElem this, h.2 j x _ hx (List.getElem?_eq_getElem this)⟩

theorem RepL.agg {cs : List AV} {vs : Array Value} (h : RepL S w ι cs vs.toList) : Rep S w ι (.agg cs) (.agg vs) :=
  .agg _ _ (by simpa using h.1) (fun j x v hx hv => h.2 j x v hx (by rw [Array.getElem?_toList]; exact hv))

theorem part_ok {t : TypeId} {cs : List AV} {vs : Array Value} (h : RepL S w ι cs vs.toList) {c : Nat} {x : AV} (hl : loadAs P t cs c = some x) :
    ∃ v, (part t vs c).run P w = .ok v w ∧ Rep S w ι x v := by
  unfold loadAs at hl
  split at hl
  · rename_i n hk
    split at hl
    · rename_i hc
      injection hl with hl
      subst hl
      obtain ⟨h1, h2⟩ := kindT_run hk w
      refine ⟨.agg (vs.extract c (c + n)), by unfold part; simp [h1, h2], ?_⟩
      have e : (vs.extract c (c + n)).toList = (vs.toList.drop c).take n := by
        simp [Array.toList_extract, List.extract_eq_take_drop]
      have hr := (h.drop c).take n
      rw [← e] at hr
      exact hr.agg
    · cases hl
  · rename_i n hk
    obtain ⟨h1, h2⟩ := kindT_run hk w
    obtain ⟨v, hv, hr⟩ := h.get hl
    refine ⟨v, ?_, hr⟩
    have : vs[c]? = some v := by simpa using hv
    unfold part
    simp [h1, this]
  · cases hl

theorem bytes_eq (a b : List UInt8) : ((⟨a.toArray⟩ : ByteArray) == ⟨b.toArray⟩) = (a == b) := by
  rw [beq_toListBytes]; simp

/-- equality of pointers, one of them nil -/
theorem ptr_equalIn {t e : TypeId} (ht : P.underlying t = some (.pointer e)) (d : Nat) (a b : Option Addr) {r : Bool}
    (h : (match a, b with | none, b => some b.isNone | _, none => some false | _, _ => none) = some r) :
    (Op.equalIn (d + 1) t (.pointer a) (.pointer b)).run P w = .ok r w := by
  cases a <;> cases b <;> simp only [Option.some.injEq, reduceCtorEq] at h <;> subst h <;> simp [Op.equalIn, run_underlying ht]
theorem ptr_eql {t e : TypeId} (ht : P.underlying t = some (.pointer e)) (a b : Option Addr) {r : Bool} (h : (match a, b with | none, b => some b.isNone | _, none => some false | _, _ => none) = some r) :
    (binOp .eql t (.pointer a) (.pointer b)).run P w = .ok (.bool r) w := by
  have := ptr_equalIn (w := w) ht 9999 a b h
  have h2 : (Op.equal t (.pointer a) (.pointer b)).run P w = .ok r w := this
  simp only [binOp]
  simp [h2]
theorem ptr_neq {t e : TypeId} (ht : P.underlying t = some (.pointer e)) (a b : Option Addr) {r : Bool} (h : (match a, b with | none, b => some b.isNone | _, none => some false | _, _ => none) = some r) :
    (binOp .neq t (.pointer a) (.pointer b)).run P w = .ok (.bool !r) w := by
  have := ptr_equalIn (w := w) ht 9999 a b h
  have h2 : (Op.equal t (.pointer a) (.pointer b)).run P w = .ok r w := this
  simp only [binOp]
  simp [h2]

theorem bin_ok {op : BinOp} {t : TypeId} {x y v : AV} {x' y' : Value} (h : bin P op t x y = some v) (hx : Rep S w ι x x') (hy : Rep S w ι y y') (ox oy : Operand) :
    ∃ v', (do eqGuard op t ox oy x' y'; binOp op t x' y' : Sem Value).run P w = .ok v' w ∧ Rep S w ι v v' := by
  unfold bin at h
  split at h
  · -- integers
    rw [hx.int_inv, hy.int_inv]
    rename_i k a k' b
    split at h
    · rename_i e
      subst e
      simp only [eqGuard_at_int, Sem.run_bind, Sem.run_pure, Result.andThen_ok]
      unfold ibin at h
      cases op <;> simp only [Option.some.injEq, reduceCtorEq] at h <;> subst h
      all_goals first
        | (refine ⟨_, ?_, .imm _ _ (.int _ _)⟩; simp only [binOp_add, binOp_sub, binOp_mul, Op.intArith, Sem.run_pure]; done)
        | (refine ⟨_, ?_, .imm _ _ (.int _ _)⟩; simp only [binOp_and, binOp_or, binOp_xor, binOp_andNot, Op.intBits, ibits, Sem.run_pure]; done)
        | (refine ⟨_, ?_, .imm _ _ (.bool _)⟩; simp only [binOp_eql, binOp_neq, binOp_lss, binOp_leq, binOp_gtr, binOp_geq, Sem.run_pure]; done)
        | (refine ⟨_, ?_, .imm _ _ (.bool _)⟩; simp only [binOp_eql, binOp_neq, binOp_lss, binOp_leq, binOp_gtr, binOp_geq, Sem.run_pure]; rfl)
    · cases h
  · -- strings
    rw [hx.str_inv, hy.str_inv]
    rename_i a b
    simp only [eqGuard_at_string, Sem.run_bind, Sem.run_pure, Result.andThen_ok]
    unfold sbin at h
    cases op <;> simp only [Option.some.injEq, reduceCtorEq] at h <;> subst h
    all_goals (refine ⟨_, ?_, .imm _ _ (.bool _)⟩; simp [binOp, Op.stringOp])
  · -- bools
    rw [hx.bool_inv, hy.bool_inv]
    split at h
    · rename_i ht
      simp only [eqGuard_at_bool, Sem.run_bind, Sem.run_pure, Result.andThen_ok]
      split at h
      · injection h with h; subst h
        exact ⟨_, run_eql_bool w t _ _ ht, .imm _ _ (.bool _)⟩
      · injection h with h; subst h
        exact ⟨_, run_neq_bool w t _ _ ht, .imm _ _ (.bool _)⟩
      · cases h
    · cases h
  · -- pointers and nil
    obtain ⟨l, _, rfl⟩ := hx.ptr_inv
    rw [hy.con_inv]
    split at h
    · rename_i e ht
      simp only [eqGuard_at_pointer, Sem.run_bind, Sem.run_pure, Result.andThen_ok]
      split at h
      · injection h with h; subst h
        exact ⟨_, ptr_eql ht _ _ rfl, .imm _ _ (.bool _)⟩
      · injection h with h; subst h
        exact ⟨_, ptr_neq ht _ _ rfl, .imm _ _ (.bool _)⟩
      · cases h
    · cases h
  · obtain ⟨l, _, rfl⟩ := hy.ptr_inv
    rw [hx.con_inv]
    split at h
    · rename_i e ht
      simp only [eqGuard_at_pointer, Sem.run_bind, Sem.run_pure, Result.andThen_ok]
      split at h
      · injection h with h; subst h
        exact ⟨_, ptr_eql ht _ _ rfl, .imm _ _ (.bool _)⟩
      · injection h with h; subst h
        exact ⟨_, ptr_neq ht _ _ rfl, .imm _ _ (.bool _)⟩
      · cases h
    · cases h
  · have : ∃ p, x' = .pointer (some p) := by cases hx with | imm _ _ h => cases h; exact ⟨_, rfl⟩
    obtain ⟨p, rfl⟩ := this
    rw [hy.con_inv]
    split at h
    · rename_i e ht
      simp only [eqGuard_at_pointer, Sem.run_bind, Sem.run_pure, Result.andThen_ok]
      split at h
      · injection h with h; subst h
        exact ⟨_, ptr_eql ht _ _ rfl, .imm _ _ (.bool _)⟩
      · injection h with h; subst h
        exact ⟨_, ptr_neq ht _ _ rfl, .imm _ _ (.bool _)⟩
      · cases h
    · cases h
  · have : ∃ p, y' = .pointer (some p) := by cases hy with | imm _ _ h => cases h; exact ⟨_, rfl⟩
    obtain ⟨p, rfl⟩ := this
    rw [hx.con_inv]
    split at h
    · rename_i e ht
      simp only [eqGuard_at_pointer, Sem.run_bind, Sem.run_pure, Result.andThen_ok]
      split at h
      · injection h with h; subst h
        exact ⟨_, ptr_eql ht _ _ rfl, .imm _ _ (.bool _)⟩
      · injection h with h; subst h
        exact ⟨_, ptr_neq ht _ _ rfl, .imm _ _ (.bool _)⟩
      · cases h
    · cases h
  · rw [hx.con_inv, hy.con_inv]
    split at h
    · rename_i e ht
      simp only [eqGuard_at_pointer, Sem.run_bind, Sem.run_pure, Result.andThen_ok]
      split at h
      · injection h with h; subst h
        exact ⟨_, ptr_eql ht _ _ rfl, .imm _ _ (.bool _)⟩
      · injection h with h; subst h
        exact ⟨_, ptr_neq ht _ _ rfl, .imm _ _ (.bool _)⟩
      · cases h
    · cases h
  · cases h

/-- what 'fill' does to the cells -/
theorem fold_set (off : Nat) : ∀ (vs : List Value) (k : Nat) (cells : Array Value), off + k + vs.length ≤ cells.size →
    ((vs.zipIdx k).foldl (fun cs (x : Value × Nat) => cs.setIfInBounds (off + x.2) x.1) cells).toList = setAt cells.toList (off + k) vs := by
  intro vs
  induction vs with
  | nil =>
    intro k cells h
    simp only [List.zipIdx_nil, List.foldl_nil, setAt, List.nil_append, List.length_nil, Nat.add_zero]
    exact (List.take_append_drop _ _).symm
  | cons v r ih =>
    intro k cells h
    simp only [List.length_cons] at h
    simp only [List.zipIdx_cons, List.foldl_cons]
    rw [ih (k + 1) _ (by simp; omega)]
    apply List.ext_getElem?
    intro j
    rw [setAt_get _ _ _ (by simp; omega), setAt_get _ _ _ (by simp; omega)]
    simp only [List.length_cons]
    by_cases h1 : off + (k + 1) ≤ j ∧ j < off + (k + 1) + r.length
    · rw [if_pos h1, if_pos (by omega)]
      rw [show j - (off + k) = (j - (off + (k + 1))) + 1 by omega, List.getElem?_cons_succ]
    · rw [if_neg h1]
      by_cases h2 : j = off + k
      · subst h2
        rw [if_pos (by omega)]
        simp only [Nat.sub_self, List.getElem?_cons_zero, Array.getElem?_toList]
        rw [Array.getElem?_setIfInBounds_self_of_lt (by omega)]
      · rw [if_neg (by omega)]
        simp only [Array.getElem?_toList]
        rw [Array.getElem?_setIfInBounds_ne (by omega)]

theorem fill_ok {ev : Operand → AV} {ρ : Operand → Value} (hr : ∀ x, Rep S w ι (ev x) (ρ x)) (place : Nat → Option (Nat × Nat)) :
    ∀ (parts : List (Nat × Operand)) (cs : List AV) (cells : Array Value) (out : List AV), RepL S w ι cs cells.toList → fillA ev place parts cs = some out →
      ∃ cells', Instr.fill place cells (parts.map fun x => (x.1, ρ x.2)) = some cells' ∧ RepL S w ι out cells'.toList := by
  intro parts
  induction parts with
  | nil =>
    intro cs cells out hc h
    simp only [fillA, Option.some.injEq] at h
    subst h
    exact ⟨cells, rfl, hc⟩
  | cons p r ih =>
    intro cs cells out hc h
    obtain ⟨i, x⟩ := p
    simp only [fillA] at h
    split at h
    · rename_i off n vs hp hv
      split at h
      · rename_i hcond
        obtain ⟨hvr, _⟩ := cellsOfAV_rep hv (hr x)
        have hl := hvr.1
        have hcl := hc.1
        have hsz : (ρ x).cells.size = n := by rw [← Array.length_toList, ← hl]; exact hcond.1
        have hfold := fold_set off (ρ x).cells.toList 0 cells (by simp only [Array.length_toList] at *; omega)
        have hnew : RepL S w ι (setAt cs off vs) ((ρ x).cells.zipIdx.foldl (fun cs (x : Value × Nat) => cs.setIfInBounds (off + x.2) x.1) cells).toList := by
          rw [← Array.foldl_toList, Array.toList_zipIdx, hfold]
          exact RepL.setAt off hc hvr (by omega)
        obtain ⟨cells', h1, h2⟩ := ih _ _ out hnew h
        refine ⟨cells', ?_, h2⟩
        simp only [List.map_cons, Instr.fill, hp]
        rw [if_neg]
        · exact h1
        · simp only [Array.length_toList] at hcl
          simp [hsz]
          omega
      · cases h
    · cases h

theorem run_mapM_fields (P : Program) (w : World) : ∀ (fs : List Field), (fs.all fun f => (P.info? f.type).isSome) = true →
    (fs.mapM (fun f => do pure (f.offset, ← sizeOf f.type)) : Sem (List (Nat × Nat))).run P w = .ok (fs.map fun f => (f.offset, ((P.info? f.type).map (·.size)).getD 0)) w := by
  intro fs
  induction fs with
  | nil => intro _; rfl
  | cons f r ih =>
    intro h
    simp only [List.all_cons, Bool.and_eq_true] at h
    obtain ⟨i, hi⟩ := Option.isSome_iff_exists.1 h.1
    simp only [List.mapM_cons, Sem.run_bind, run_sizeOf_info hi, Result.andThen_ok, Sem.run_pure, ih h.2, List.map_cons, hi, Option.map_some, Option.getD_some]

theorem build_ok {ev : Operand → AV} {ρ : Operand → Value} (hr : ∀ x, Rep S w ι (ev x) (ρ x)) {t : TypeId} {parts : Array (Nat × Operand)} {v : AV}
    (h : buildA P ev t parts = some v) : ∃ v', (Instr.build t (parts.map fun (i, x) => (i, ρ x))).run P w = .ok v' w ∧ Rep S w ι v v' := by
  unfold buildA at h
  split at h
  · cases h
  · rename_i z hz
    unfold zeroA at hz
    split at hz
    · cases hz
    · rename_i i hi
      split at hz
      · rename_i zv hzv
        have hzero : (zeroValue t).run P w = .ok zv w := by simp [zeroValue, typeInfo, hi, hzv]
        obtain ⟨hzr, _⟩ := cellsOfAV_rep hz (Rep.imm (S := S) (w := w) (ι := ι) _ _ (ofVal_rep zv))
        have hpl : (parts.map fun (i, x) => (i, ρ x)).toList = parts.toList.map fun x => (x.1, ρ x.2) := by simp
        split at h
        · rename_i fs ht
          split at h
          · rename_i hall
            simp only [Option.map_eq_some_iff] at h
            obtain ⟨out, ho, rfl⟩ := h
            have hplace : (fun i => (fs.toList.map fun f => (f.offset, ((P.info? f.type).map (·.size)).getD 0)).toArray[i]?) = placeS P fs := by
              funext j
              simp only [placeS, List.getElem?_toArray, List.getElem?_map, Array.getElem?_toList]
              cases hj : fs[j]? with
              | none => rfl
              | some f =>
                have : (P.info? f.type).isSome = true := List.all_eq_true.1 hall f (by rw [← Array.mem_def]; exact Array.mem_of_getElem? hj)
                obtain ⟨q, hq⟩ := Option.isSome_iff_exists.1 this
                simp [hq]
            obtain ⟨cells', h1, h2⟩ := fill_ok hr (placeS P fs) parts.toList z zv.cells out hzr ho
            refine ⟨.agg cells', ?_, h2.agg⟩
            unfold Instr.build
            have hm : (fs.mapM (fun f => do pure (f.offset, ← sizeOf f.type)) : Sem (Array (Nat × Nat))).run P w =
                .ok (fs.toList.map fun f => (f.offset, ((P.info? f.type).map (·.size)).getD 0)).toArray w := by
              rw [Array.mapM_eq_mapM_toList]
              simp only [Sem.run_map, run_mapM_fields P w fs.toList hall, Result.andThen_ok]
            simp only [Sem.run_bind, hzero, Result.andThen_ok, run_underlying ht, hm, hpl]
            rw [hplace, h1]
            rfl
          · cases h
        · rename_i n e ht
          split at h
          · rename_i j hj
            simp only [Option.map_eq_some_iff] at h
            obtain ⟨out, ho, rfl⟩ := h
            obtain ⟨cells', h1, h2⟩ := fill_ok hr (fun i => some (i * j.size, j.size)) parts.toList z zv.cells out hzr ho
            refine ⟨.agg cells', ?_, h2.agg⟩
            unfold Instr.build
            simp only [Sem.run_bind, hzero, Result.andThen_ok, run_underlying ht, run_sizeOf_info hj, hpl]
            rw [h1]
            rfl
          · cases h
        · cases h
      · cases hz

theorem len_ok {t ty : TypeId} {x v : AV} {x' : Value} (h : lenOp P t x = some v) (hx : Rep S w ι x x') (ts : Array TypeId) (hts : ts[0]? = some t) (xs : Array Value) (hxs : xs[0]? = some x') :
    ∃ v', (Builtin.len_ ts ty xs).run P w = .ok v' w ∧ Rep S w ι v v' := by
  unfold lenOp at h
  split at h
  · rename_i l ht
    injection h with h; subst h
    rw [hx.str_inv] at hxs
    have e : (⟨l.toArray⟩ : ByteArray).size = l.length := by show l.toArray.size = _; simp
    exact ⟨.int .i64 l.length, by simp [Builtin.len_, hts, hxs, run_underlying ht, goInt, e], .imm _ _ (.int _ _)⟩
  · rename_i e xs' ht
    injection h with h; subst h
    refine ⟨.int .i64 xs'.length, ?_, .imm _ _ (.int _ _)⟩
    cases hx with
    | imm _ _ hx => cases hx <;> simp [Builtin.len_, hts, hxs, run_underlying ht, goInt]
  · rename_i e o off n room ht
    injection h with h; subst h
    refine ⟨.int .i64 n, ?_, .imm _ _ (.int _ _)⟩
    cases hx with
    | imm _ _ hx => cases hx
    | osl => simp [Builtin.len_, hts, hxs, run_underlying ht, goInt]
    | oslv => simp [Builtin.len_, hts, hxs, run_underlying ht, goInt]
  · rename_i e ht
    injection h with h; subst h
    refine ⟨.int .i64 0, ?_, .imm _ _ (.int _ _)⟩
    cases hx with
    | imm _ _ hx => cases hx; simp [Builtin.len_, hts, hxs, run_underlying ht, goInt]
  · rename_i n e ht
    injection h with h; subst h
    exact ⟨.int .i64 n, by simp [Builtin.len_, hts, hxs, run_underlying ht, goInt], .imm _ _ (.int _ _)⟩
  · cases h

end
end Go.Ab
