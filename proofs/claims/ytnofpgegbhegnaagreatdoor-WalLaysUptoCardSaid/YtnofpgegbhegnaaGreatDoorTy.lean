/-
  TyWa: the types of the program as Lean types, and how they stand as cells. Printed by a program.
-/
import Derived.Test.YtnofpgegbhegnaaGreatDoorAbShelf
import Derived.Test.YtnofpgegbhegnaaGreatDoorAbMore
namespace Go.T
open Go Go.Ab
structure matinslaw10_Do where
  Kind : Int
  Rec : (List Int)
  Recs : (List (List Int))
  Keep : Int
  Torn : Int
  Name : (List UInt8)
  deriving Inhabited, DecidableEq
def matinslaw10_Do.c (x : matinslaw10_Do) : List AV := [.int IntKind.i64 x.Kind, .sl (List.map (cInt IntKind.u8) x.Rec), .sl (List.map (cSl (cInt IntKind.u8)) x.Recs), .int IntKind.i64 x.Keep, .int IntKind.i64 x.Torn, .str x.Name]
@[simp] theorem matinslaw10_Do.c_eq (x : matinslaw10_Do) : matinslaw10_Do.c x = [.int IntKind.i64 x.Kind, .sl (List.map (cInt IntKind.u8) x.Rec), .sl (List.map (cSl (cInt IntKind.u8)) x.Recs), .int IntKind.i64 x.Keep, .int IntKind.i64 x.Torn, .str x.Name] := rfl
def matinslaw10_Do.ok (B : Nat) (x : matinslaw10_Do) : Prop := okI IntKind.i64 x.Kind ∧ (List.length x.Rec ≤ B ∧ ∀ y, y ∈ x.Rec → okI IntKind.u8 y) ∧ (List.length x.Recs ≤ B ∧ ∀ y, y ∈ x.Recs → (List.length y ≤ B ∧ ∀ yy, yy ∈ y → okI IntKind.u8 yy)) ∧ okI IntKind.i64 x.Keep ∧ okI IntKind.i64 x.Torn ∧ List.length x.Name ≤ B ∧ True
structure disk_write where
  name : (List UInt8)
  size : Int
  deriving Inhabited, DecidableEq
def disk_write.c (x : disk_write) : List AV := [.str x.name, .int IntKind.i64 x.size]
@[simp] theorem disk_write.c_eq (x : disk_write) : disk_write.c x = [.str x.name, .int IntKind.i64 x.size] := rfl
def disk_write.ok (B : Nat) (x : disk_write) : Prop := List.length x.name ≤ B ∧ okI IntKind.i64 x.size ∧ True
structure api_Field where
  Kind : Int
  N : Int
  S : (List UInt8)
  deriving Inhabited, DecidableEq
def api_Field.c (x : api_Field) : List AV := [.int IntKind.i64 x.Kind, .int IntKind.i64 x.N, .str x.S]
@[simp] theorem api_Field.c_eq (x : api_Field) : api_Field.c x = [.int IntKind.i64 x.Kind, .int IntKind.i64 x.N, .str x.S] := rfl
def api_Field.ok (B : Nat) (x : api_Field) : Prop := okI IntKind.i64 x.Kind ∧ okI IntKind.i64 x.N ∧ List.length x.S ≤ B ∧ True
structure sync_noCopy where
  deriving Inhabited, DecidableEq
def sync_noCopy.c (x : sync_noCopy) : List AV := []
@[simp] theorem sync_noCopy.c_eq (x : sync_noCopy) : sync_noCopy.c x = [] := rfl
def sync_noCopy.ok (B : Nat) (x : sync_noCopy) : Prop := True
structure atomic_noCopy where
  deriving Inhabited, DecidableEq
def atomic_noCopy.c (x : atomic_noCopy) : List AV := []
@[simp] theorem atomic_noCopy.c_eq (x : atomic_noCopy) : atomic_noCopy.c x = [] := rfl
def atomic_noCopy.ok (B : Nat) (x : atomic_noCopy) : Prop := True
structure atomic_Bool where
  blank0 : atomic_noCopy
  v : Int
  deriving Inhabited, DecidableEq
def atomic_Bool.c (x : atomic_Bool) : List AV := [.int IntKind.u32 x.v]
@[simp] theorem atomic_Bool.c_eq (x : atomic_Bool) : atomic_Bool.c x = [.int IntKind.u32 x.v] := rfl
def atomic_Bool.ok (B : Nat) (x : atomic_Bool) : Prop := atomic_noCopy.ok B x.blank0 ∧ okI IntKind.u32 x.v ∧ True
structure sync_Mutex where
  state : Int
  sema : Int
  deriving Inhabited, DecidableEq
def sync_Mutex.c (x : sync_Mutex) : List AV := [.int IntKind.i32 x.state, .int IntKind.u32 x.sema]
@[simp] theorem sync_Mutex.c_eq (x : sync_Mutex) : sync_Mutex.c x = [.int IntKind.i32 x.state, .int IntKind.u32 x.sema] := rfl
def sync_Mutex.ok (B : Nat) (x : sync_Mutex) : Prop := okI IntKind.i32 x.state ∧ okI IntKind.u32 x.sema ∧ True
structure sync_Mutex_149 where
  blank0 : sync_noCopy
  mu : sync_Mutex
  deriving Inhabited, DecidableEq
def sync_Mutex_149.c (x : sync_Mutex_149) : List AV := [.int IntKind.i32 x.mu.state, .int IntKind.u32 x.mu.sema]
@[simp] theorem sync_Mutex_149.c_eq (x : sync_Mutex_149) : sync_Mutex_149.c x = [.int IntKind.i32 x.mu.state, .int IntKind.u32 x.mu.sema] := rfl
def sync_Mutex_149.ok (B : Nat) (x : sync_Mutex_149) : Prop := sync_noCopy.ok B x.blank0 ∧ sync_Mutex.ok B x.mu ∧ True
structure sync_Once where
  blank0 : sync_noCopy
  done : atomic_Bool
  m : sync_Mutex_149
  deriving Inhabited, DecidableEq
def sync_Once.c (x : sync_Once) : List AV := [.int IntKind.u32 x.done.v, .int IntKind.i32 x.m.mu.state, .int IntKind.u32 x.m.mu.sema]
@[simp] theorem sync_Once.c_eq (x : sync_Once) : sync_Once.c x = [.int IntKind.u32 x.done.v, .int IntKind.i32 x.m.mu.state, .int IntKind.u32 x.m.mu.sema] := rfl
def sync_Once.ok (B : Nat) (x : sync_Once) : Prop := sync_noCopy.ok B x.blank0 ∧ atomic_Bool.ok B x.done ∧ sync_Mutex_149.ok B x.m ∧ True
structure A_20_uint64 where
  e0 : Int
  e1 : Int
  e2 : Int
  e3 : Int
  e4 : Int
  e5 : Int
  e6 : Int
  e7 : Int
  e8 : Int
  e9 : Int
  e10 : Int
  e11 : Int
  e12 : Int
  e13 : Int
  e14 : Int
  e15 : Int
  e16 : Int
  e17 : Int
  e18 : Int
  e19 : Int
  deriving Inhabited, DecidableEq
def A_20_uint64.c (x : A_20_uint64) : List AV := [.int IntKind.u64 x.e0, .int IntKind.u64 x.e1, .int IntKind.u64 x.e2, .int IntKind.u64 x.e3, .int IntKind.u64 x.e4, .int IntKind.u64 x.e5, .int IntKind.u64 x.e6, .int IntKind.u64 x.e7, .int IntKind.u64 x.e8, .int IntKind.u64 x.e9, .int IntKind.u64 x.e10, .int IntKind.u64 x.e11, .int IntKind.u64 x.e12, .int IntKind.u64 x.e13, .int IntKind.u64 x.e14, .int IntKind.u64 x.e15, .int IntKind.u64 x.e16, .int IntKind.u64 x.e17, .int IntKind.u64 x.e18, .int IntKind.u64 x.e19]
@[simp] theorem A_20_uint64.c_eq (x : A_20_uint64) : A_20_uint64.c x = [.int IntKind.u64 x.e0, .int IntKind.u64 x.e1, .int IntKind.u64 x.e2, .int IntKind.u64 x.e3, .int IntKind.u64 x.e4, .int IntKind.u64 x.e5, .int IntKind.u64 x.e6, .int IntKind.u64 x.e7, .int IntKind.u64 x.e8, .int IntKind.u64 x.e9, .int IntKind.u64 x.e10, .int IntKind.u64 x.e11, .int IntKind.u64 x.e12, .int IntKind.u64 x.e13, .int IntKind.u64 x.e14, .int IntKind.u64 x.e15, .int IntKind.u64 x.e16, .int IntKind.u64 x.e17, .int IntKind.u64 x.e18, .int IntKind.u64 x.e19] := rfl
def A_20_uint64.ok (B : Nat) (x : A_20_uint64) : Prop := okI IntKind.u64 x.e0 ∧ okI IntKind.u64 x.e1 ∧ okI IntKind.u64 x.e2 ∧ okI IntKind.u64 x.e3 ∧ okI IntKind.u64 x.e4 ∧ okI IntKind.u64 x.e5 ∧ okI IntKind.u64 x.e6 ∧ okI IntKind.u64 x.e7 ∧ okI IntKind.u64 x.e8 ∧ okI IntKind.u64 x.e9 ∧ okI IntKind.u64 x.e10 ∧ okI IntKind.u64 x.e11 ∧ okI IntKind.u64 x.e12 ∧ okI IntKind.u64 x.e13 ∧ okI IntKind.u64 x.e14 ∧ okI IntKind.u64 x.e15 ∧ okI IntKind.u64 x.e16 ∧ okI IntKind.u64 x.e17 ∧ okI IntKind.u64 x.e18 ∧ okI IntKind.u64 x.e19 ∧ True
structure errors_errorString where
  s : (List UInt8)
  deriving Inhabited, DecidableEq
def errors_errorString.c (x : errors_errorString) : List AV := [.str x.s]
@[simp] theorem errors_errorString.c_eq (x : errors_errorString) : errors_errorString.c x = [.str x.s] := rfl
def errors_errorString.ok (B : Nat) (x : errors_errorString) : Prop := List.length x.s ≤ B ∧ True
structure A_0__runtime_PanicNilError where
  deriving Inhabited, DecidableEq
def A_0__runtime_PanicNilError.c (x : A_0__runtime_PanicNilError) : List AV := []
@[simp] theorem A_0__runtime_PanicNilError.c_eq (x : A_0__runtime_PanicNilError) : A_0__runtime_PanicNilError.c x = [] := rfl
def A_0__runtime_PanicNilError.ok (B : Nat) (x : A_0__runtime_PanicNilError) : Prop := True
/-- what is known of package variables -/
def GM (ml : Gv) : Gmap := fun g => match g with
  | 0 => some [.con ml.e0]
  | 1 => some [.con ml.e1]
  | 2 => some (Lib.pow10Tab.map fun (n : Int) => AV.int .u64 n)
  | 4 => some (Lib.deBruijn64tab.map fun (n : Nat) => AV.int .u8 (n : Int))
  | _ => none

end Go.T
