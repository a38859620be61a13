/-
  TyCr: the types of the program as Lean types, and how they stand as cells. Printed by a program.
-/
import Derived.Test.YtceclaaopomcnaaDoorAbShelf
namespace Go.T
open Go Go.Ab
structure api_Cron where
  Minute : Int
  Hour : Int
  Day : Int
  Month : Int
  Week : Int
  AnyDay : Bool
  AnyWeek : Bool
  deriving Inhabited, DecidableEq
def api_Cron.c (x : api_Cron) : List AV := [.int IntKind.u64 x.Minute, .int IntKind.u64 x.Hour, .int IntKind.u64 x.Day, .int IntKind.u64 x.Month, .int IntKind.u64 x.Week, .bool x.AnyDay, .bool x.AnyWeek]
@[simp] theorem api_Cron.c_eq (x : api_Cron) : api_Cron.c x = [.int IntKind.u64 x.Minute, .int IntKind.u64 x.Hour, .int IntKind.u64 x.Day, .int IntKind.u64 x.Month, .int IntKind.u64 x.Week, .bool x.AnyDay, .bool x.AnyWeek] := rfl
def api_Cron.ok (B : Nat) (x : api_Cron) : Prop := okI IntKind.u64 x.Minute ∧ okI IntKind.u64 x.Hour ∧ okI IntKind.u64 x.Day ∧ okI IntKind.u64 x.Month ∧ okI IntKind.u64 x.Week ∧ True ∧ True ∧ True
structure api_Civil where
  Year : Int
  Month : Int
  Day : Int
  Hour : Int
  Minute : Int
  Week : Int
  deriving Inhabited, DecidableEq
def api_Civil.c (x : api_Civil) : List AV := [.int IntKind.i64 x.Year, .int IntKind.i64 x.Month, .int IntKind.i64 x.Day, .int IntKind.i64 x.Hour, .int IntKind.i64 x.Minute, .int IntKind.i64 x.Week]
@[simp] theorem api_Civil.c_eq (x : api_Civil) : api_Civil.c x = [.int IntKind.i64 x.Year, .int IntKind.i64 x.Month, .int IntKind.i64 x.Day, .int IntKind.i64 x.Hour, .int IntKind.i64 x.Minute, .int IntKind.i64 x.Week] := rfl
def api_Civil.ok (B : Nat) (x : api_Civil) : Prop := okI IntKind.i64 x.Year ∧ okI IntKind.i64 x.Month ∧ okI IntKind.i64 x.Day ∧ okI IntKind.i64 x.Hour ∧ okI IntKind.i64 x.Minute ∧ okI IntKind.i64 x.Week ∧ True
structure A_5_uint64 where
  e0 : Int
  e1 : Int
  e2 : Int
  e3 : Int
  e4 : Int
  deriving Inhabited, DecidableEq
def A_5_uint64.c (x : A_5_uint64) : List AV := [.int IntKind.u64 x.e0, .int IntKind.u64 x.e1, .int IntKind.u64 x.e2, .int IntKind.u64 x.e3, .int IntKind.u64 x.e4]
@[simp] theorem A_5_uint64.c_eq (x : A_5_uint64) : A_5_uint64.c x = [.int IntKind.u64 x.e0, .int IntKind.u64 x.e1, .int IntKind.u64 x.e2, .int IntKind.u64 x.e3, .int IntKind.u64 x.e4] := rfl
def A_5_uint64.ok (B : Nat) (x : A_5_uint64) : Prop := okI IntKind.u64 x.e0 ∧ okI IntKind.u64 x.e1 ∧ okI IntKind.u64 x.e2 ∧ okI IntKind.u64 x.e3 ∧ okI IntKind.u64 x.e4 ∧ True
structure cron_span where
  least : Int
  most : Int
  deriving Inhabited, DecidableEq
def cron_span.c (x : cron_span) : List AV := [.int IntKind.i64 x.least, .int IntKind.i64 x.most]
@[simp] theorem cron_span.c_eq (x : cron_span) : cron_span.c x = [.int IntKind.i64 x.least, .int IntKind.i64 x.most] := rfl
def cron_span.ok (B : Nat) (x : cron_span) : Prop := okI IntKind.i64 x.least ∧ okI IntKind.i64 x.most ∧ True
structure A_5_cron_span where
  e0 : cron_span
  e1 : cron_span
  e2 : cron_span
  e3 : cron_span
  e4 : cron_span
  deriving Inhabited, DecidableEq
def A_5_cron_span.c (x : A_5_cron_span) : List AV := [.int IntKind.i64 x.e0.least, .int IntKind.i64 x.e0.most, .int IntKind.i64 x.e1.least, .int IntKind.i64 x.e1.most, .int IntKind.i64 x.e2.least, .int IntKind.i64 x.e2.most, .int IntKind.i64 x.e3.least, .int IntKind.i64 x.e3.most, .int IntKind.i64 x.e4.least, .int IntKind.i64 x.e4.most]
@[simp] theorem A_5_cron_span.c_eq (x : A_5_cron_span) : A_5_cron_span.c x = [.int IntKind.i64 x.e0.least, .int IntKind.i64 x.e0.most, .int IntKind.i64 x.e1.least, .int IntKind.i64 x.e1.most, .int IntKind.i64 x.e2.least, .int IntKind.i64 x.e2.most, .int IntKind.i64 x.e3.least, .int IntKind.i64 x.e3.most, .int IntKind.i64 x.e4.least, .int IntKind.i64 x.e4.most] := rfl
def A_5_cron_span.ok (B : Nat) (x : A_5_cron_span) : Prop := cron_span.ok B x.e0 ∧ cron_span.ok B x.e1 ∧ cron_span.ok B x.e2 ∧ cron_span.ok B x.e3 ∧ cron_span.ok B x.e4 ∧ True
structure strings_span where
  start : Int
  end_ : Int
  deriving Inhabited, DecidableEq
def strings_span.c (x : strings_span) : List AV := [.int IntKind.i64 x.start, .int IntKind.i64 x.end_]
@[simp] theorem strings_span.c_eq (x : strings_span) : strings_span.c x = [.int IntKind.i64 x.start, .int IntKind.i64 x.end_] := rfl
def strings_span.ok (B : Nat) (x : strings_span) : Prop := okI IntKind.i64 x.start ∧ okI IntKind.i64 x.end_ ∧ True
structure cron_item where
  from_ : Int
  to_ : Int
  step : Int
  deriving Inhabited, DecidableEq
def cron_item.c (x : cron_item) : List AV := [.int IntKind.i64 x.from_, .int IntKind.i64 x.to_, .int IntKind.i64 x.step]
@[simp] theorem cron_item.c_eq (x : cron_item) : cron_item.c x = [.int IntKind.i64 x.from_, .int IntKind.i64 x.to_, .int IntKind.i64 x.step] := rfl
def cron_item.ok (B : Nat) (x : cron_item) : Prop := okI IntKind.i64 x.from_ ∧ okI IntKind.i64 x.to_ ∧ okI IntKind.i64 x.step ∧ True
structure A_20_uint64 where
  e0 : Int
  e1 : Int
  e2 : Int
  e3 : Int
  e4 : Int
  e5 : Int
  e6 : Int
  e7 : Int
  e8 : Int
  e9 : Int
  e10 : Int
  e11 : Int
  e12 : Int
  e13 : Int
  e14 : Int
  e15 : Int
  e16 : Int
  e17 : Int
  e18 : Int
  e19 : Int
  deriving Inhabited, DecidableEq
def A_20_uint64.c (x : A_20_uint64) : List AV := [.int IntKind.u64 x.e0, .int IntKind.u64 x.e1, .int IntKind.u64 x.e2, .int IntKind.u64 x.e3, .int IntKind.u64 x.e4, .int IntKind.u64 x.e5, .int IntKind.u64 x.e6, .int IntKind.u64 x.e7, .int IntKind.u64 x.e8, .int IntKind.u64 x.e9, .int IntKind.u64 x.e10, .int IntKind.u64 x.e11, .int IntKind.u64 x.e12, .int IntKind.u64 x.e13, .int IntKind.u64 x.e14, .int IntKind.u64 x.e15, .int IntKind.u64 x.e16, .int IntKind.u64 x.e17, .int IntKind.u64 x.e18, .int IntKind.u64 x.e19]
@[simp] theorem A_20_uint64.c_eq (x : A_20_uint64) : A_20_uint64.c x = [.int IntKind.u64 x.e0, .int IntKind.u64 x.e1, .int IntKind.u64 x.e2, .int IntKind.u64 x.e3, .int IntKind.u64 x.e4, .int IntKind.u64 x.e5, .int IntKind.u64 x.e6, .int IntKind.u64 x.e7, .int IntKind.u64 x.e8, .int IntKind.u64 x.e9, .int IntKind.u64 x.e10, .int IntKind.u64 x.e11, .int IntKind.u64 x.e12, .int IntKind.u64 x.e13, .int IntKind.u64 x.e14, .int IntKind.u64 x.e15, .int IntKind.u64 x.e16, .int IntKind.u64 x.e17, .int IntKind.u64 x.e18, .int IntKind.u64 x.e19] := rfl
def A_20_uint64.ok (B : Nat) (x : A_20_uint64) : Prop := okI IntKind.u64 x.e0 ∧ okI IntKind.u64 x.e1 ∧ okI IntKind.u64 x.e2 ∧ okI IntKind.u64 x.e3 ∧ okI IntKind.u64 x.e4 ∧ okI IntKind.u64 x.e5 ∧ okI IntKind.u64 x.e6 ∧ okI IntKind.u64 x.e7 ∧ okI IntKind.u64 x.e8 ∧ okI IntKind.u64 x.e9 ∧ okI IntKind.u64 x.e10 ∧ okI IntKind.u64 x.e11 ∧ okI IntKind.u64 x.e12 ∧ okI IntKind.u64 x.e13 ∧ okI IntKind.u64 x.e14 ∧ okI IntKind.u64 x.e15 ∧ okI IntKind.u64 x.e16 ∧ okI IntKind.u64 x.e17 ∧ okI IntKind.u64 x.e18 ∧ okI IntKind.u64 x.e19 ∧ True
structure utf8_acceptRange where
  lo : Int
  hi : Int
  deriving Inhabited, DecidableEq
def utf8_acceptRange.c (x : utf8_acceptRange) : List AV := [.int IntKind.u8 x.lo, .int IntKind.u8 x.hi]
@[simp] theorem utf8_acceptRange.c_eq (x : utf8_acceptRange) : utf8_acceptRange.c x = [.int IntKind.u8 x.lo, .int IntKind.u8 x.hi] := rfl
def utf8_acceptRange.ok (B : Nat) (x : utf8_acceptRange) : Prop := okI IntKind.u8 x.lo ∧ okI IntKind.u8 x.hi ∧ True
structure A_16_utf8_acceptRange where
  e0 : utf8_acceptRange
  e1 : utf8_acceptRange
  e2 : utf8_acceptRange
  e3 : utf8_acceptRange
  e4 : utf8_acceptRange
  e5 : utf8_acceptRange
  e6 : utf8_acceptRange
  e7 : utf8_acceptRange
  e8 : utf8_acceptRange
  e9 : utf8_acceptRange
  e10 : utf8_acceptRange
  e11 : utf8_acceptRange
  e12 : utf8_acceptRange
  e13 : utf8_acceptRange
  e14 : utf8_acceptRange
  e15 : utf8_acceptRange
  deriving Inhabited, DecidableEq
def A_16_utf8_acceptRange.c (x : A_16_utf8_acceptRange) : List AV := [.int IntKind.u8 x.e0.lo, .int IntKind.u8 x.e0.hi, .int IntKind.u8 x.e1.lo, .int IntKind.u8 x.e1.hi, .int IntKind.u8 x.e2.lo, .int IntKind.u8 x.e2.hi, .int IntKind.u8 x.e3.lo, .int IntKind.u8 x.e3.hi, .int IntKind.u8 x.e4.lo, .int IntKind.u8 x.e4.hi, .int IntKind.u8 x.e5.lo, .int IntKind.u8 x.e5.hi, .int IntKind.u8 x.e6.lo, .int IntKind.u8 x.e6.hi, .int IntKind.u8 x.e7.lo, .int IntKind.u8 x.e7.hi, .int IntKind.u8 x.e8.lo, .int IntKind.u8 x.e8.hi, .int IntKind.u8 x.e9.lo, .int IntKind.u8 x.e9.hi, .int IntKind.u8 x.e10.lo, .int IntKind.u8 x.e10.hi, .int IntKind.u8 x.e11.lo, .int IntKind.u8 x.e11.hi, .int IntKind.u8 x.e12.lo, .int IntKind.u8 x.e12.hi, .int IntKind.u8 x.e13.lo, .int IntKind.u8 x.e13.hi, .int IntKind.u8 x.e14.lo, .int IntKind.u8 x.e14.hi, .int IntKind.u8 x.e15.lo, .int IntKind.u8 x.e15.hi]
@[simp] theorem A_16_utf8_acceptRange.c_eq (x : A_16_utf8_acceptRange) : A_16_utf8_acceptRange.c x = [.int IntKind.u8 x.e0.lo, .int IntKind.u8 x.e0.hi, .int IntKind.u8 x.e1.lo, .int IntKind.u8 x.e1.hi, .int IntKind.u8 x.e2.lo, .int IntKind.u8 x.e2.hi, .int IntKind.u8 x.e3.lo, .int IntKind.u8 x.e3.hi, .int IntKind.u8 x.e4.lo, .int IntKind.u8 x.e4.hi, .int IntKind.u8 x.e5.lo, .int IntKind.u8 x.e5.hi, .int IntKind.u8 x.e6.lo, .int IntKind.u8 x.e6.hi, .int IntKind.u8 x.e7.lo, .int IntKind.u8 x.e7.hi, .int IntKind.u8 x.e8.lo, .int IntKind.u8 x.e8.hi, .int IntKind.u8 x.e9.lo, .int IntKind.u8 x.e9.hi, .int IntKind.u8 x.e10.lo, .int IntKind.u8 x.e10.hi, .int IntKind.u8 x.e11.lo, .int IntKind.u8 x.e11.hi, .int IntKind.u8 x.e12.lo, .int IntKind.u8 x.e12.hi, .int IntKind.u8 x.e13.lo, .int IntKind.u8 x.e13.hi, .int IntKind.u8 x.e14.lo, .int IntKind.u8 x.e14.hi, .int IntKind.u8 x.e15.lo, .int IntKind.u8 x.e15.hi] := rfl
def A_16_utf8_acceptRange.ok (B : Nat) (x : A_16_utf8_acceptRange) : Prop := utf8_acceptRange.ok B x.e0 ∧ utf8_acceptRange.ok B x.e1 ∧ utf8_acceptRange.ok B x.e2 ∧ utf8_acceptRange.ok B x.e3 ∧ utf8_acceptRange.ok B x.e4 ∧ utf8_acceptRange.ok B x.e5 ∧ utf8_acceptRange.ok B x.e6 ∧ utf8_acceptRange.ok B x.e7 ∧ utf8_acceptRange.ok B x.e8 ∧ utf8_acceptRange.ok B x.e9 ∧ utf8_acceptRange.ok B x.e10 ∧ utf8_acceptRange.ok B x.e11 ∧ utf8_acceptRange.ok B x.e12 ∧ utf8_acceptRange.ok B x.e13 ∧ utf8_acceptRange.ok B x.e14 ∧ utf8_acceptRange.ok B x.e15 ∧ True
structure errors_errorString where
  s : (List UInt8)
  deriving Inhabited, DecidableEq
def errors_errorString.c (x : errors_errorString) : List AV := [.str x.s]
@[simp] theorem errors_errorString.c_eq (x : errors_errorString) : errors_errorString.c x = [.str x.s] := rfl
def errors_errorString.ok (B : Nat) (x : errors_errorString) : Prop := List.length x.s ≤ B ∧ True
structure A_0__runtime_PanicNilError where
  deriving Inhabited, DecidableEq
def A_0__runtime_PanicNilError.c (x : A_0__runtime_PanicNilError) : List AV := []
@[simp] theorem A_0__runtime_PanicNilError.c_eq (x : A_0__runtime_PanicNilError) : A_0__runtime_PanicNilError.c x = [] := rfl
def A_0__runtime_PanicNilError.ok (B : Nat) (x : A_0__runtime_PanicNilError) : Prop := True
/-- what is known of package variables -/
def GM (ml : Int) : Gmap := fun g => match g with
  | 0 => some [.int .i64 0, .int .i64 59, .int .i64 0, .int .i64 23, .int .i64 1, .int .i64 31, .int .i64 1, .int .i64 12, .int .i64 0, .int .i64 7]
  | 1 => some (Lib.deBruijn64tab.map fun (n : Nat) => AV.int .u8 (n : Int))
  | 2 => some [.int .i64 ml]
  | _ => none

end Go.T
