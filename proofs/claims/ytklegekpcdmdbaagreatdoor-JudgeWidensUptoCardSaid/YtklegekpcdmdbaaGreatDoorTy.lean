/-
  TyJw: the types of the program as Lean types, and how they stand as cells. Printed by a program.
-/
import Derived.Test.YtklegekpcdmdbaaGreatDoorAbShelf
namespace Go.T
open Go Go.Ab
structure api_Cmd where
  Kind : Int
  Client : Int
  Seq : Int
  Name : (List UInt8)
  Expr : (List UInt8)
  Zone : (List UInt8)
  Token : (List UInt8)
  Time : Int
  deriving Inhabited, DecidableEq
def api_Cmd.c (x : api_Cmd) : List AV := [.int IntKind.i64 x.Kind, .int IntKind.i64 x.Client, .int IntKind.i64 x.Seq, .str x.Name, .str x.Expr, .str x.Zone, .str x.Token, .int IntKind.i64 x.Time]
@[simp] theorem api_Cmd.c_eq (x : api_Cmd) : api_Cmd.c x = [.int IntKind.i64 x.Kind, .int IntKind.i64 x.Client, .int IntKind.i64 x.Seq, .str x.Name, .str x.Expr, .str x.Zone, .str x.Token, .int IntKind.i64 x.Time] := rfl
def api_Cmd.ok (B : Nat) (x : api_Cmd) : Prop := okI IntKind.i64 x.Kind ∧ okI IntKind.i64 x.Client ∧ okI IntKind.i64 x.Seq ∧ List.length x.Name ≤ B ∧ List.length x.Expr ≤ B ∧ List.length x.Zone ≤ B ∧ List.length x.Token ≤ B ∧ okI IntKind.i64 x.Time ∧ True
structure api_Job where
  Name : (List UInt8)
  Expr : (List UInt8)
  Zone : (List UInt8)
  Token : (List UInt8)
  Client : Int
  Seq : Int
  Paused : Bool
  Mark : Int
  deriving Inhabited, DecidableEq
def api_Job.c (x : api_Job) : List AV := [.str x.Name, .str x.Expr, .str x.Zone, .str x.Token, .int IntKind.i64 x.Client, .int IntKind.i64 x.Seq, .bool x.Paused, .int IntKind.i64 x.Mark]
@[simp] theorem api_Job.c_eq (x : api_Job) : api_Job.c x = [.str x.Name, .str x.Expr, .str x.Zone, .str x.Token, .int IntKind.i64 x.Client, .int IntKind.i64 x.Seq, .bool x.Paused, .int IntKind.i64 x.Mark] := rfl
def api_Job.ok (B : Nat) (x : api_Job) : Prop := List.length x.Name ≤ B ∧ List.length x.Expr ≤ B ∧ List.length x.Zone ≤ B ∧ List.length x.Token ≤ B ∧ okI IntKind.i64 x.Client ∧ okI IntKind.i64 x.Seq ∧ True ∧ okI IntKind.i64 x.Mark ∧ True
structure api_Result where
  Err : Int
  Time : Int
  Jobs : (List api_Job)
  deriving Inhabited, DecidableEq
def api_Result.c (x : api_Result) : List AV := [.int IntKind.i64 x.Err, .int IntKind.i64 x.Time, .sl (List.map api_Job.c x.Jobs)]
@[simp] theorem api_Result.c_eq (x : api_Result) : api_Result.c x = [.int IntKind.i64 x.Err, .int IntKind.i64 x.Time, .sl (List.map api_Job.c x.Jobs)] := rfl
def api_Result.ok (B : Nat) (x : api_Result) : Prop := okI IntKind.i64 x.Err ∧ okI IntKind.i64 x.Time ∧ (List.length x.Jobs ≤ B ∧ ∀ y, y ∈ x.Jobs → api_Job.ok B y) ∧ True
structure api_Seen where
  Client : Int
  Seq : Int
  Result : api_Result
  deriving Inhabited, DecidableEq
def api_Seen.c (x : api_Seen) : List AV := [.int IntKind.i64 x.Client, .int IntKind.i64 x.Seq, .int IntKind.i64 x.Result.Err, .int IntKind.i64 x.Result.Time, .sl (List.map api_Job.c x.Result.Jobs)]
@[simp] theorem api_Seen.c_eq (x : api_Seen) : api_Seen.c x = [.int IntKind.i64 x.Client, .int IntKind.i64 x.Seq, .int IntKind.i64 x.Result.Err, .int IntKind.i64 x.Result.Time, .sl (List.map api_Job.c x.Result.Jobs)] := rfl
def api_Seen.ok (B : Nat) (x : api_Seen) : Prop := okI IntKind.i64 x.Client ∧ okI IntKind.i64 x.Seq ∧ api_Result.ok B x.Result ∧ True
structure api_Shard where
  Id : Int
  Epoch : Int
  State : Int
  From : (List UInt8)
  To : (List UInt8)
  Jobs : (List api_Job)
  Seen : (List api_Seen)
  deriving Inhabited, DecidableEq
def api_Shard.c (x : api_Shard) : List AV := [.int IntKind.i64 x.Id, .int IntKind.i64 x.Epoch, .int IntKind.i64 x.State, .str x.From, .str x.To, .sl (List.map api_Job.c x.Jobs), .sl (List.map api_Seen.c x.Seen)]
@[simp] theorem api_Shard.c_eq (x : api_Shard) : api_Shard.c x = [.int IntKind.i64 x.Id, .int IntKind.i64 x.Epoch, .int IntKind.i64 x.State, .str x.From, .str x.To, .sl (List.map api_Job.c x.Jobs), .sl (List.map api_Seen.c x.Seen)] := rfl
def api_Shard.ok (B : Nat) (x : api_Shard) : Prop := okI IntKind.i64 x.Id ∧ okI IntKind.i64 x.Epoch ∧ okI IntKind.i64 x.State ∧ List.length x.From ≤ B ∧ List.length x.To ≤ B ∧ (List.length x.Jobs ≤ B ∧ ∀ y, y ∈ x.Jobs → api_Job.ok B y) ∧ (List.length x.Seen ≤ B ∧ ∀ y, y ∈ x.Seen → api_Seen.ok B y) ∧ True
structure api_Order where
  Kind : Int
  Shard : Int
  Epoch : Int
  Other : Int
  Past : Int
  Key : (List UInt8)
  Cmd : api_Cmd
  State : api_Shard
  deriving Inhabited, DecidableEq
def api_Order.c (x : api_Order) : List AV := [.int IntKind.i64 x.Kind, .int IntKind.i64 x.Shard, .int IntKind.i64 x.Epoch, .int IntKind.i64 x.Other, .int IntKind.i64 x.Past, .str x.Key, .int IntKind.i64 x.Cmd.Kind, .int IntKind.i64 x.Cmd.Client, .int IntKind.i64 x.Cmd.Seq, .str x.Cmd.Name, .str x.Cmd.Expr, .str x.Cmd.Zone, .str x.Cmd.Token, .int IntKind.i64 x.Cmd.Time, .int IntKind.i64 x.State.Id, .int IntKind.i64 x.State.Epoch, .int IntKind.i64 x.State.State, .str x.State.From, .str x.State.To, .sl (List.map api_Job.c x.State.Jobs), .sl (List.map api_Seen.c x.State.Seen)]
@[simp] theorem api_Order.c_eq (x : api_Order) : api_Order.c x = [.int IntKind.i64 x.Kind, .int IntKind.i64 x.Shard, .int IntKind.i64 x.Epoch, .int IntKind.i64 x.Other, .int IntKind.i64 x.Past, .str x.Key, .int IntKind.i64 x.Cmd.Kind, .int IntKind.i64 x.Cmd.Client, .int IntKind.i64 x.Cmd.Seq, .str x.Cmd.Name, .str x.Cmd.Expr, .str x.Cmd.Zone, .str x.Cmd.Token, .int IntKind.i64 x.Cmd.Time, .int IntKind.i64 x.State.Id, .int IntKind.i64 x.State.Epoch, .int IntKind.i64 x.State.State, .str x.State.From, .str x.State.To, .sl (List.map api_Job.c x.State.Jobs), .sl (List.map api_Seen.c x.State.Seen)] := rfl
def api_Order.ok (B : Nat) (x : api_Order) : Prop := okI IntKind.i64 x.Kind ∧ okI IntKind.i64 x.Shard ∧ okI IntKind.i64 x.Epoch ∧ okI IntKind.i64 x.Other ∧ okI IntKind.i64 x.Past ∧ List.length x.Key ≤ B ∧ api_Cmd.ok B x.Cmd ∧ api_Shard.ok B x.State ∧ True
structure api_Event where
  Step : Int
  Group : Int
  Order : api_Order
  Result : api_Result
  deriving Inhabited, DecidableEq
def api_Event.c (x : api_Event) : List AV := [.int IntKind.i64 x.Step, .int IntKind.i64 x.Group, .int IntKind.i64 x.Order.Kind, .int IntKind.i64 x.Order.Shard, .int IntKind.i64 x.Order.Epoch, .int IntKind.i64 x.Order.Other, .int IntKind.i64 x.Order.Past, .str x.Order.Key, .int IntKind.i64 x.Order.Cmd.Kind, .int IntKind.i64 x.Order.Cmd.Client, .int IntKind.i64 x.Order.Cmd.Seq, .str x.Order.Cmd.Name, .str x.Order.Cmd.Expr, .str x.Order.Cmd.Zone, .str x.Order.Cmd.Token, .int IntKind.i64 x.Order.Cmd.Time, .int IntKind.i64 x.Order.State.Id, .int IntKind.i64 x.Order.State.Epoch, .int IntKind.i64 x.Order.State.State, .str x.Order.State.From, .str x.Order.State.To, .sl (List.map api_Job.c x.Order.State.Jobs), .sl (List.map api_Seen.c x.Order.State.Seen), .int IntKind.i64 x.Result.Err, .int IntKind.i64 x.Result.Time, .sl (List.map api_Job.c x.Result.Jobs)]
@[simp] theorem api_Event.c_eq (x : api_Event) : api_Event.c x = [.int IntKind.i64 x.Step, .int IntKind.i64 x.Group, .int IntKind.i64 x.Order.Kind, .int IntKind.i64 x.Order.Shard, .int IntKind.i64 x.Order.Epoch, .int IntKind.i64 x.Order.Other, .int IntKind.i64 x.Order.Past, .str x.Order.Key, .int IntKind.i64 x.Order.Cmd.Kind, .int IntKind.i64 x.Order.Cmd.Client, .int IntKind.i64 x.Order.Cmd.Seq, .str x.Order.Cmd.Name, .str x.Order.Cmd.Expr, .str x.Order.Cmd.Zone, .str x.Order.Cmd.Token, .int IntKind.i64 x.Order.Cmd.Time, .int IntKind.i64 x.Order.State.Id, .int IntKind.i64 x.Order.State.Epoch, .int IntKind.i64 x.Order.State.State, .str x.Order.State.From, .str x.Order.State.To, .sl (List.map api_Job.c x.Order.State.Jobs), .sl (List.map api_Seen.c x.Order.State.Seen), .int IntKind.i64 x.Result.Err, .int IntKind.i64 x.Result.Time, .sl (List.map api_Job.c x.Result.Jobs)] := rfl
def api_Event.ok (B : Nat) (x : api_Event) : Prop := okI IntKind.i64 x.Step ∧ okI IntKind.i64 x.Group ∧ api_Order.ok B x.Order ∧ api_Result.ok B x.Result ∧ True
structure api_Call where
  Client : Int
  Seq : Int
  Cmd : api_Cmd
  From : Int
  To : Int
  Result : api_Result
  deriving Inhabited, DecidableEq
def api_Call.c (x : api_Call) : List AV := [.int IntKind.i64 x.Client, .int IntKind.i64 x.Seq, .int IntKind.i64 x.Cmd.Kind, .int IntKind.i64 x.Cmd.Client, .int IntKind.i64 x.Cmd.Seq, .str x.Cmd.Name, .str x.Cmd.Expr, .str x.Cmd.Zone, .str x.Cmd.Token, .int IntKind.i64 x.Cmd.Time, .int IntKind.i64 x.From, .int IntKind.i64 x.To, .int IntKind.i64 x.Result.Err, .int IntKind.i64 x.Result.Time, .sl (List.map api_Job.c x.Result.Jobs)]
@[simp] theorem api_Call.c_eq (x : api_Call) : api_Call.c x = [.int IntKind.i64 x.Client, .int IntKind.i64 x.Seq, .int IntKind.i64 x.Cmd.Kind, .int IntKind.i64 x.Cmd.Client, .int IntKind.i64 x.Cmd.Seq, .str x.Cmd.Name, .str x.Cmd.Expr, .str x.Cmd.Zone, .str x.Cmd.Token, .int IntKind.i64 x.Cmd.Time, .int IntKind.i64 x.From, .int IntKind.i64 x.To, .int IntKind.i64 x.Result.Err, .int IntKind.i64 x.Result.Time, .sl (List.map api_Job.c x.Result.Jobs)] := rfl
def api_Call.ok (B : Nat) (x : api_Call) : Prop := okI IntKind.i64 x.Client ∧ okI IntKind.i64 x.Seq ∧ api_Cmd.ok B x.Cmd ∧ okI IntKind.i64 x.From ∧ okI IntKind.i64 x.To ∧ api_Result.ok B x.Result ∧ True
structure jobs_table where
  jobs : (List api_Job)
  deriving Inhabited, DecidableEq
def jobs_table.c (x : jobs_table) : List AV := [.sl (List.map api_Job.c x.jobs)]
@[simp] theorem jobs_table.c_eq (x : jobs_table) : jobs_table.c x = [.sl (List.map api_Job.c x.jobs)] := rfl
def jobs_table.ok (B : Nat) (x : jobs_table) : Prop := (List.length x.jobs ≤ B ∧ ∀ y, y ∈ x.jobs → api_Job.ok B y) ∧ True
structure judge_mark where
  client : Int
  seq : Int
  deriving Inhabited, DecidableEq
def judge_mark.c (x : judge_mark) : List AV := [.int IntKind.i64 x.client, .int IntKind.i64 x.seq]
@[simp] theorem judge_mark.c_eq (x : judge_mark) : judge_mark.c x = [.int IntKind.i64 x.client, .int IntKind.i64 x.seq] := rfl
def judge_mark.ok (B : Nat) (x : judge_mark) : Prop := okI IntKind.i64 x.client ∧ okI IntKind.i64 x.seq ∧ True
structure api_Cron where
  Minute : Int
  Hour : Int
  Day : Int
  Month : Int
  Week : Int
  AnyDay : Bool
  AnyWeek : Bool
  deriving Inhabited, DecidableEq
def api_Cron.c (x : api_Cron) : List AV := [.int IntKind.u64 x.Minute, .int IntKind.u64 x.Hour, .int IntKind.u64 x.Day, .int IntKind.u64 x.Month, .int IntKind.u64 x.Week, .bool x.AnyDay, .bool x.AnyWeek]
@[simp] theorem api_Cron.c_eq (x : api_Cron) : api_Cron.c x = [.int IntKind.u64 x.Minute, .int IntKind.u64 x.Hour, .int IntKind.u64 x.Day, .int IntKind.u64 x.Month, .int IntKind.u64 x.Week, .bool x.AnyDay, .bool x.AnyWeek] := rfl
def api_Cron.ok (B : Nat) (x : api_Cron) : Prop := okI IntKind.u64 x.Minute ∧ okI IntKind.u64 x.Hour ∧ okI IntKind.u64 x.Day ∧ okI IntKind.u64 x.Month ∧ okI IntKind.u64 x.Week ∧ True ∧ True ∧ True
structure api_Rule where
  Month : Int
  Week : Int
  Day : Int
  At : Int
  deriving Inhabited, DecidableEq
def api_Rule.c (x : api_Rule) : List AV := [.int IntKind.i64 x.Month, .int IntKind.i64 x.Week, .int IntKind.i64 x.Day, .int IntKind.i64 x.At]
@[simp] theorem api_Rule.c_eq (x : api_Rule) : api_Rule.c x = [.int IntKind.i64 x.Month, .int IntKind.i64 x.Week, .int IntKind.i64 x.Day, .int IntKind.i64 x.At] := rfl
def api_Rule.ok (B : Nat) (x : api_Rule) : Prop := okI IntKind.i64 x.Month ∧ okI IntKind.i64 x.Week ∧ okI IntKind.i64 x.Day ∧ okI IntKind.i64 x.At ∧ True
structure api_Zone where
  Base : Int
  Save : Int
  On : api_Rule
  Off : api_Rule
  deriving Inhabited, DecidableEq
def api_Zone.c (x : api_Zone) : List AV := [.int IntKind.i64 x.Base, .int IntKind.i64 x.Save, .int IntKind.i64 x.On.Month, .int IntKind.i64 x.On.Week, .int IntKind.i64 x.On.Day, .int IntKind.i64 x.On.At, .int IntKind.i64 x.Off.Month, .int IntKind.i64 x.Off.Week, .int IntKind.i64 x.Off.Day, .int IntKind.i64 x.Off.At]
@[simp] theorem api_Zone.c_eq (x : api_Zone) : api_Zone.c x = [.int IntKind.i64 x.Base, .int IntKind.i64 x.Save, .int IntKind.i64 x.On.Month, .int IntKind.i64 x.On.Week, .int IntKind.i64 x.On.Day, .int IntKind.i64 x.On.At, .int IntKind.i64 x.Off.Month, .int IntKind.i64 x.Off.Week, .int IntKind.i64 x.Off.Day, .int IntKind.i64 x.Off.At] := rfl
def api_Zone.ok (B : Nat) (x : api_Zone) : Prop := okI IntKind.i64 x.Base ∧ okI IntKind.i64 x.Save ∧ api_Rule.ok B x.On ∧ api_Rule.ok B x.Off ∧ True
structure A_5_uint64 where
  e0 : Int
  e1 : Int
  e2 : Int
  e3 : Int
  e4 : Int
  deriving Inhabited, DecidableEq
def A_5_uint64.c (x : A_5_uint64) : List AV := [.int IntKind.u64 x.e0, .int IntKind.u64 x.e1, .int IntKind.u64 x.e2, .int IntKind.u64 x.e3, .int IntKind.u64 x.e4]
@[simp] theorem A_5_uint64.c_eq (x : A_5_uint64) : A_5_uint64.c x = [.int IntKind.u64 x.e0, .int IntKind.u64 x.e1, .int IntKind.u64 x.e2, .int IntKind.u64 x.e3, .int IntKind.u64 x.e4] := rfl
def A_5_uint64.ok (B : Nat) (x : A_5_uint64) : Prop := okI IntKind.u64 x.e0 ∧ okI IntKind.u64 x.e1 ∧ okI IntKind.u64 x.e2 ∧ okI IntKind.u64 x.e3 ∧ okI IntKind.u64 x.e4 ∧ True
structure sync_noCopy where
  deriving Inhabited, DecidableEq
def sync_noCopy.c (x : sync_noCopy) : List AV := []
@[simp] theorem sync_noCopy.c_eq (x : sync_noCopy) : sync_noCopy.c x = [] := rfl
def sync_noCopy.ok (B : Nat) (x : sync_noCopy) : Prop := True
structure atomic_noCopy where
  deriving Inhabited, DecidableEq
def atomic_noCopy.c (x : atomic_noCopy) : List AV := []
@[simp] theorem atomic_noCopy.c_eq (x : atomic_noCopy) : atomic_noCopy.c x = [] := rfl
def atomic_noCopy.ok (B : Nat) (x : atomic_noCopy) : Prop := True
structure atomic_Bool where
  blank0 : atomic_noCopy
  v : Int
  deriving Inhabited, DecidableEq
def atomic_Bool.c (x : atomic_Bool) : List AV := [.int IntKind.u32 x.v]
@[simp] theorem atomic_Bool.c_eq (x : atomic_Bool) : atomic_Bool.c x = [.int IntKind.u32 x.v] := rfl
def atomic_Bool.ok (B : Nat) (x : atomic_Bool) : Prop := atomic_noCopy.ok B x.blank0 ∧ okI IntKind.u32 x.v ∧ True
structure sync_Mutex where
  state : Int
  sema : Int
  deriving Inhabited, DecidableEq
def sync_Mutex.c (x : sync_Mutex) : List AV := [.int IntKind.i32 x.state, .int IntKind.u32 x.sema]
@[simp] theorem sync_Mutex.c_eq (x : sync_Mutex) : sync_Mutex.c x = [.int IntKind.i32 x.state, .int IntKind.u32 x.sema] := rfl
def sync_Mutex.ok (B : Nat) (x : sync_Mutex) : Prop := okI IntKind.i32 x.state ∧ okI IntKind.u32 x.sema ∧ True
structure sync_Mutex_135 where
  blank0 : sync_noCopy
  mu : sync_Mutex
  deriving Inhabited, DecidableEq
def sync_Mutex_135.c (x : sync_Mutex_135) : List AV := [.int IntKind.i32 x.mu.state, .int IntKind.u32 x.mu.sema]
@[simp] theorem sync_Mutex_135.c_eq (x : sync_Mutex_135) : sync_Mutex_135.c x = [.int IntKind.i32 x.mu.state, .int IntKind.u32 x.mu.sema] := rfl
def sync_Mutex_135.ok (B : Nat) (x : sync_Mutex_135) : Prop := sync_noCopy.ok B x.blank0 ∧ sync_Mutex.ok B x.mu ∧ True
structure sync_Once where
  blank0 : sync_noCopy
  done : atomic_Bool
  m : sync_Mutex_135
  deriving Inhabited, DecidableEq
def sync_Once.c (x : sync_Once) : List AV := [.int IntKind.u32 x.done.v, .int IntKind.i32 x.m.mu.state, .int IntKind.u32 x.m.mu.sema]
@[simp] theorem sync_Once.c_eq (x : sync_Once) : sync_Once.c x = [.int IntKind.u32 x.done.v, .int IntKind.i32 x.m.mu.state, .int IntKind.u32 x.m.mu.sema] := rfl
def sync_Once.ok (B : Nat) (x : sync_Once) : Prop := sync_noCopy.ok B x.blank0 ∧ atomic_Bool.ok B x.done ∧ sync_Mutex_135.ok B x.m ∧ True
structure zone_turn where
  from_ : Int
  offset : Int
  deriving Inhabited, DecidableEq
def zone_turn.c (x : zone_turn) : List AV := [.int IntKind.i64 x.from_, .int IntKind.i64 x.offset]
@[simp] theorem zone_turn.c_eq (x : zone_turn) : zone_turn.c x = [.int IntKind.i64 x.from_, .int IntKind.i64 x.offset] := rfl
def zone_turn.ok (B : Nat) (x : zone_turn) : Prop := okI IntKind.i64 x.from_ ∧ okI IntKind.i64 x.offset ∧ True
structure zone_Zone where
  rules : api_Zone
  once : sync_Once
  turns : (List zone_turn)
  deriving Inhabited, DecidableEq
def zone_Zone.c (x : zone_Zone) : List AV := [.int IntKind.i64 x.rules.Base, .int IntKind.i64 x.rules.Save, .int IntKind.i64 x.rules.On.Month, .int IntKind.i64 x.rules.On.Week, .int IntKind.i64 x.rules.On.Day, .int IntKind.i64 x.rules.On.At, .int IntKind.i64 x.rules.Off.Month, .int IntKind.i64 x.rules.Off.Week, .int IntKind.i64 x.rules.Off.Day, .int IntKind.i64 x.rules.Off.At, .int IntKind.u32 x.once.done.v, .int IntKind.i32 x.once.m.mu.state, .int IntKind.u32 x.once.m.mu.sema, .sl (List.map zone_turn.c x.turns)]
@[simp] theorem zone_Zone.c_eq (x : zone_Zone) : zone_Zone.c x = [.int IntKind.i64 x.rules.Base, .int IntKind.i64 x.rules.Save, .int IntKind.i64 x.rules.On.Month, .int IntKind.i64 x.rules.On.Week, .int IntKind.i64 x.rules.On.Day, .int IntKind.i64 x.rules.On.At, .int IntKind.i64 x.rules.Off.Month, .int IntKind.i64 x.rules.Off.Week, .int IntKind.i64 x.rules.Off.Day, .int IntKind.i64 x.rules.Off.At, .int IntKind.u32 x.once.done.v, .int IntKind.i32 x.once.m.mu.state, .int IntKind.u32 x.once.m.mu.sema, .sl (List.map zone_turn.c x.turns)] := rfl
def zone_Zone.ok (B : Nat) (x : zone_Zone) : Prop := api_Zone.ok B x.rules ∧ sync_Once.ok B x.once ∧ (List.length x.turns ≤ B ∧ ∀ y, y ∈ x.turns → zone_turn.ok B y) ∧ True
structure cron_span where
  least : Int
  most : Int
  deriving Inhabited, DecidableEq
def cron_span.c (x : cron_span) : List AV := [.int IntKind.i64 x.least, .int IntKind.i64 x.most]
@[simp] theorem cron_span.c_eq (x : cron_span) : cron_span.c x = [.int IntKind.i64 x.least, .int IntKind.i64 x.most] := rfl
def cron_span.ok (B : Nat) (x : cron_span) : Prop := okI IntKind.i64 x.least ∧ okI IntKind.i64 x.most ∧ True
structure A_5_cron_span where
  e0 : cron_span
  e1 : cron_span
  e2 : cron_span
  e3 : cron_span
  e4 : cron_span
  deriving Inhabited, DecidableEq
def A_5_cron_span.c (x : A_5_cron_span) : List AV := [.int IntKind.i64 x.e0.least, .int IntKind.i64 x.e0.most, .int IntKind.i64 x.e1.least, .int IntKind.i64 x.e1.most, .int IntKind.i64 x.e2.least, .int IntKind.i64 x.e2.most, .int IntKind.i64 x.e3.least, .int IntKind.i64 x.e3.most, .int IntKind.i64 x.e4.least, .int IntKind.i64 x.e4.most]
@[simp] theorem A_5_cron_span.c_eq (x : A_5_cron_span) : A_5_cron_span.c x = [.int IntKind.i64 x.e0.least, .int IntKind.i64 x.e0.most, .int IntKind.i64 x.e1.least, .int IntKind.i64 x.e1.most, .int IntKind.i64 x.e2.least, .int IntKind.i64 x.e2.most, .int IntKind.i64 x.e3.least, .int IntKind.i64 x.e3.most, .int IntKind.i64 x.e4.least, .int IntKind.i64 x.e4.most] := rfl
def A_5_cron_span.ok (B : Nat) (x : A_5_cron_span) : Prop := cron_span.ok B x.e0 ∧ cron_span.ok B x.e1 ∧ cron_span.ok B x.e2 ∧ cron_span.ok B x.e3 ∧ cron_span.ok B x.e4 ∧ True
structure strings_span where
  start : Int
  end_ : Int
  deriving Inhabited, DecidableEq
def strings_span.c (x : strings_span) : List AV := [.int IntKind.i64 x.start, .int IntKind.i64 x.end_]
@[simp] theorem strings_span.c_eq (x : strings_span) : strings_span.c x = [.int IntKind.i64 x.start, .int IntKind.i64 x.end_] := rfl
def strings_span.ok (B : Nat) (x : strings_span) : Prop := okI IntKind.i64 x.start ∧ okI IntKind.i64 x.end_ ∧ True
structure cron_item where
  from_ : Int
  to_ : Int
  step : Int
  deriving Inhabited, DecidableEq
def cron_item.c (x : cron_item) : List AV := [.int IntKind.i64 x.from_, .int IntKind.i64 x.to_, .int IntKind.i64 x.step]
@[simp] theorem cron_item.c_eq (x : cron_item) : cron_item.c x = [.int IntKind.i64 x.from_, .int IntKind.i64 x.to_, .int IntKind.i64 x.step] := rfl
def cron_item.ok (B : Nat) (x : cron_item) : Prop := okI IntKind.i64 x.from_ ∧ okI IntKind.i64 x.to_ ∧ okI IntKind.i64 x.step ∧ True
structure api_Civil where
  Year : Int
  Month : Int
  Day : Int
  Hour : Int
  Minute : Int
  Week : Int
  deriving Inhabited, DecidableEq
def api_Civil.c (x : api_Civil) : List AV := [.int IntKind.i64 x.Year, .int IntKind.i64 x.Month, .int IntKind.i64 x.Day, .int IntKind.i64 x.Hour, .int IntKind.i64 x.Minute, .int IntKind.i64 x.Week]
@[simp] theorem api_Civil.c_eq (x : api_Civil) : api_Civil.c x = [.int IntKind.i64 x.Year, .int IntKind.i64 x.Month, .int IntKind.i64 x.Day, .int IntKind.i64 x.Hour, .int IntKind.i64 x.Minute, .int IntKind.i64 x.Week] := rfl
def api_Civil.ok (B : Nat) (x : api_Civil) : Prop := okI IntKind.i64 x.Year ∧ okI IntKind.i64 x.Month ∧ okI IntKind.i64 x.Day ∧ okI IntKind.i64 x.Hour ∧ okI IntKind.i64 x.Minute ∧ okI IntKind.i64 x.Week ∧ True
structure A_20_uint64 where
  e0 : Int
  e1 : Int
  e2 : Int
  e3 : Int
  e4 : Int
  e5 : Int
  e6 : Int
  e7 : Int
  e8 : Int
  e9 : Int
  e10 : Int
  e11 : Int
  e12 : Int
  e13 : Int
  e14 : Int
  e15 : Int
  e16 : Int
  e17 : Int
  e18 : Int
  e19 : Int
  deriving Inhabited, DecidableEq
def A_20_uint64.c (x : A_20_uint64) : List AV := [.int IntKind.u64 x.e0, .int IntKind.u64 x.e1, .int IntKind.u64 x.e2, .int IntKind.u64 x.e3, .int IntKind.u64 x.e4, .int IntKind.u64 x.e5, .int IntKind.u64 x.e6, .int IntKind.u64 x.e7, .int IntKind.u64 x.e8, .int IntKind.u64 x.e9, .int IntKind.u64 x.e10, .int IntKind.u64 x.e11, .int IntKind.u64 x.e12, .int IntKind.u64 x.e13, .int IntKind.u64 x.e14, .int IntKind.u64 x.e15, .int IntKind.u64 x.e16, .int IntKind.u64 x.e17, .int IntKind.u64 x.e18, .int IntKind.u64 x.e19]
@[simp] theorem A_20_uint64.c_eq (x : A_20_uint64) : A_20_uint64.c x = [.int IntKind.u64 x.e0, .int IntKind.u64 x.e1, .int IntKind.u64 x.e2, .int IntKind.u64 x.e3, .int IntKind.u64 x.e4, .int IntKind.u64 x.e5, .int IntKind.u64 x.e6, .int IntKind.u64 x.e7, .int IntKind.u64 x.e8, .int IntKind.u64 x.e9, .int IntKind.u64 x.e10, .int IntKind.u64 x.e11, .int IntKind.u64 x.e12, .int IntKind.u64 x.e13, .int IntKind.u64 x.e14, .int IntKind.u64 x.e15, .int IntKind.u64 x.e16, .int IntKind.u64 x.e17, .int IntKind.u64 x.e18, .int IntKind.u64 x.e19] := rfl
def A_20_uint64.ok (B : Nat) (x : A_20_uint64) : Prop := okI IntKind.u64 x.e0 ∧ okI IntKind.u64 x.e1 ∧ okI IntKind.u64 x.e2 ∧ okI IntKind.u64 x.e3 ∧ okI IntKind.u64 x.e4 ∧ okI IntKind.u64 x.e5 ∧ okI IntKind.u64 x.e6 ∧ okI IntKind.u64 x.e7 ∧ okI IntKind.u64 x.e8 ∧ okI IntKind.u64 x.e9 ∧ okI IntKind.u64 x.e10 ∧ okI IntKind.u64 x.e11 ∧ okI IntKind.u64 x.e12 ∧ okI IntKind.u64 x.e13 ∧ okI IntKind.u64 x.e14 ∧ okI IntKind.u64 x.e15 ∧ okI IntKind.u64 x.e16 ∧ okI IntKind.u64 x.e17 ∧ okI IntKind.u64 x.e18 ∧ okI IntKind.u64 x.e19 ∧ True
structure utf8_acceptRange where
  lo : Int
  hi : Int
  deriving Inhabited, DecidableEq
def utf8_acceptRange.c (x : utf8_acceptRange) : List AV := [.int IntKind.u8 x.lo, .int IntKind.u8 x.hi]
@[simp] theorem utf8_acceptRange.c_eq (x : utf8_acceptRange) : utf8_acceptRange.c x = [.int IntKind.u8 x.lo, .int IntKind.u8 x.hi] := rfl
def utf8_acceptRange.ok (B : Nat) (x : utf8_acceptRange) : Prop := okI IntKind.u8 x.lo ∧ okI IntKind.u8 x.hi ∧ True
structure A_16_utf8_acceptRange where
  e0 : utf8_acceptRange
  e1 : utf8_acceptRange
  e2 : utf8_acceptRange
  e3 : utf8_acceptRange
  e4 : utf8_acceptRange
  e5 : utf8_acceptRange
  e6 : utf8_acceptRange
  e7 : utf8_acceptRange
  e8 : utf8_acceptRange
  e9 : utf8_acceptRange
  e10 : utf8_acceptRange
  e11 : utf8_acceptRange
  e12 : utf8_acceptRange
  e13 : utf8_acceptRange
  e14 : utf8_acceptRange
  e15 : utf8_acceptRange
  deriving Inhabited, DecidableEq
def A_16_utf8_acceptRange.c (x : A_16_utf8_acceptRange) : List AV := [.int IntKind.u8 x.e0.lo, .int IntKind.u8 x.e0.hi, .int IntKind.u8 x.e1.lo, .int IntKind.u8 x.e1.hi, .int IntKind.u8 x.e2.lo, .int IntKind.u8 x.e2.hi, .int IntKind.u8 x.e3.lo, .int IntKind.u8 x.e3.hi, .int IntKind.u8 x.e4.lo, .int IntKind.u8 x.e4.hi, .int IntKind.u8 x.e5.lo, .int IntKind.u8 x.e5.hi, .int IntKind.u8 x.e6.lo, .int IntKind.u8 x.e6.hi, .int IntKind.u8 x.e7.lo, .int IntKind.u8 x.e7.hi, .int IntKind.u8 x.e8.lo, .int IntKind.u8 x.e8.hi, .int IntKind.u8 x.e9.lo, .int IntKind.u8 x.e9.hi, .int IntKind.u8 x.e10.lo, .int IntKind.u8 x.e10.hi, .int IntKind.u8 x.e11.lo, .int IntKind.u8 x.e11.hi, .int IntKind.u8 x.e12.lo, .int IntKind.u8 x.e12.hi, .int IntKind.u8 x.e13.lo, .int IntKind.u8 x.e13.hi, .int IntKind.u8 x.e14.lo, .int IntKind.u8 x.e14.hi, .int IntKind.u8 x.e15.lo, .int IntKind.u8 x.e15.hi]
@[simp] theorem A_16_utf8_acceptRange.c_eq (x : A_16_utf8_acceptRange) : A_16_utf8_acceptRange.c x = [.int IntKind.u8 x.e0.lo, .int IntKind.u8 x.e0.hi, .int IntKind.u8 x.e1.lo, .int IntKind.u8 x.e1.hi, .int IntKind.u8 x.e2.lo, .int IntKind.u8 x.e2.hi, .int IntKind.u8 x.e3.lo, .int IntKind.u8 x.e3.hi, .int IntKind.u8 x.e4.lo, .int IntKind.u8 x.e4.hi, .int IntKind.u8 x.e5.lo, .int IntKind.u8 x.e5.hi, .int IntKind.u8 x.e6.lo, .int IntKind.u8 x.e6.hi, .int IntKind.u8 x.e7.lo, .int IntKind.u8 x.e7.hi, .int IntKind.u8 x.e8.lo, .int IntKind.u8 x.e8.hi, .int IntKind.u8 x.e9.lo, .int IntKind.u8 x.e9.hi, .int IntKind.u8 x.e10.lo, .int IntKind.u8 x.e10.hi, .int IntKind.u8 x.e11.lo, .int IntKind.u8 x.e11.hi, .int IntKind.u8 x.e12.lo, .int IntKind.u8 x.e12.hi, .int IntKind.u8 x.e13.lo, .int IntKind.u8 x.e13.hi, .int IntKind.u8 x.e14.lo, .int IntKind.u8 x.e14.hi, .int IntKind.u8 x.e15.lo, .int IntKind.u8 x.e15.hi] := rfl
def A_16_utf8_acceptRange.ok (B : Nat) (x : A_16_utf8_acceptRange) : Prop := utf8_acceptRange.ok B x.e0 ∧ utf8_acceptRange.ok B x.e1 ∧ utf8_acceptRange.ok B x.e2 ∧ utf8_acceptRange.ok B x.e3 ∧ utf8_acceptRange.ok B x.e4 ∧ utf8_acceptRange.ok B x.e5 ∧ utf8_acceptRange.ok B x.e6 ∧ utf8_acceptRange.ok B x.e7 ∧ utf8_acceptRange.ok B x.e8 ∧ utf8_acceptRange.ok B x.e9 ∧ utf8_acceptRange.ok B x.e10 ∧ utf8_acceptRange.ok B x.e11 ∧ utf8_acceptRange.ok B x.e12 ∧ utf8_acceptRange.ok B x.e13 ∧ utf8_acceptRange.ok B x.e14 ∧ utf8_acceptRange.ok B x.e15 ∧ True
structure errors_errorString where
  s : (List UInt8)
  deriving Inhabited, DecidableEq
def errors_errorString.c (x : errors_errorString) : List AV := [.str x.s]
@[simp] theorem errors_errorString.c_eq (x : errors_errorString) : errors_errorString.c x = [.str x.s] := rfl
def errors_errorString.ok (B : Nat) (x : errors_errorString) : Prop := List.length x.s ≤ B ∧ True
structure A_0__runtime_PanicNilError where
  deriving Inhabited, DecidableEq
def A_0__runtime_PanicNilError.c (x : A_0__runtime_PanicNilError) : List AV := []
@[simp] theorem A_0__runtime_PanicNilError.c_eq (x : A_0__runtime_PanicNilError) : A_0__runtime_PanicNilError.c x = [] := rfl
def A_0__runtime_PanicNilError.ok (B : Nat) (x : A_0__runtime_PanicNilError) : Prop := True
/-- what is known of package variables -/
def GM (ml : Int) : Gmap := fun g => match g with
  | 0 => some [.int .i64 0, .int .i64 59, .int .i64 0, .int .i64 23, .int .i64 1, .int .i64 31, .int .i64 1, .int .i64 12, .int .i64 0, .int .i64 7]
  | 1 => some (Lib.deBruijn64tab.map fun (n : Nat) => AV.int .u8 (n : Int))
  | 2 => some [.int .i64 ml]
  | _ => none

end Go.T
