/-
  TyMv: the types of the program as Lean types,and how they stand as cells. Printed by a program.
-/
import Derived.Test.YthohllgoneadhaaGreatDoorAbI
namespace Go.T
open Go Go.Ab
structure api_Job where
  Name:(List UInt8)
  Expr:(List UInt8)
  Zone:(List UInt8)
  Token:(List UInt8)
  Client:Int
  Seq:Int
  Paused:Bool
  Mark:Int
  deriving Inhabited,DecidableEq
@[simp] def api_Job.c (x:api_Job):List AV:=[.str x.Name,.str x.Expr,.str x.Zone,.str x.Token,.int IntKind.i64 x.Client,.int IntKind.i64 x.Seq,.bool x.Paused,.int IntKind.i64 x.Mark]
def api_Job.ok (B:Nat) (x:api_Job):Prop:=List.length x.Name≤B∧List.length x.Expr≤B∧List.length x.Zone≤B∧List.length x.Token≤B∧okI IntKind.i64 x.Client∧okI IntKind.i64 x.Seq∧True∧okI IntKind.i64 x.Mark∧True
structure api_Result where
  Err:Int
  Time:Int
  Jobs:(List api_Job)
  deriving Inhabited,DecidableEq
@[simp] def api_Result.c (x:api_Result):List AV:=[.int IntKind.i64 x.Err,.int IntKind.i64 x.Time,.sl (List.map api_Job.c x.Jobs)]
def api_Result.ok (B:Nat) (x:api_Result):Prop:=okI IntKind.i64 x.Err∧okI IntKind.i64 x.Time∧(List.length x.Jobs≤B∧∀ y,y∈x.Jobs→api_Job.ok B y)∧True
structure api_Seen where
  Client:Int
  Seq:Int
  Result:api_Result
  deriving Inhabited,DecidableEq
@[simp] def api_Seen.c (x:api_Seen):List AV:=[.int IntKind.i64 x.Client,.int IntKind.i64 x.Seq,.int IntKind.i64 x.Result.Err,.int IntKind.i64 x.Result.Time,.sl (List.map api_Job.c x.Result.Jobs)]
def api_Seen.ok (B:Nat) (x:api_Seen):Prop:=okI IntKind.i64 x.Client∧okI IntKind.i64 x.Seq∧api_Result.ok B x.Result∧True
structure api_Plan where
  Kind:Int
  Phase:Int
  Shard:Int
  Other:Int
  Group:Int
  Past:Int
  Epoch:Int
  Key:(List UInt8)
  deriving Inhabited,DecidableEq
@[simp] def api_Plan.c (x:api_Plan):List AV:=[.int IntKind.i64 x.Kind,.int IntKind.i64 x.Phase,.int IntKind.i64 x.Shard,.int IntKind.i64 x.Other,.int IntKind.i64 x.Group,.int IntKind.i64 x.Past,.int IntKind.i64 x.Epoch,.str x.Key]
def api_Plan.ok (B:Nat) (x:api_Plan):Prop:=okI IntKind.i64 x.Kind∧okI IntKind.i64 x.Phase∧okI IntKind.i64 x.Shard∧okI IntKind.i64 x.Other∧okI IntKind.i64 x.Group∧okI IntKind.i64 x.Past∧okI IntKind.i64 x.Epoch∧List.length x.Key≤B∧True
structure matinslaw20_Turn where
  Kind:Int
  Plan:api_Plan
  deriving Inhabited,DecidableEq
@[simp] def matinslaw20_Turn.c (x:matinslaw20_Turn):List AV:=[.int IntKind.i64 x.Kind,.int IntKind.i64 x.Plan.Kind,.int IntKind.i64 x.Plan.Phase,.int IntKind.i64 x.Plan.Shard,.int IntKind.i64 x.Plan.Other,.int IntKind.i64 x.Plan.Group,.int IntKind.i64 x.Plan.Past,.int IntKind.i64 x.Plan.Epoch,.str x.Plan.Key]
def matinslaw20_Turn.ok (B:Nat) (x:matinslaw20_Turn):Prop:=okI IntKind.i64 x.Kind∧api_Plan.ok B x.Plan∧True
structure api_Span where
  From:(List UInt8)
  To:(List UInt8)
  Shard:Int
  Epoch:Int
  Group:Int
  deriving Inhabited,DecidableEq
@[simp] def api_Span.c (x:api_Span):List AV:=[.str x.From,.str x.To,.int IntKind.i64 x.Shard,.int IntKind.i64 x.Epoch,.int IntKind.i64 x.Group]
def api_Span.ok (B:Nat) (x:api_Span):Prop:=List.length x.From≤B∧List.length x.To≤B∧okI IntKind.i64 x.Shard∧okI IntKind.i64 x.Epoch∧okI IntKind.i64 x.Group∧True
structure api_Atlas where
  Groups:Int
  Last:Int
  Spans:(List api_Span)
  Plan:api_Plan
  deriving Inhabited,DecidableEq
@[simp] def api_Atlas.c (x:api_Atlas):List AV:=[.int IntKind.i64 x.Groups,.int IntKind.i64 x.Last,.sl (List.map api_Span.c x.Spans),.int IntKind.i64 x.Plan.Kind,.int IntKind.i64 x.Plan.Phase,.int IntKind.i64 x.Plan.Shard,.int IntKind.i64 x.Plan.Other,.int IntKind.i64 x.Plan.Group,.int IntKind.i64 x.Plan.Past,.int IntKind.i64 x.Plan.Epoch,.str x.Plan.Key]
def api_Atlas.ok (B:Nat) (x:api_Atlas):Prop:=okI IntKind.i64 x.Groups∧okI IntKind.i64 x.Last∧(List.length x.Spans≤B∧∀ y,y∈x.Spans→api_Span.ok B y)∧api_Plan.ok B x.Plan∧True
structure api_Shard where
  Id:Int
  Epoch:Int
  State:Int
  From:(List UInt8)
  To:(List UInt8)
  Jobs:(List api_Job)
  Seen:(List api_Seen)
  deriving Inhabited,DecidableEq
@[simp] def api_Shard.c (x:api_Shard):List AV:=[.int IntKind.i64 x.Id,.int IntKind.i64 x.Epoch,.int IntKind.i64 x.State,.str x.From,.str x.To,.sl (List.map api_Job.c x.Jobs),.sl (List.map api_Seen.c x.Seen)]
def api_Shard.ok (B:Nat) (x:api_Shard):Prop:=okI IntKind.i64 x.Id∧okI IntKind.i64 x.Epoch∧okI IntKind.i64 x.State∧List.length x.From≤B∧List.length x.To≤B∧(List.length x.Jobs≤B∧∀ y,y∈x.Jobs→api_Job.ok B y)∧(List.length x.Seen≤B∧∀ y,y∈x.Seen→api_Seen.ok B y)∧True
structure api_Cmd where
  Kind:Int
  Client:Int
  Seq:Int
  Name:(List UInt8)
  Expr:(List UInt8)
  Zone:(List UInt8)
  Token:(List UInt8)
  Time:Int
  deriving Inhabited,DecidableEq
@[simp] def api_Cmd.c (x:api_Cmd):List AV:=[.int IntKind.i64 x.Kind,.int IntKind.i64 x.Client,.int IntKind.i64 x.Seq,.str x.Name,.str x.Expr,.str x.Zone,.str x.Token,.int IntKind.i64 x.Time]
def api_Cmd.ok (B:Nat) (x:api_Cmd):Prop:=okI IntKind.i64 x.Kind∧okI IntKind.i64 x.Client∧okI IntKind.i64 x.Seq∧List.length x.Name≤B∧List.length x.Expr≤B∧List.length x.Zone≤B∧List.length x.Token≤B∧okI IntKind.i64 x.Time∧True
structure api_Order where
  Kind:Int
  Shard:Int
  Epoch:Int
  Other:Int
  Past:Int
  Key:(List UInt8)
  Cmd:api_Cmd
  State:api_Shard
  deriving Inhabited,DecidableEq
@[simp] def api_Order.c (x:api_Order):List AV:=[.int IntKind.i64 x.Kind,.int IntKind.i64 x.Shard,.int IntKind.i64 x.Epoch,.int IntKind.i64 x.Other,.int IntKind.i64 x.Past,.str x.Key,.int IntKind.i64 x.Cmd.Kind,.int IntKind.i64 x.Cmd.Client,.int IntKind.i64 x.Cmd.Seq,.str x.Cmd.Name,.str x.Cmd.Expr,.str x.Cmd.Zone,.str x.Cmd.Token,.int IntKind.i64 x.Cmd.Time,.int IntKind.i64 x.State.Id,.int IntKind.i64 x.State.Epoch,.int IntKind.i64 x.State.State,.str x.State.From,.str x.State.To,.sl (List.map api_Job.c x.State.Jobs),.sl (List.map api_Seen.c x.State.Seen)]
def api_Order.ok (B:Nat) (x:api_Order):Prop:=okI IntKind.i64 x.Kind∧okI IntKind.i64 x.Shard∧okI IntKind.i64 x.Epoch∧okI IntKind.i64 x.Other∧okI IntKind.i64 x.Past∧List.length x.Key≤B∧api_Cmd.ok B x.Cmd∧api_Shard.ok B x.State∧True
structure api_Cron where
  Minute:Int
  Hour:Int
  Day:Int
  Month:Int
  Week:Int
  AnyDay:Bool
  AnyWeek:Bool
  deriving Inhabited,DecidableEq
@[simp] def api_Cron.c (x:api_Cron):List AV:=[.int IntKind.u64 x.Minute,.int IntKind.u64 x.Hour,.int IntKind.u64 x.Day,.int IntKind.u64 x.Month,.int IntKind.u64 x.Week,.bool x.AnyDay,.bool x.AnyWeek]
def api_Cron.ok (B:Nat) (x:api_Cron):Prop:=okI IntKind.u64 x.Minute∧okI IntKind.u64 x.Hour∧okI IntKind.u64 x.Day∧okI IntKind.u64 x.Month∧okI IntKind.u64 x.Week∧True∧True∧True
structure api_Rule where
  Month:Int
  Week:Int
  Day:Int
  At:Int
  deriving Inhabited,DecidableEq
@[simp] def api_Rule.c (x:api_Rule):List AV:=[.int IntKind.i64 x.Month,.int IntKind.i64 x.Week,.int IntKind.i64 x.Day,.int IntKind.i64 x.At]
def api_Rule.ok (B:Nat) (x:api_Rule):Prop:=okI IntKind.i64 x.Month∧okI IntKind.i64 x.Week∧okI IntKind.i64 x.Day∧okI IntKind.i64 x.At∧True
structure api_Zone where
  Base:Int
  Save:Int
  On:api_Rule
  Off:api_Rule
  deriving Inhabited,DecidableEq
@[simp] def api_Zone.c (x:api_Zone):List AV:=[.int IntKind.i64 x.Base,.int IntKind.i64 x.Save,.int IntKind.i64 x.On.Month,.int IntKind.i64 x.On.Week,.int IntKind.i64 x.On.Day,.int IntKind.i64 x.On.At,.int IntKind.i64 x.Off.Month,.int IntKind.i64 x.Off.Week,.int IntKind.i64 x.Off.Day,.int IntKind.i64 x.Off.At]
def api_Zone.ok (B:Nat) (x:api_Zone):Prop:=okI IntKind.i64 x.Base∧okI IntKind.i64 x.Save∧api_Rule.ok B x.On∧api_Rule.ok B x.Off∧True
structure A_5_uint64 where
  e0:Int
  e1:Int
  e2:Int
  e3:Int
  e4:Int
  deriving Inhabited,DecidableEq
@[simp] def A_5_uint64.c (x:A_5_uint64):List AV:=[.int IntKind.u64 x.e0,.int IntKind.u64 x.e1,.int IntKind.u64 x.e2,.int IntKind.u64 x.e3,.int IntKind.u64 x.e4]
def A_5_uint64.ok (B:Nat) (x:A_5_uint64):Prop:=okI IntKind.u64 x.e0∧okI IntKind.u64 x.e1∧okI IntKind.u64 x.e2∧okI IntKind.u64 x.e3∧okI IntKind.u64 x.e4∧True
structure sync_noCopy where
  deriving Inhabited,DecidableEq
@[simp] def sync_noCopy.c (x:sync_noCopy):List AV:=[]
def sync_noCopy.ok (B:Nat) (x:sync_noCopy):Prop:=True
structure atomic_noCopy where
  deriving Inhabited,DecidableEq
@[simp] def atomic_noCopy.c (x:atomic_noCopy):List AV:=[]
def atomic_noCopy.ok (B:Nat) (x:atomic_noCopy):Prop:=True
structure atomic_Bool where
  blank0:atomic_noCopy
  v:Int
  deriving Inhabited,DecidableEq
@[simp] def atomic_Bool.c (x:atomic_Bool):List AV:=[.int IntKind.u32 x.v]
def atomic_Bool.ok (B:Nat) (x:atomic_Bool):Prop:=atomic_noCopy.ok B x.blank0∧okI IntKind.u32 x.v∧True
structure sync_Mutex where
  state:Int
  sema:Int
  deriving Inhabited,DecidableEq
@[simp] def sync_Mutex.c (x:sync_Mutex):List AV:=[.int IntKind.i32 x.state,.int IntKind.u32 x.sema]
def sync_Mutex.ok (B:Nat) (x:sync_Mutex):Prop:=okI IntKind.i32 x.state∧okI IntKind.u32 x.sema∧True
structure sync_Mutex_213 where
  blank0:sync_noCopy
  mu:sync_Mutex
  deriving Inhabited,DecidableEq
@[simp] def sync_Mutex_213.c (x:sync_Mutex_213):List AV:=[.int IntKind.i32 x.mu.state,.int IntKind.u32 x.mu.sema]
def sync_Mutex_213.ok (B:Nat) (x:sync_Mutex_213):Prop:=sync_noCopy.ok B x.blank0∧sync_Mutex.ok B x.mu∧True
structure sync_Once where
  blank0:sync_noCopy
  done:atomic_Bool
  m:sync_Mutex_213
  deriving Inhabited,DecidableEq
@[simp] def sync_Once.c (x:sync_Once):List AV:=[.int IntKind.u32 x.done.v,.int IntKind.i32 x.m.mu.state,.int IntKind.u32 x.m.mu.sema]
def sync_Once.ok (B:Nat) (x:sync_Once):Prop:=sync_noCopy.ok B x.blank0∧atomic_Bool.ok B x.done∧sync_Mutex_213.ok B x.m∧True
structure zone_turn where
  from_:Int
  offset:Int
  deriving Inhabited,DecidableEq
@[simp] def zone_turn.c (x:zone_turn):List AV:=[.int IntKind.i64 x.from_,.int IntKind.i64 x.offset]
def zone_turn.ok (B:Nat) (x:zone_turn):Prop:=okI IntKind.i64 x.from_∧okI IntKind.i64 x.offset∧True
structure zone_Zone where
  rules:api_Zone
  once:sync_Once
  turns:(List zone_turn)
  deriving Inhabited,DecidableEq
@[simp] def zone_Zone.c (x:zone_Zone):List AV:=[.int IntKind.i64 x.rules.Base,.int IntKind.i64 x.rules.Save,.int IntKind.i64 x.rules.On.Month,.int IntKind.i64 x.rules.On.Week,.int IntKind.i64 x.rules.On.Day,.int IntKind.i64 x.rules.On.At,.int IntKind.i64 x.rules.Off.Month,.int IntKind.i64 x.rules.Off.Week,.int IntKind.i64 x.rules.Off.Day,.int IntKind.i64 x.rules.Off.At,.int IntKind.u32 x.once.done.v,.int IntKind.i32 x.once.m.mu.state,.int IntKind.u32 x.once.m.mu.sema,.sl (List.map zone_turn.c x.turns)]
def zone_Zone.ok (B:Nat) (x:zone_Zone):Prop:=api_Zone.ok B x.rules∧sync_Once.ok B x.once∧(List.length x.turns≤B∧∀ y,y∈x.turns→zone_turn.ok B y)∧True
structure cron_span where
  least:Int
  most:Int
  deriving Inhabited,DecidableEq
@[simp] def cron_span.c (x:cron_span):List AV:=[.int IntKind.i64 x.least,.int IntKind.i64 x.most]
def cron_span.ok (B:Nat) (x:cron_span):Prop:=okI IntKind.i64 x.least∧okI IntKind.i64 x.most∧True
structure cron_item where
  from_:Int
  to_:Int
  step:Int
  deriving Inhabited,DecidableEq
@[simp] def cron_item.c (x:cron_item):List AV:=[.int IntKind.i64 x.from_,.int IntKind.i64 x.to_,.int IntKind.i64 x.step]
def cron_item.ok (B:Nat) (x:cron_item):Prop:=okI IntKind.i64 x.from_∧okI IntKind.i64 x.to_∧okI IntKind.i64 x.step∧True
def GM (ml:Gv):Gmap:=fun g=>match g with
  | 0=>some [.int .i64 0,.int .i64 59,.int .i64 0,.int .i64 23,.int .i64 1,.int .i64 31,.int .i64 1,.int .i64 12,.int .i64 0,.int .i64 7]
  | 1=>some (Lib.deBruijn64tab.map fun (n:Nat)=>AV.int .u8 (n:Int))
  | 2=>some [.int .i64 ml.ml]
  | 3=>some (Lib.pow10Tab.map fun (n:Int)=>AV.int .u64 n)
  | 6=>some [.con ml.e0]
  | 7=>some [.con ml.e1]
  | _=>none
end Go.T
