/-
  TyTry: the types of the program as Lean types, and how they stand as cells. Printed by a program.
-/
import Derived.Test.YtndnfbggelcpiaaAbTy
namespace Go.T
open Go Go.Ab
structure api_Span where
  From : (List UInt8)
  To : (List UInt8)
  Shard : Int
  Epoch : Int
  Group : Int
  deriving Inhabited, DecidableEq
def api_Span.c (x : api_Span) : List AV := [.str x.From, .str x.To, .int IntKind.i64 x.Shard, .int IntKind.i64 x.Epoch, .int IntKind.i64 x.Group]
def api_Span.ok (B : Nat) (x : api_Span) : Prop := List.length x.From ≤ B ∧ List.length x.To ≤ B ∧ okI IntKind.i64 x.Shard ∧ okI IntKind.i64 x.Epoch ∧ okI IntKind.i64 x.Group ∧ True
structure api_Plan where
  Kind : Int
  Phase : Int
  Shard : Int
  Other : Int
  Group : Int
  Past : Int
  Epoch : Int
  Key : (List UInt8)
  deriving Inhabited, DecidableEq
def api_Plan.c (x : api_Plan) : List AV := [.int IntKind.i64 x.Kind, .int IntKind.i64 x.Phase, .int IntKind.i64 x.Shard, .int IntKind.i64 x.Other, .int IntKind.i64 x.Group, .int IntKind.i64 x.Past, .int IntKind.i64 x.Epoch, .str x.Key]
def api_Plan.ok (B : Nat) (x : api_Plan) : Prop := okI IntKind.i64 x.Kind ∧ okI IntKind.i64 x.Phase ∧ okI IntKind.i64 x.Shard ∧ okI IntKind.i64 x.Other ∧ okI IntKind.i64 x.Group ∧ okI IntKind.i64 x.Past ∧ okI IntKind.i64 x.Epoch ∧ List.length x.Key ≤ B ∧ True
structure api_Atlas where
  Groups : Int
  Last : Int
  Spans : (List api_Span)
  Plan : api_Plan
  deriving Inhabited, DecidableEq
def api_Atlas.c (x : api_Atlas) : List AV := [.int IntKind.i64 x.Groups, .int IntKind.i64 x.Last, .sl (List.map api_Span.c x.Spans), .int IntKind.i64 x.Plan.Kind, .int IntKind.i64 x.Plan.Phase, .int IntKind.i64 x.Plan.Shard, .int IntKind.i64 x.Plan.Other, .int IntKind.i64 x.Plan.Group, .int IntKind.i64 x.Plan.Past, .int IntKind.i64 x.Plan.Epoch, .str x.Plan.Key]
def api_Atlas.ok (B : Nat) (x : api_Atlas) : Prop := okI IntKind.i64 x.Groups ∧ okI IntKind.i64 x.Last ∧ (List.length x.Spans ≤ B ∧ ∀ y, y ∈ x.Spans → api_Span.ok B y) ∧ api_Plan.ok B x.Plan ∧ True
structure api_Job where
  Name : (List UInt8)
  Expr : (List UInt8)
  Zone : (List UInt8)
  Token : (List UInt8)
  Client : Int
  Seq : Int
  Paused : Bool
  Mark : Int
  deriving Inhabited, DecidableEq
def api_Job.c (x : api_Job) : List AV := [.str x.Name, .str x.Expr, .str x.Zone, .str x.Token, .int IntKind.i64 x.Client, .int IntKind.i64 x.Seq, .bool x.Paused, .int IntKind.i64 x.Mark]
def api_Job.ok (B : Nat) (x : api_Job) : Prop := List.length x.Name ≤ B ∧ List.length x.Expr ≤ B ∧ List.length x.Zone ≤ B ∧ List.length x.Token ≤ B ∧ okI IntKind.i64 x.Client ∧ okI IntKind.i64 x.Seq ∧ True ∧ okI IntKind.i64 x.Mark ∧ True
structure api_Result where
  Err : Int
  Time : Int
  Jobs : (List api_Job)
  deriving Inhabited, DecidableEq
def api_Result.c (x : api_Result) : List AV := [.int IntKind.i64 x.Err, .int IntKind.i64 x.Time, .sl (List.map api_Job.c x.Jobs)]
def api_Result.ok (B : Nat) (x : api_Result) : Prop := okI IntKind.i64 x.Err ∧ okI IntKind.i64 x.Time ∧ (List.length x.Jobs ≤ B ∧ ∀ y, y ∈ x.Jobs → api_Job.ok B y) ∧ True
structure api_Seen where
  Client : Int
  Seq : Int
  Result : api_Result
  deriving Inhabited, DecidableEq
def api_Seen.c (x : api_Seen) : List AV := [.int IntKind.i64 x.Client, .int IntKind.i64 x.Seq, .int IntKind.i64 x.Result.Err, .int IntKind.i64 x.Result.Time, .sl (List.map api_Job.c x.Result.Jobs)]
def api_Seen.ok (B : Nat) (x : api_Seen) : Prop := okI IntKind.i64 x.Client ∧ okI IntKind.i64 x.Seq ∧ api_Result.ok B x.Result ∧ True
structure api_Shard where
  Id : Int
  Epoch : Int
  State : Int
  From : (List UInt8)
  To : (List UInt8)
  Jobs : (List api_Job)
  Seen : (List api_Seen)
  deriving Inhabited, DecidableEq
def api_Shard.c (x : api_Shard) : List AV := [.int IntKind.i64 x.Id, .int IntKind.i64 x.Epoch, .int IntKind.i64 x.State, .str x.From, .str x.To, .sl (List.map api_Job.c x.Jobs), .sl (List.map api_Seen.c x.Seen)]
def api_Shard.ok (B : Nat) (x : api_Shard) : Prop := okI IntKind.i64 x.Id ∧ okI IntKind.i64 x.Epoch ∧ okI IntKind.i64 x.State ∧ List.length x.From ≤ B ∧ List.length x.To ≤ B ∧ (List.length x.Jobs ≤ B ∧ ∀ y, y ∈ x.Jobs → api_Job.ok B y) ∧ (List.length x.Seen ≤ B ∧ ∀ y, y ∈ x.Seen → api_Seen.ok B y) ∧ True
structure api_Cmd where
  Kind : Int
  Client : Int
  Seq : Int
  Name : (List UInt8)
  Expr : (List UInt8)
  Zone : (List UInt8)
  Token : (List UInt8)
  Time : Int
  deriving Inhabited, DecidableEq
def api_Cmd.c (x : api_Cmd) : List AV := [.int IntKind.i64 x.Kind, .int IntKind.i64 x.Client, .int IntKind.i64 x.Seq, .str x.Name, .str x.Expr, .str x.Zone, .str x.Token, .int IntKind.i64 x.Time]
def api_Cmd.ok (B : Nat) (x : api_Cmd) : Prop := okI IntKind.i64 x.Kind ∧ okI IntKind.i64 x.Client ∧ okI IntKind.i64 x.Seq ∧ List.length x.Name ≤ B ∧ List.length x.Expr ≤ B ∧ List.length x.Zone ≤ B ∧ List.length x.Token ≤ B ∧ okI IntKind.i64 x.Time ∧ True
structure api_Order where
  Kind : Int
  Shard : Int
  Epoch : Int
  Other : Int
  Past : Int
  Key : (List UInt8)
  Cmd : api_Cmd
  State : api_Shard
  deriving Inhabited, DecidableEq
def api_Order.c (x : api_Order) : List AV := [.int IntKind.i64 x.Kind, .int IntKind.i64 x.Shard, .int IntKind.i64 x.Epoch, .int IntKind.i64 x.Other, .int IntKind.i64 x.Past, .str x.Key, .int IntKind.i64 x.Cmd.Kind, .int IntKind.i64 x.Cmd.Client, .int IntKind.i64 x.Cmd.Seq, .str x.Cmd.Name, .str x.Cmd.Expr, .str x.Cmd.Zone, .str x.Cmd.Token, .int IntKind.i64 x.Cmd.Time, .int IntKind.i64 x.State.Id, .int IntKind.i64 x.State.Epoch, .int IntKind.i64 x.State.State, .str x.State.From, .str x.State.To, .sl (List.map api_Job.c x.State.Jobs), .sl (List.map api_Seen.c x.State.Seen)]
def api_Order.ok (B : Nat) (x : api_Order) : Prop := okI IntKind.i64 x.Kind ∧ okI IntKind.i64 x.Shard ∧ okI IntKind.i64 x.Epoch ∧ okI IntKind.i64 x.Other ∧ okI IntKind.i64 x.Past ∧ List.length x.Key ≤ B ∧ api_Cmd.ok B x.Cmd ∧ api_Shard.ok B x.State ∧ True
structure mover_heard where
  have_ : api_Shard
  done : Int
  deriving Inhabited, DecidableEq
def mover_heard.c (x : mover_heard) : List AV := [.int IntKind.i64 x.have_.Id, .int IntKind.i64 x.have_.Epoch, .int IntKind.i64 x.have_.State, .str x.have_.From, .str x.have_.To, .sl (List.map api_Job.c x.have_.Jobs), .sl (List.map api_Seen.c x.have_.Seen), .int IntKind.i64 x.done]
def mover_heard.ok (B : Nat) (x : mover_heard) : Prop := api_Shard.ok B x.have_ ∧ okI IntKind.i64 x.done ∧ True

end Go.T
