/-
  TyMv: the types of the program as Lean types,and how they stand as cells. Printed by a program.
-/
import Derived.Test.YthohllgoneadhaaGreatDoorAbI
namespace Go.T
open Go Go.Ab
structure Zaf where
  Name:(List UInt8)
  Expr:(List UInt8)
  Zone:(List UInt8)
  Token:(List UInt8)
  Client:Int
  Seq:Int
  Paused:Bool
  Mark:Int
  deriving Inhabited,DecidableEq
@[simp] def Zaf.c (x:Zaf):List AV:=[.str x.Name,.str x.Expr,.str x.Zone,.str x.Token,.int IntKind.i64 x.Client,.int IntKind.i64 x.Seq,.bool x.Paused,.int IntKind.i64 x.Mark]
def Zaf.ok (B:Nat) (x:Zaf):Prop:=List.length x.Name≤B∧List.length x.Expr≤B∧List.length x.Zone≤B∧List.length x.Token≤B∧okI IntKind.i64 x.Client∧okI IntKind.i64 x.Seq∧True∧okI IntKind.i64 x.Mark∧True
structure Zam where
  Err:Int
  Time:Int
  Jobs:(List Zaf)
  deriving Inhabited,DecidableEq
@[simp] def Zam.c (x:Zam):List AV:=[.int IntKind.i64 x.Err,.int IntKind.i64 x.Time,.sl (List.map Zaf.c x.Jobs)]
def Zam.ok (B:Nat) (x:Zam):Prop:=okI IntKind.i64 x.Err∧okI IntKind.i64 x.Time∧(List.length x.Jobs≤B∧∀ y,y∈x.Jobs→Zaf.ok B y)∧True
structure Zac where
  Client:Int
  Seq:Int
  Result:Zam
  deriving Inhabited,DecidableEq
@[simp] def Zac.c (x:Zac):List AV:=[.int IntKind.i64 x.Client,.int IntKind.i64 x.Seq,.int IntKind.i64 x.Result.Err,.int IntKind.i64 x.Result.Time,.sl (List.map Zaf.c x.Result.Jobs)]
def Zac.ok (B:Nat) (x:Zac):Prop:=okI IntKind.i64 x.Client∧okI IntKind.i64 x.Seq∧Zam.ok B x.Result∧True
structure Zap where
  Kind:Int
  Phase:Int
  Shard:Int
  Other:Int
  Group:Int
  Past:Int
  Epoch:Int
  Key:(List UInt8)
  deriving Inhabited,DecidableEq
@[simp] def Zap.c (x:Zap):List AV:=[.int IntKind.i64 x.Kind,.int IntKind.i64 x.Phase,.int IntKind.i64 x.Shard,.int IntKind.i64 x.Other,.int IntKind.i64 x.Group,.int IntKind.i64 x.Past,.int IntKind.i64 x.Epoch,.str x.Key]
def Zap.ok (B:Nat) (x:Zap):Prop:=okI IntKind.i64 x.Kind∧okI IntKind.i64 x.Phase∧okI IntKind.i64 x.Shard∧okI IntKind.i64 x.Other∧okI IntKind.i64 x.Group∧okI IntKind.i64 x.Past∧okI IntKind.i64 x.Epoch∧List.length x.Key≤B∧True
structure Zar where
  Kind:Int
  Plan:Zap
  deriving Inhabited,DecidableEq
@[simp] def Zar.c (x:Zar):List AV:=[.int IntKind.i64 x.Kind,.int IntKind.i64 x.Plan.Kind,.int IntKind.i64 x.Plan.Phase,.int IntKind.i64 x.Plan.Shard,.int IntKind.i64 x.Plan.Other,.int IntKind.i64 x.Plan.Group,.int IntKind.i64 x.Plan.Past,.int IntKind.i64 x.Plan.Epoch,.str x.Plan.Key]
def Zar.ok (B:Nat) (x:Zar):Prop:=okI IntKind.i64 x.Kind∧Zap.ok B x.Plan∧True
structure Zab where
  From:(List UInt8)
  To:(List UInt8)
  Shard:Int
  Epoch:Int
  Group:Int
  deriving Inhabited,DecidableEq
@[simp] def Zab.c (x:Zab):List AV:=[.str x.From,.str x.To,.int IntKind.i64 x.Shard,.int IntKind.i64 x.Epoch,.int IntKind.i64 x.Group]
def Zab.ok (B:Nat) (x:Zab):Prop:=List.length x.From≤B∧List.length x.To≤B∧okI IntKind.i64 x.Shard∧okI IntKind.i64 x.Epoch∧okI IntKind.i64 x.Group∧True
structure Zag where
  Groups:Int
  Last:Int
  Spans:(List Zab)
  Plan:Zap
  deriving Inhabited,DecidableEq
@[simp] def Zag.c (x:Zag):List AV:=[.int IntKind.i64 x.Groups,.int IntKind.i64 x.Last,.sl (List.map Zab.c x.Spans),.int IntKind.i64 x.Plan.Kind,.int IntKind.i64 x.Plan.Phase,.int IntKind.i64 x.Plan.Shard,.int IntKind.i64 x.Plan.Other,.int IntKind.i64 x.Plan.Group,.int IntKind.i64 x.Plan.Past,.int IntKind.i64 x.Plan.Epoch,.str x.Plan.Key]
def Zag.ok (B:Nat) (x:Zag):Prop:=okI IntKind.i64 x.Groups∧okI IntKind.i64 x.Last∧(List.length x.Spans≤B∧∀ y,y∈x.Spans→Zab.ok B y)∧Zap.ok B x.Plan∧True
structure Zaa where
  Id:Int
  Epoch:Int
  State:Int
  From:(List UInt8)
  To:(List UInt8)
  Jobs:(List Zaf)
  Seen:(List Zac)
  deriving Inhabited,DecidableEq
@[simp] def Zaa.c (x:Zaa):List AV:=[.int IntKind.i64 x.Id,.int IntKind.i64 x.Epoch,.int IntKind.i64 x.State,.str x.From,.str x.To,.sl (List.map Zaf.c x.Jobs),.sl (List.map Zac.c x.Seen)]
def Zaa.ok (B:Nat) (x:Zaa):Prop:=okI IntKind.i64 x.Id∧okI IntKind.i64 x.Epoch∧okI IntKind.i64 x.State∧List.length x.From≤B∧List.length x.To≤B∧(List.length x.Jobs≤B∧∀ y,y∈x.Jobs→Zaf.ok B y)∧(List.length x.Seen≤B∧∀ y,y∈x.Seen→Zac.ok B y)∧True
structure ZdI where
  Kind:Int
  Client:Int
  Seq:Int
  Name:(List UInt8)
  Expr:(List UInt8)
  Zone:(List UInt8)
  Token:(List UInt8)
  Time:Int
  deriving Inhabited,DecidableEq
@[simp] def ZdI.c (x:ZdI):List AV:=[.int IntKind.i64 x.Kind,.int IntKind.i64 x.Client,.int IntKind.i64 x.Seq,.str x.Name,.str x.Expr,.str x.Zone,.str x.Token,.int IntKind.i64 x.Time]
def ZdI.ok (B:Nat) (x:ZdI):Prop:=okI IntKind.i64 x.Kind∧okI IntKind.i64 x.Client∧okI IntKind.i64 x.Seq∧List.length x.Name≤B∧List.length x.Expr≤B∧List.length x.Zone≤B∧List.length x.Token≤B∧okI IntKind.i64 x.Time∧True
structure Zae where
  Kind:Int
  Shard:Int
  Epoch:Int
  Other:Int
  Past:Int
  Key:(List UInt8)
  Cmd:ZdI
  State:Zaa
  deriving Inhabited,DecidableEq
@[simp] def Zae.c (x:Zae):List AV:=[.int IntKind.i64 x.Kind,.int IntKind.i64 x.Shard,.int IntKind.i64 x.Epoch,.int IntKind.i64 x.Other,.int IntKind.i64 x.Past,.str x.Key,.int IntKind.i64 x.Cmd.Kind,.int IntKind.i64 x.Cmd.Client,.int IntKind.i64 x.Cmd.Seq,.str x.Cmd.Name,.str x.Cmd.Expr,.str x.Cmd.Zone,.str x.Cmd.Token,.int IntKind.i64 x.Cmd.Time,.int IntKind.i64 x.State.Id,.int IntKind.i64 x.State.Epoch,.int IntKind.i64 x.State.State,.str x.State.From,.str x.State.To,.sl (List.map Zaf.c x.State.Jobs),.sl (List.map Zac.c x.State.Seen)]
def Zae.ok (B:Nat) (x:Zae):Prop:=okI IntKind.i64 x.Kind∧okI IntKind.i64 x.Shard∧okI IntKind.i64 x.Epoch∧okI IntKind.i64 x.Other∧okI IntKind.i64 x.Past∧List.length x.Key≤B∧ZdI.ok B x.Cmd∧Zaa.ok B x.State∧True
structure ZbI where
  Minute:Int
  Hour:Int
  Day:Int
  Month:Int
  Week:Int
  AnyDay:Bool
  AnyWeek:Bool
  deriving Inhabited,DecidableEq
@[simp] def ZbI.c (x:ZbI):List AV:=[.int IntKind.u64 x.Minute,.int IntKind.u64 x.Hour,.int IntKind.u64 x.Day,.int IntKind.u64 x.Month,.int IntKind.u64 x.Week,.bool x.AnyDay,.bool x.AnyWeek]
def ZbI.ok (B:Nat) (x:ZbI):Prop:=okI IntKind.u64 x.Minute∧okI IntKind.u64 x.Hour∧okI IntKind.u64 x.Day∧okI IntKind.u64 x.Month∧okI IntKind.u64 x.Week∧True∧True∧True
structure ZcK where
  Month:Int
  Week:Int
  Day:Int
  At:Int
  deriving Inhabited,DecidableEq
@[simp] def ZcK.c (x:ZcK):List AV:=[.int IntKind.i64 x.Month,.int IntKind.i64 x.Week,.int IntKind.i64 x.Day,.int IntKind.i64 x.At]
def ZcK.ok (B:Nat) (x:ZcK):Prop:=okI IntKind.i64 x.Month∧okI IntKind.i64 x.Week∧okI IntKind.i64 x.Day∧okI IntKind.i64 x.At∧True
structure ZbT where
  Base:Int
  Save:Int
  On:ZcK
  Off:ZcK
  deriving Inhabited,DecidableEq
@[simp] def ZbT.c (x:ZbT):List AV:=[.int IntKind.i64 x.Base,.int IntKind.i64 x.Save,.int IntKind.i64 x.On.Month,.int IntKind.i64 x.On.Week,.int IntKind.i64 x.On.Day,.int IntKind.i64 x.On.At,.int IntKind.i64 x.Off.Month,.int IntKind.i64 x.Off.Week,.int IntKind.i64 x.Off.Day,.int IntKind.i64 x.Off.At]
def ZbT.ok (B:Nat) (x:ZbT):Prop:=okI IntKind.i64 x.Base∧okI IntKind.i64 x.Save∧ZcK.ok B x.On∧ZcK.ok B x.Off∧True
structure Zcu where
  e0:Int
  e1:Int
  e2:Int
  e3:Int
  e4:Int
  deriving Inhabited,DecidableEq
@[simp] def Zcu.c (x:Zcu):List AV:=[.int IntKind.u64 x.e0,.int IntKind.u64 x.e1,.int IntKind.u64 x.e2,.int IntKind.u64 x.e3,.int IntKind.u64 x.e4]
def Zcu.ok (B:Nat) (x:Zcu):Prop:=okI IntKind.u64 x.e0∧okI IntKind.u64 x.e1∧okI IntKind.u64 x.e2∧okI IntKind.u64 x.e3∧okI IntKind.u64 x.e4∧True
structure ZbO where
  deriving Inhabited,DecidableEq
@[simp] def ZbO.c (x:ZbO):List AV:=[]
def ZbO.ok (B:Nat) (x:ZbO):Prop:=True
structure Zcc where
  deriving Inhabited,DecidableEq
@[simp] def Zcc.c (x:Zcc):List AV:=[]
def Zcc.ok (B:Nat) (x:Zcc):Prop:=True
structure Zc4 where
  blank0:Zcc
  v:Int
  deriving Inhabited,DecidableEq
@[simp] def Zc4.c (x:Zc4):List AV:=[.int IntKind.u32 x.v]
def Zc4.ok (B:Nat) (x:Zc4):Prop:=Zcc.ok B x.blank0∧okI IntKind.u32 x.v∧True
structure Zeg where
  state:Int
  sema:Int
  deriving Inhabited,DecidableEq
@[simp] def Zeg.c (x:Zeg):List AV:=[.int IntKind.i32 x.state,.int IntKind.u32 x.sema]
def Zeg.ok (B:Nat) (x:Zeg):Prop:=okI IntKind.i32 x.state∧okI IntKind.u32 x.sema∧True
structure ZbW where
  blank0:ZbO
  mu:Zeg
  deriving Inhabited,DecidableEq
@[simp] def ZbW.c (x:ZbW):List AV:=[.int IntKind.i32 x.mu.state,.int IntKind.u32 x.mu.sema]
def ZbW.ok (B:Nat) (x:ZbW):Prop:=ZbO.ok B x.blank0∧Zeg.ok B x.mu∧True
structure ZdY where
  blank0:ZbO
  done:Zc4
  m:ZbW
  deriving Inhabited,DecidableEq
@[simp] def ZdY.c (x:ZdY):List AV:=[.int IntKind.u32 x.done.v,.int IntKind.i32 x.m.mu.state,.int IntKind.u32 x.m.mu.sema]
def ZdY.ok (B:Nat) (x:ZdY):Prop:=ZbO.ok B x.blank0∧Zc4.ok B x.done∧ZbW.ok B x.m∧True
structure ZeD where
  from_:Int
  offset:Int
  deriving Inhabited,DecidableEq
@[simp] def ZeD.c (x:ZeD):List AV:=[.int IntKind.i64 x.from_,.int IntKind.i64 x.offset]
def ZeD.ok (B:Nat) (x:ZeD):Prop:=okI IntKind.i64 x.from_∧okI IntKind.i64 x.offset∧True
structure Zcv where
  rules:ZbT
  once:ZdY
  turns:(List ZeD)
  deriving Inhabited,DecidableEq
@[simp] def Zcv.c (x:Zcv):List AV:=[.int IntKind.i64 x.rules.Base,.int IntKind.i64 x.rules.Save,.int IntKind.i64 x.rules.On.Month,.int IntKind.i64 x.rules.On.Week,.int IntKind.i64 x.rules.On.Day,.int IntKind.i64 x.rules.On.At,.int IntKind.i64 x.rules.Off.Month,.int IntKind.i64 x.rules.Off.Week,.int IntKind.i64 x.rules.Off.Day,.int IntKind.i64 x.rules.Off.At,.int IntKind.u32 x.once.done.v,.int IntKind.i32 x.once.m.mu.state,.int IntKind.u32 x.once.m.mu.sema,.sl (List.map ZeD.c x.turns)]
def Zcv.ok (B:Nat) (x:Zcv):Prop:=ZbT.ok B x.rules∧ZdY.ok B x.once∧(List.length x.turns≤B∧∀ y,y∈x.turns→ZeD.ok B y)∧True
structure Zd7 where
  least:Int
  most:Int
  deriving Inhabited,DecidableEq
@[simp] def Zd7.c (x:Zd7):List AV:=[.int IntKind.i64 x.least,.int IntKind.i64 x.most]
def Zd7.ok (B:Nat) (x:Zd7):Prop:=okI IntKind.i64 x.least∧okI IntKind.i64 x.most∧True
structure Zb8 where
  from_:Int
  to_:Int
  step:Int
  deriving Inhabited,DecidableEq
@[simp] def Zb8.c (x:Zb8):List AV:=[.int IntKind.i64 x.from_,.int IntKind.i64 x.to_,.int IntKind.i64 x.step]
def Zb8.ok (B:Nat) (x:Zb8):Prop:=okI IntKind.i64 x.from_∧okI IntKind.i64 x.to_∧okI IntKind.i64 x.step∧True
def GM (ml:Gv):Gmap:=fun g=>match g with
  | 0=>some [.int .i64 0,.int .i64 59,.int .i64 0,.int .i64 23,.int .i64 1,.int .i64 31,.int .i64 1,.int .i64 12,.int .i64 0,.int .i64 7]
  | 1=>some (Lib.deBruijn64tab.map fun (n:Nat)=>AV.int .u8 (n:Int))
  | 2=>some [.int .i64 ml.ml]
  | 3=>some (Lib.pow10Tab.map fun (n:Int)=>AV.int .u64 n)
  | 6=>some [.con ml.e0]
  | 7=>some [.con ml.e1]
  | _=>none
end Go.T
