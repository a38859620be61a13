import Derived.Test.YtjpmdkgonlmddaaGreatDoorAbJ
set_option linter.unusedVariables false
namespace Go.T
open Go Go.Ab
structure Zab where
 Term:Int
 Data:(List UInt8)
 deriving Inhabited,DecidableEq
@[simp] def Zab.c(x:Zab):List AV:=[.int IntKind.i64 x.Term,.str x.Data]
def Zab.ok(B:Nat)(x:Zab):Prop:=okI IntKind.i64 x.Term∧List.length x.Data≤B∧True
structure Zac where
 Kind:Int
 From:Int
 To:Int
 Term:Int
 Index:Int
 LogTerm:Int
 Commit:Int
 Yes:Bool
 Entries:(List Zab)
 Data:(List UInt8)
 deriving Inhabited,DecidableEq
@[simp] def Zac.c(x:Zac):List AV:=[.int IntKind.i64 x.Kind,.int IntKind.i64 x.From,.int IntKind.i64 x.To,.int IntKind.i64 x.Term,.int IntKind.i64 x.Index,.int IntKind.i64 x.LogTerm,.int IntKind.i64 x.Commit,.bool x.Yes,.sl (List.map Zab.c x.Entries),.str x.Data]
def Zac.ok(B:Nat)(x:Zac):Prop:=okI IntKind.i64 x.Kind∧okI IntKind.i64 x.From∧okI IntKind.i64 x.To∧okI IntKind.i64 x.Term∧okI IntKind.i64 x.Index∧okI IntKind.i64 x.LogTerm∧okI IntKind.i64 x.Commit∧True∧(List.length x.Entries≤B∧∀y,y∈x.Entries→Zab.ok B y)∧List.length x.Data≤B∧True
structure Zdx where
 Kind:Int
 Client:Int
 Seq:Int
 Name:(List UInt8)
 Expr:(List UInt8)
 Zone:(List UInt8)
 Token:(List UInt8)
 Time:Int
 deriving Inhabited,DecidableEq
@[simp] def Zdx.c(x:Zdx):List AV:=[.int IntKind.i64 x.Kind,.int IntKind.i64 x.Client,.int IntKind.i64 x.Seq,.str x.Name,.str x.Expr,.str x.Zone,.str x.Token,.int IntKind.i64 x.Time]
def Zdx.ok(B:Nat)(x:Zdx):Prop:=okI IntKind.i64 x.Kind∧okI IntKind.i64 x.Client∧okI IntKind.i64 x.Seq∧List.length x.Name≤B∧List.length x.Expr≤B∧List.length x.Zone≤B∧List.length x.Token≤B∧okI IntKind.i64 x.Time∧True
structure Zcw where
 Kind:Int
 Phase:Int
 Shard:Int
 Other:Int
 Group:Int
 Past:Int
 Epoch:Int
 Key:(List UInt8)
 deriving Inhabited,DecidableEq
@[simp] def Zcw.c(x:Zcw):List AV:=[.int IntKind.i64 x.Kind,.int IntKind.i64 x.Phase,.int IntKind.i64 x.Shard,.int IntKind.i64 x.Other,.int IntKind.i64 x.Group,.int IntKind.i64 x.Past,.int IntKind.i64 x.Epoch,.str x.Key]
def Zcw.ok(B:Nat)(x:Zcw):Prop:=okI IntKind.i64 x.Kind∧okI IntKind.i64 x.Phase∧okI IntKind.i64 x.Shard∧okI IntKind.i64 x.Other∧okI IntKind.i64 x.Group∧okI IntKind.i64 x.Past∧okI IntKind.i64 x.Epoch∧List.length x.Key≤B∧True
structure Zau where
 Kind:Int
 Group:Int
 Node:Int
 Other:Int
 Id:Int
 Draw:Int
 Keep:Int
 Torn:Int
 Fail:Bool
 Data:(List UInt8)
 Time:Int
 Cmd:Zdx
 Plan:Zcw
 deriving Inhabited,DecidableEq
@[simp] def Zau.c(x:Zau):List AV:=[.int IntKind.i64 x.Kind,.int IntKind.i64 x.Group,.int IntKind.i64 x.Node,.int IntKind.i64 x.Other,.int IntKind.i64 x.Id,.int IntKind.i64 x.Draw,.int IntKind.i64 x.Keep,.int IntKind.i64 x.Torn,.bool x.Fail,.str x.Data,.int IntKind.i64 x.Time,.int IntKind.i64 x.Cmd.Kind,.int IntKind.i64 x.Cmd.Client,.int IntKind.i64 x.Cmd.Seq,.str x.Cmd.Name,.str x.Cmd.Expr,.str x.Cmd.Zone,.str x.Cmd.Token,.int IntKind.i64 x.Cmd.Time,.int IntKind.i64 x.Plan.Kind,.int IntKind.i64 x.Plan.Phase,.int IntKind.i64 x.Plan.Shard,.int IntKind.i64 x.Plan.Other,.int IntKind.i64 x.Plan.Group,.int IntKind.i64 x.Plan.Past,.int IntKind.i64 x.Plan.Epoch,.str x.Plan.Key]
def Zau.ok(B:Nat)(x:Zau):Prop:=okI IntKind.i64 x.Kind∧okI IntKind.i64 x.Group∧okI IntKind.i64 x.Node∧okI IntKind.i64 x.Other∧okI IntKind.i64 x.Id∧okI IntKind.i64 x.Draw∧okI IntKind.i64 x.Keep∧okI IntKind.i64 x.Torn∧True∧List.length x.Data≤B∧okI IntKind.i64 x.Time∧Zdx.ok B x.Cmd∧Zcw.ok B x.Plan∧True
structure Zfk where
 Up:Bool
 Role:Int
 Term:Int
 Vote:Int
 Commit:Int
 Base:Int
 Count:Int
 Sum:Int
 deriving Inhabited,DecidableEq
@[simp] def Zfk.c(x:Zfk):List AV:=[.bool x.Up,.int IntKind.i64 x.Role,.int IntKind.i64 x.Term,.int IntKind.i64 x.Vote,.int IntKind.i64 x.Commit,.int IntKind.i64 x.Base,.int IntKind.i64 x.Count,.int IntKind.u32 x.Sum]
def Zfk.ok(B:Nat)(x:Zfk):Prop:=True∧okI IntKind.i64 x.Role∧okI IntKind.i64 x.Term∧okI IntKind.i64 x.Vote∧okI IntKind.i64 x.Commit∧okI IntKind.i64 x.Base∧okI IntKind.i64 x.Count∧okI IntKind.u32 x.Sum∧True
structure Zae where
 Id:Int
 From:Int
 To:Int
 Body:(List UInt8)
 deriving Inhabited,DecidableEq
@[simp] def Zae.c(x:Zae):List AV:=[.int IntKind.i64 x.Id,.int IntKind.i64 x.From,.int IntKind.i64 x.To,.str x.Body]
def Zae.ok(B:Nat)(x:Zae):Prop:=okI IntKind.i64 x.Id∧okI IntKind.i64 x.From∧okI IntKind.i64 x.To∧List.length x.Body≤B∧True
structure Zai where
 Id:Int
 At:Int
 deriving Inhabited,DecidableEq
@[simp] def Zai.c(x:Zai):List AV:=[.int IntKind.i64 x.Id,.int IntKind.i64 x.At]
def Zai.ok(B:Nat)(x:Zai):Prop:=okI IntKind.i64 x.Id∧okI IntKind.i64 x.At∧True
structure Zaf where
 Kind:Int
 N:Int
 S:(List UInt8)
 deriving Inhabited,DecidableEq
@[simp] def Zaf.c(x:Zaf):List AV:=[.int IntKind.i64 x.Kind,.int IntKind.i64 x.N,.str x.S]
def Zaf.ok(B:Nat)(x:Zaf):Prop:=okI IntKind.i64 x.Kind∧okI IntKind.i64 x.N∧List.length x.S≤B∧True
structure Zag where
 Base:Int
 BaseTerm:Int
 Entries:(List Zab)
 deriving Inhabited,DecidableEq
@[simp] def Zag.c(x:Zag):List AV:=[.int IntKind.i64 x.Base,.int IntKind.i64 x.BaseTerm,.sl (List.map Zab.c x.Entries)]
def Zag.ok(B:Nat)(x:Zag):Prop:=okI IntKind.i64 x.Base∧okI IntKind.i64 x.BaseTerm∧(List.length x.Entries≤B∧∀y,y∈x.Entries→Zab.ok B y)∧True
structure Zad where
 Id:Int
 Conf:(List Int)
 Term:Int
 Vote:Int
 Role:Int
 Leader:Int
 Trail:Zag
 Snap:(List UInt8)
 Commit:Int
 Left:Int
 Wait:Int
 Votes:(List Int)
 Next:(List Int)
 Match:(List Int)
 deriving Inhabited,DecidableEq
@[simp] def Zad.c(x:Zad):List AV:=[.int IntKind.i64 x.Id,.sl (List.map (cInt IntKind.i64) x.Conf),.int IntKind.i64 x.Term,.int IntKind.i64 x.Vote,.int IntKind.i64 x.Role,.int IntKind.i64 x.Leader,.int IntKind.i64 x.Trail.Base,.int IntKind.i64 x.Trail.BaseTerm,.sl (List.map Zab.c x.Trail.Entries),.str x.Snap,.int IntKind.i64 x.Commit,.int IntKind.i64 x.Left,.int IntKind.i64 x.Wait,.sl (List.map (cInt IntKind.i64) x.Votes),.sl (List.map (cInt IntKind.i64) x.Next),.sl (List.map (cInt IntKind.i64) x.Match)]
def Zad.ok(B:Nat)(x:Zad):Prop:=okI IntKind.i64 x.Id∧(List.length x.Conf≤B∧∀y,y∈x.Conf→okI IntKind.i64 y)∧okI IntKind.i64 x.Term∧okI IntKind.i64 x.Vote∧okI IntKind.i64 x.Role∧okI IntKind.i64 x.Leader∧Zag.ok B x.Trail∧List.length x.Snap≤B∧okI IntKind.i64 x.Commit∧okI IntKind.i64 x.Left∧okI IntKind.i64 x.Wait∧(List.length x.Votes≤B∧∀y,y∈x.Votes→okI IntKind.i64 y)∧(List.length x.Next≤B∧∀y,y∈x.Next→okI IntKind.i64 y)∧(List.length x.Match≤B∧∀y,y∈x.Match→okI IntKind.i64 y)∧True
structure Zaa where
 name:(List UInt8)
 size:Int
 deriving Inhabited,DecidableEq
@[simp] def Zaa.c(x:Zaa):List AV:=[.str x.name,.int IntKind.i64 x.size]
def Zaa.ok(B:Nat)(x:Zaa):Prop:=List.length x.name≤B∧okI IntKind.i64 x.size∧True
structure mesh_pair where
 a:Int
 b:Int
 deriving Inhabited,DecidableEq
@[simp] def mesh_pair.c(x:mesh_pair):List AV:=[.int IntKind.i64 x.a,.int IntKind.i64 x.b]
def mesh_pair.ok(B:Nat)(x:mesh_pair):Prop:=okI IntKind.i64 x.a∧okI IntKind.i64 x.b∧True
structure Zah where
 Id:Int
 Conf:(List Int)
 Term:Int
 Vote:Int
 Role:Int
 Leader:Int
 Trail:Zag
 Snap:(List UInt8)
 Commit:Int
 Left:Int
 Wait:Int
 deriving Inhabited,DecidableEq
@[simp] def Zah.c(x:Zah):List AV:=[.int IntKind.i64 x.Id,.sl (List.map (cInt IntKind.i64) x.Conf),.int IntKind.i64 x.Term,.int IntKind.i64 x.Vote,.int IntKind.i64 x.Role,.int IntKind.i64 x.Leader,.int IntKind.i64 x.Trail.Base,.int IntKind.i64 x.Trail.BaseTerm,.sl (List.map Zab.c x.Trail.Entries),.str x.Snap,.int IntKind.i64 x.Commit,.int IntKind.i64 x.Left,.int IntKind.i64 x.Wait]
def Zah.ok(B:Nat)(x:Zah):Prop:=okI IntKind.i64 x.Id∧(List.length x.Conf≤B∧∀y,y∈x.Conf→okI IntKind.i64 y)∧okI IntKind.i64 x.Term∧okI IntKind.i64 x.Vote∧okI IntKind.i64 x.Role∧okI IntKind.i64 x.Leader∧Zag.ok B x.Trail∧List.length x.Snap≤B∧okI IntKind.i64 x.Commit∧okI IntKind.i64 x.Left∧okI IntKind.i64 x.Wait∧True
def GM(ml:Gv):Gmap:=fun g=>match g with
 |0=>some [.con ml.e0]
 |1=>some [.con ml.e1]
 |2=>some (Lib.pow10Tab.map fun(n:Int)=>AV.int .u64 n)
 |4=>some (Lib.deBruijn64tab.map fun(n:Nat)=>AV.int .u8 (n:Int))
 |_=>none
structure group_nodeD where
 files:List (List UInt8×List Int)
 waits:List Zaa
 total:Int
 raft:Zad
 count:Int
 sum:Int
 deriving Inhabited,DecidableEq
structure group_nodeU where
 files:List (List UInt8×List Int)
 waits:List Zaa
 total:Int
 file:List UInt8
 last:Int
 recs:Int
 kept:Zad
 raft:Zad
 count:Int
 sum:Int
 deriving Inhabited,DecidableEq
abbrev group_node:=group_nodeD⊕group_nodeU
def group_node.g:group_node→Gr
 |.inl x=>[([],.rows false [AV.ptr 1 0 0::AV.con (.pointer none)::(Zad.c x.raft++[.bool false,.int .i64 x.count,.int .u32 x.sum])]),([0],.rows false [[.mapo 2,.osw 3 2,.int .i64 x.total]]),
  ([0,0],.fmap 1 (encF (fun k=>AV.str k) (cInt .u8) x.files)),([1,0],.rows true (List.map Zaa.c x.waits))]
 |.inr x=>[([],.rows false [AV.ptr 1 0 0::AV.ptr 4 0 0::(Zad.c x.raft++[.bool true,.int .i64 x.count,.int .u32 x.sum])]),([0],.rows false [[.mapo 2,.osw 3 2,.int .i64 x.total]]),
  ([0,0],.fmap 1 (encF (fun k=>AV.str k) (cInt .u8) x.files)),([1,0],.rows true (List.map Zaa.c x.waits)),
  ([1],.rows false [AV.ptr 5 0 0::Zad.c x.kept]),([0,1],.rows false [[.ptr 1 0 0,.str x.file,.int .i64 x.last,.int .i64 x.recs]])]
end Go.T
