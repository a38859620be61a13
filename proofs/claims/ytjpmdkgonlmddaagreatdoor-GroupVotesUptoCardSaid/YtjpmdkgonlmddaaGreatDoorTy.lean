import Derived.Test.YtjpmdkgonlmddaaGreatDoorAbJ
set_option linter.unusedVariables false
namespace Go.T
open Go Go.Ab
structure bj where
 Term:Int
 Data:(List UInt8)
 deriving Inhabited,DecidableEq
@[simp] def bj.c(x:bj):List AV:=[.int IntKind.i64 x.Term,.str x.Data]
def bj.ok(B:Nat)(x:bj):Prop:=dX IntKind.i64 x.Term∧List.length x.Data≤B∧True
structure bV where
 Kind:Int
 eC:Int
 To:Int
 Term:Int
 Index:Int
 da:Int
 aj:Int
 yN:Bool
 Entries:(List bj)
 Data:(List UInt8)
 deriving Inhabited,DecidableEq
@[simp] def bV.c(x:bV):List AV:=[.int IntKind.i64 x.Kind,.int IntKind.i64 x.eC,.int IntKind.i64 x.To,.int IntKind.i64 x.Term,.int IntKind.i64 x.Index,.int IntKind.i64 x.da,.int IntKind.i64 x.aj,.bool x.yN,.sl (List.map bj.c x.Entries),.str x.Data]
def bV.ok(B:Nat)(x:bV):Prop:=dX IntKind.i64 x.Kind∧dX IntKind.i64 x.eC∧dX IntKind.i64 x.To∧dX IntKind.i64 x.Term∧dX IntKind.i64 x.Index∧dX IntKind.i64 x.da∧dX IntKind.i64 x.aj∧True∧(List.length x.Entries≤B∧∀y,y∈x.Entries→bj.ok B y)∧List.length x.Data≤B∧True
structure nh where
 Kind:Int
 Client:Int
 Seq:Int
 Name:(List UInt8)
 Expr:(List UInt8)
 sU:(List UInt8)
 Token:(List UInt8)
 Time:Int
 deriving Inhabited,DecidableEq
@[simp] def nh.c(x:nh):List AV:=[.int IntKind.i64 x.Kind,.int IntKind.i64 x.Client,.int IntKind.i64 x.Seq,.str x.Name,.str x.Expr,.str x.sU,.str x.Token,.int IntKind.i64 x.Time]
def nh.ok(B:Nat)(x:nh):Prop:=dX IntKind.i64 x.Kind∧dX IntKind.i64 x.Client∧dX IntKind.i64 x.Seq∧List.length x.Name≤B∧List.length x.Expr≤B∧List.length x.sU≤B∧List.length x.Token≤B∧dX IntKind.i64 x.Time∧True
structure ni where
 Kind:Int
 Phase:Int
 ou:Int
 fu:Int
 jc:Int
 tw:Int
 oC:Int
 Key:(List UInt8)
 deriving Inhabited,DecidableEq
@[simp] def ni.c(x:ni):List AV:=[.int IntKind.i64 x.Kind,.int IntKind.i64 x.Phase,.int IntKind.i64 x.ou,.int IntKind.i64 x.fu,.int IntKind.i64 x.jc,.int IntKind.i64 x.tw,.int IntKind.i64 x.oC,.str x.Key]
def ni.ok(B:Nat)(x:ni):Prop:=dX IntKind.i64 x.Kind∧dX IntKind.i64 x.Phase∧dX IntKind.i64 x.ou∧dX IntKind.i64 x.fu∧dX IntKind.i64 x.jc∧dX IntKind.i64 x.tw∧dX IntKind.i64 x.oC∧List.length x.Key≤B∧True
structure dP where
 Kind:Int
 jc:Int
 Node:Int
 fu:Int
 Id:Int
 ph:Int
 lQ:Int
 lO:Int
 lR:Bool
 Data:(List UInt8)
 Time:Int
 lX:nh
 ia:ni
 deriving Inhabited,DecidableEq
@[simp] def dP.c(x:dP):List AV:=[.int IntKind.i64 x.Kind,.int IntKind.i64 x.jc,.int IntKind.i64 x.Node,.int IntKind.i64 x.fu,.int IntKind.i64 x.Id,.int IntKind.i64 x.ph,.int IntKind.i64 x.lQ,.int IntKind.i64 x.lO,.bool x.lR,.str x.Data,.int IntKind.i64 x.Time,.int IntKind.i64 x.lX.Kind,.int IntKind.i64 x.lX.Client,.int IntKind.i64 x.lX.Seq,.str x.lX.Name,.str x.lX.Expr,.str x.lX.sU,.str x.lX.Token,.int IntKind.i64 x.lX.Time,.int IntKind.i64 x.ia.Kind,.int IntKind.i64 x.ia.Phase,.int IntKind.i64 x.ia.ou,.int IntKind.i64 x.ia.fu,.int IntKind.i64 x.ia.jc,.int IntKind.i64 x.ia.tw,.int IntKind.i64 x.ia.oC,.str x.ia.Key]
def dP.ok(B:Nat)(x:dP):Prop:=dX IntKind.i64 x.Kind∧dX IntKind.i64 x.jc∧dX IntKind.i64 x.Node∧dX IntKind.i64 x.fu∧dX IntKind.i64 x.Id∧dX IntKind.i64 x.ph∧dX IntKind.i64 x.lQ∧dX IntKind.i64 x.lO∧True∧List.length x.Data≤B∧dX IntKind.i64 x.Time∧nh.ok B x.lX∧ni.ok B x.ia∧True
structure iN where
 Up:Bool
 bx:Int
 Term:Int
 bg:Int
 aj:Int
 ar:Int
 Count:Int
 Sum:Int
 deriving Inhabited,DecidableEq
@[simp] def iN.c(x:iN):List AV:=[.bool x.Up,.int IntKind.i64 x.bx,.int IntKind.i64 x.Term,.int IntKind.i64 x.bg,.int IntKind.i64 x.aj,.int IntKind.i64 x.ar,.int IntKind.i64 x.Count,.int IntKind.u32 x.Sum]
def iN.ok(B:Nat)(x:iN):Prop:=True∧dX IntKind.i64 x.bx∧dX IntKind.i64 x.Term∧dX IntKind.i64 x.bg∧dX IntKind.i64 x.aj∧dX IntKind.i64 x.ar∧dX IntKind.i64 x.Count∧dX IntKind.u32 x.Sum∧True
structure bQ where
 Id:Int
 eC:Int
 To:Int
 Body:(List UInt8)
 deriving Inhabited,DecidableEq
@[simp] def bQ.c(x:bQ):List AV:=[.int IntKind.i64 x.Id,.int IntKind.i64 x.eC,.int IntKind.i64 x.To,.str x.Body]
def bQ.ok(B:Nat)(x:bQ):Prop:=dX IntKind.i64 x.Id∧dX IntKind.i64 x.eC∧dX IntKind.i64 x.To∧List.length x.Body≤B∧True
structure cq where
 Id:Int
 At:Int
 deriving Inhabited,DecidableEq
@[simp] def cq.c(x:cq):List AV:=[.int IntKind.i64 x.Id,.int IntKind.i64 x.At]
def cq.ok(B:Nat)(x:cq):Prop:=dX IntKind.i64 x.Id∧dX IntKind.i64 x.At∧True
structure bW where
 Kind:Int
 N:Int
 S:(List UInt8)
 deriving Inhabited,DecidableEq
@[simp] def bW.c(x:bW):List AV:=[.int IntKind.i64 x.Kind,.int IntKind.i64 x.N,.str x.S]
def bW.ok(B:Nat)(x:bW):Prop:=dX IntKind.i64 x.Kind∧dX IntKind.i64 x.N∧List.length x.S≤B∧True
structure cD where
 ar:Int
 aq:Int
 Entries:(List bj)
 deriving Inhabited,DecidableEq
@[simp] def cD.c(x:cD):List AV:=[.int IntKind.i64 x.ar,.int IntKind.i64 x.aq,.sl (List.map bj.c x.Entries)]
def cD.ok(B:Nat)(x:cD):Prop:=dX IntKind.i64 x.ar∧dX IntKind.i64 x.aq∧(List.length x.Entries≤B∧∀y,y∈x.Entries→bj.ok B y)∧True
structure bn where
 Id:Int
 au:(List Int)
 Term:Int
 bg:Int
 bx:Int
 bf:Int
 Trail:cD
 bM:(List UInt8)
 aj:Int
 Left:Int
 bY:Int
 bB:(List Int)
 Next:(List Int)
 Match:(List Int)
 deriving Inhabited,DecidableEq
@[simp] def bn.c(x:bn):List AV:=[.int IntKind.i64 x.Id,.sl (List.map (bG IntKind.i64) x.au),.int IntKind.i64 x.Term,.int IntKind.i64 x.bg,.int IntKind.i64 x.bx,.int IntKind.i64 x.bf,.int IntKind.i64 x.Trail.ar,.int IntKind.i64 x.Trail.aq,.sl (List.map bj.c x.Trail.Entries),.str x.bM,.int IntKind.i64 x.aj,.int IntKind.i64 x.Left,.int IntKind.i64 x.bY,.sl (List.map (bG IntKind.i64) x.bB),.sl (List.map (bG IntKind.i64) x.Next),.sl (List.map (bG IntKind.i64) x.Match)]
def bn.ok(B:Nat)(x:bn):Prop:=dX IntKind.i64 x.Id∧(List.length x.au≤B∧∀y,y∈x.au→dX IntKind.i64 y)∧dX IntKind.i64 x.Term∧dX IntKind.i64 x.bg∧dX IntKind.i64 x.bx∧dX IntKind.i64 x.bf∧cD.ok B x.Trail∧List.length x.bM≤B∧dX IntKind.i64 x.aj∧dX IntKind.i64 x.Left∧dX IntKind.i64 x.bY∧(List.length x.bB≤B∧∀y,y∈x.bB→dX IntKind.i64 y)∧(List.length x.Next≤B∧∀y,y∈x.Next→dX IntKind.i64 y)∧(List.length x.Match≤B∧∀y,y∈x.Match→dX IntKind.i64 y)∧True
structure bp where
 name:(List UInt8)
 size:Int
 deriving Inhabited,DecidableEq
@[simp] def bp.c(x:bp):List AV:=[.str x.name,.int IntKind.i64 x.size]
def bp.ok(B:Nat)(x:bp):Prop:=List.length x.name≤B∧dX IntKind.i64 x.size∧True
structure ag where
 a:Int
 b:Int
 deriving Inhabited,DecidableEq
@[simp] def ag.c(x:ag):List AV:=[.int IntKind.i64 x.a,.int IntKind.i64 x.b]
def ag.ok(B:Nat)(x:ag):Prop:=dX IntKind.i64 x.a∧dX IntKind.i64 x.b∧True
structure cy where
 Id:Int
 au:(List Int)
 Term:Int
 bg:Int
 bx:Int
 bf:Int
 Trail:cD
 bM:(List UInt8)
 aj:Int
 Left:Int
 bY:Int
 deriving Inhabited,DecidableEq
@[simp] def cy.c(x:cy):List AV:=[.int IntKind.i64 x.Id,.sl (List.map (bG IntKind.i64) x.au),.int IntKind.i64 x.Term,.int IntKind.i64 x.bg,.int IntKind.i64 x.bx,.int IntKind.i64 x.bf,.int IntKind.i64 x.Trail.ar,.int IntKind.i64 x.Trail.aq,.sl (List.map bj.c x.Trail.Entries),.str x.bM,.int IntKind.i64 x.aj,.int IntKind.i64 x.Left,.int IntKind.i64 x.bY]
def cy.ok(B:Nat)(x:cy):Prop:=dX IntKind.i64 x.Id∧(List.length x.au≤B∧∀y,y∈x.au→dX IntKind.i64 y)∧dX IntKind.i64 x.Term∧dX IntKind.i64 x.bg∧dX IntKind.i64 x.bx∧dX IntKind.i64 x.bf∧cD.ok B x.Trail∧List.length x.bM≤B∧dX IntKind.i64 x.aj∧dX IntKind.i64 x.Left∧dX IntKind.i64 x.bY∧True
def GM(ml:Gv):db:=fun g=>match g with
 |0=>some [.ei ml.e0]
 |1=>some [.ei ml.e1]
 |2=>some (Lib.pow10Tab.map fun(n:Int)=>AV.int .u64 n)
 |4=>some (Lib.deBruijn64tab.map fun(n:Nat)=>AV.int .u8 (n:Int))
 |_=>none
structure ae where
 files:List (List UInt8×List Int)
 waits:List bp
 total:Int
 dH:bn
 count:Int
 sum:Int
 deriving Inhabited,DecidableEq
structure af where
 files:List (List UInt8×List Int)
 waits:List bp
 total:Int
 file:List UInt8
 last:Int
 bE:Int
 kept:bn
 dH:bn
 count:Int
 sum:Int
 deriving Inhabited,DecidableEq
abbrev aa:=ae⊕af
def aa.g:aa→Gr
 |.inl x=>[([],.rows false [AV.ptr 1 0 0::AV.ei (.pointer none)::(bn.c x.dH++[.bool false,.int .i64 x.count,.int .u32 x.sum])]),([0],.rows false [[.aw 2,.an 3 2,.int .i64 x.total]]),
  ([0,0],.bL 1 (dT (fun k=>AV.str k) (bG .u8) x.files)),([1,0],.rows true (List.map bp.c x.waits))]
 |.inr x=>[([],.rows false [AV.ptr 1 0 0::AV.ptr 4 0 0::(bn.c x.dH++[.bool true,.int .i64 x.count,.int .u32 x.sum])]),([0],.rows false [[.aw 2,.an 3 2,.int .i64 x.total]]),
  ([0,0],.bL 1 (dT (fun k=>AV.str k) (bG .u8) x.files)),([1,0],.rows true (List.map bp.c x.waits)),
  ([1],.rows false [AV.ptr 5 0 0::bn.c x.kept]),([0,1],.rows false [[.ptr 1 0 0,.str x.file,.int .i64 x.last,.int .i64 x.bE]])]
end Go.T
