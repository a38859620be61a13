import Derived.Test.YtjpmdkgonlmddaaGreatDoorAbJ
set_option linter.unusedVariables false
namespace Go.T
open Go Go.Ab
structure bx where
 Term:Int
 Data:aj
 deriving Inhabited,DecidableEq
@[simp] def bx.c(x:bx):List AV:=[.int IntKind.i64 x.Term,.str x.Data]
def bx.ok(B:Nat)(x:bx):Prop:=eM IntKind.i64 x.Term∧List.length x.Data≤B∧True
structure cj where
 Kind:Int
 cV:Int
 To:Int
 Term:Int
 Index:Int
 bM:Int
 ah:Int
 mc:Bool
 Entries:(List bx)
 Data:aj
 deriving Inhabited,DecidableEq
@[simp] def cj.c(x:cj):List AV:=[.int IntKind.i64 x.Kind,.int IntKind.i64 x.cV,.int IntKind.i64 x.To,.int IntKind.i64 x.Term,.int IntKind.i64 x.Index,.int IntKind.i64 x.bM,.int IntKind.i64 x.ah,.bool x.mc,.sl (List.map bx.c x.Entries),.str x.Data]
def cj.ok(B:Nat)(x:cj):Prop:=eM IntKind.i64 x.Kind∧eM IntKind.i64 x.cV∧eM IntKind.i64 x.To∧eM IntKind.i64 x.Term∧eM IntKind.i64 x.Index∧eM IntKind.i64 x.bM∧eM IntKind.i64 x.ah∧True∧(List.length x.Entries≤B∧∀y∈x.Entries,bx.ok B y)∧List.length x.Data≤B∧True
structure nH where
 Kind:Int
 Client:Int
 Seq:Int
 Name:aj
 Expr:aj
 uH:aj
 Token:aj
 Time:Int
 deriving Inhabited,DecidableEq
@[simp] def nH.c(x:nH):List AV:=[.int IntKind.i64 x.Kind,.int IntKind.i64 x.Client,.int IntKind.i64 x.Seq,.str x.Name,.str x.Expr,.str x.uH,.str x.Token,.int IntKind.i64 x.Time]
def nH.ok(B:Nat)(x:nH):Prop:=eM IntKind.i64 x.Kind∧eM IntKind.i64 x.Client∧eM IntKind.i64 x.Seq∧List.length x.Name≤B∧List.length x.Expr≤B∧List.length x.uH≤B∧List.length x.Token≤B∧eM IntKind.i64 x.Time∧True
structure nK where
 Kind:Int
 Phase:Int
 pC:Int
 gj:Int
 jC:Int
 vi:Int
 pH:Int
 Key:aj
 deriving Inhabited,DecidableEq
@[simp] def nK.c(x:nK):List AV:=[.int IntKind.i64 x.Kind,.int IntKind.i64 x.Phase,.int IntKind.i64 x.pC,.int IntKind.i64 x.gj,.int IntKind.i64 x.jC,.int IntKind.i64 x.vi,.int IntKind.i64 x.pH,.str x.Key]
def nK.ok(B:Nat)(x:nK):Prop:=eM IntKind.i64 x.Kind∧eM IntKind.i64 x.Phase∧eM IntKind.i64 x.pC∧eM IntKind.i64 x.gj∧eM IntKind.i64 x.jC∧eM IntKind.i64 x.vi∧eM IntKind.i64 x.pH∧List.length x.Key≤B∧True
structure eU where
 Kind:Int
 jC:Int
 Node:Int
 gj:Int
 Id:Int
 qm:Int
 mK:Int
 mJ:Int
 vj:Bool
 Data:aj
 Time:Int
 mS:nH
 iJ:nK
 deriving Inhabited,DecidableEq
@[simp] def eU.c(x:eU):List AV:=[.int IntKind.i64 x.Kind,.int IntKind.i64 x.jC,.int IntKind.i64 x.Node,.int IntKind.i64 x.gj,.int IntKind.i64 x.Id,.int IntKind.i64 x.qm,.int IntKind.i64 x.mK,.int IntKind.i64 x.mJ,.bool x.vj,.str x.Data,.int IntKind.i64 x.Time,.int IntKind.i64 x.mS.Kind,.int IntKind.i64 x.mS.Client,.int IntKind.i64 x.mS.Seq,.str x.mS.Name,.str x.mS.Expr,.str x.mS.uH,.str x.mS.Token,.int IntKind.i64 x.mS.Time,.int IntKind.i64 x.iJ.Kind,.int IntKind.i64 x.iJ.Phase,.int IntKind.i64 x.iJ.pC,.int IntKind.i64 x.iJ.gj,.int IntKind.i64 x.iJ.jC,.int IntKind.i64 x.iJ.vi,.int IntKind.i64 x.iJ.pH,.str x.iJ.Key]
def eU.ok(B:Nat)(x:eU):Prop:=eM IntKind.i64 x.Kind∧eM IntKind.i64 x.jC∧eM IntKind.i64 x.Node∧eM IntKind.i64 x.gj∧eM IntKind.i64 x.Id∧eM IntKind.i64 x.qm∧eM IntKind.i64 x.mK∧eM IntKind.i64 x.mJ∧True∧List.length x.Data≤B∧eM IntKind.i64 x.Time∧nH.ok B x.mS∧nK.ok B x.iJ∧True
structure qI where
 Up:Bool
 bE:Int
 Term:Int
 bn:Int
 ah:Int
 an:Int
 Count:Int
 Sum:Int
 deriving Inhabited,DecidableEq
@[simp] def qI.c(x:qI):List AV:=[.bool x.Up,.int IntKind.i64 x.bE,.int IntKind.i64 x.Term,.int IntKind.i64 x.bn,.int IntKind.i64 x.ah,.int IntKind.i64 x.an,.int IntKind.i64 x.Count,.int IntKind.u32 x.Sum]
def qI.ok(B:Nat)(x:qI):Prop:=True∧eM IntKind.i64 x.bE∧eM IntKind.i64 x.Term∧eM IntKind.i64 x.bn∧eM IntKind.i64 x.ah∧eM IntKind.i64 x.an∧eM IntKind.i64 x.Count∧eM IntKind.u32 x.Sum∧True
structure cD where
 Id:Int
 cV:Int
 To:Int
 Body:aj
 deriving Inhabited,DecidableEq
@[simp] def cD.c(x:cD):List AV:=[.int IntKind.i64 x.Id,.int IntKind.i64 x.cV,.int IntKind.i64 x.To,.str x.Body]
def cD.ok(B:Nat)(x:cD):Prop:=eM IntKind.i64 x.Id∧eM IntKind.i64 x.cV∧eM IntKind.i64 x.To∧List.length x.Body≤B∧True
structure da where
 Id:Int
 At:Int
 deriving Inhabited,DecidableEq
@[simp] def da.c(x:da):List AV:=[.int IntKind.i64 x.Id,.int IntKind.i64 x.At]
def da.ok(B:Nat)(x:da):Prop:=eM IntKind.i64 x.Id∧eM IntKind.i64 x.At∧True
structure cA where
 Kind:Int
 N:Int
 S:aj
 deriving Inhabited,DecidableEq
@[simp] def cA.c(x:cA):List AV:=[.int IntKind.i64 x.Kind,.int IntKind.i64 x.N,.str x.S]
def cA.ok(B:Nat)(x:cA):Prop:=eM IntKind.i64 x.Kind∧eM IntKind.i64 x.N∧List.length x.S≤B∧True
structure ca where
 an:Int
 au:Int
 Entries:(List bx)
 deriving Inhabited,DecidableEq
@[simp] def ca.c(x:ca):List AV:=[.int IntKind.i64 x.an,.int IntKind.i64 x.au,.sl (List.map bx.c x.Entries)]
def ca.ok(B:Nat)(x:ca):Prop:=eM IntKind.i64 x.an∧eM IntKind.i64 x.au∧(List.length x.Entries≤B∧∀y∈x.Entries,bx.ok B y)∧True
structure bD where
 Id:Int
 bg:aa
 Term:Int
 bn:Int
 bE:Int
 bo:Int
 Trail:ca
 bj:aj
 ah:Int
 Left:Int
 bK:Int
 bO:aa
 Next:aa
 Match:aa
 deriving Inhabited,DecidableEq
@[simp] def bD.c(x:bD):List AV:=[.int IntKind.i64 x.Id,.sl (List.map (cn IntKind.i64) x.bg),.int IntKind.i64 x.Term,.int IntKind.i64 x.bn,.int IntKind.i64 x.bE,.int IntKind.i64 x.bo,.int IntKind.i64 x.Trail.an,.int IntKind.i64 x.Trail.au,.sl (List.map bx.c x.Trail.Entries),.str x.bj,.int IntKind.i64 x.ah,.int IntKind.i64 x.Left,.int IntKind.i64 x.bK,.sl (List.map (cn IntKind.i64) x.bO),.sl (List.map (cn IntKind.i64) x.Next),.sl (List.map (cn IntKind.i64) x.Match)]
def bD.ok(B:Nat)(x:bD):Prop:=eM IntKind.i64 x.Id∧(List.length x.bg≤B∧∀y∈x.bg,eM IntKind.i64 y)∧eM IntKind.i64 x.Term∧eM IntKind.i64 x.bn∧eM IntKind.i64 x.bE∧eM IntKind.i64 x.bo∧ca.ok B x.Trail∧List.length x.bj≤B∧eM IntKind.i64 x.ah∧eM IntKind.i64 x.Left∧eM IntKind.i64 x.bK∧(List.length x.bO≤B∧∀y∈x.bO,eM IntKind.i64 y)∧(List.length x.Next≤B∧∀y∈x.Next,eM IntKind.i64 y)∧(List.length x.Match≤B∧∀y∈x.Match,eM IntKind.i64 y)∧True
structure bP where
 name:aj
 size:Int
 deriving Inhabited,DecidableEq
@[simp] def bP.c(x:bP):List AV:=[.str x.name,.int IntKind.i64 x.size]
def bP.ok(B:Nat)(x:bP):Prop:=List.length x.name≤B∧eM IntKind.i64 x.size∧True
structure ax where
 a:Int
 b:Int
 deriving Inhabited,DecidableEq
@[simp] def ax.c(x:ax):List AV:=[.int IntKind.i64 x.a,.int IntKind.i64 x.b]
def ax.ok(B:Nat)(x:ax):Prop:=eM IntKind.i64 x.a∧eM IntKind.i64 x.b∧True
structure cP where
 Id:Int
 bg:aa
 Term:Int
 bn:Int
 bE:Int
 bo:Int
 Trail:ca
 bj:aj
 ah:Int
 Left:Int
 bK:Int
 deriving Inhabited,DecidableEq
@[simp] def cP.c(x:cP):List AV:=[.int IntKind.i64 x.Id,.sl (List.map (cn IntKind.i64) x.bg),.int IntKind.i64 x.Term,.int IntKind.i64 x.bn,.int IntKind.i64 x.bE,.int IntKind.i64 x.bo,.int IntKind.i64 x.Trail.an,.int IntKind.i64 x.Trail.au,.sl (List.map bx.c x.Trail.Entries),.str x.bj,.int IntKind.i64 x.ah,.int IntKind.i64 x.Left,.int IntKind.i64 x.bK]
def cP.ok(B:Nat)(x:cP):Prop:=eM IntKind.i64 x.Id∧(List.length x.bg≤B∧∀y∈x.bg,eM IntKind.i64 y)∧eM IntKind.i64 x.Term∧eM IntKind.i64 x.bn∧eM IntKind.i64 x.bE∧eM IntKind.i64 x.bo∧ca.ok B x.Trail∧List.length x.bj≤B∧eM IntKind.i64 x.ah∧eM IntKind.i64 x.Left∧eM IntKind.i64 x.bK∧True
def GM(ml:Gv):eo:=λ g=>match g with
 |0=>some [.eT ml.e0]
 |1=>some [.eT ml.e1]
 |2=>some (Lib.pow10Tab.map λ(n:Int)=>AV.int .u64 n)
 |4=>some (Lib.deBruijn64tab.map λ(n:Nat)=>AV.int .u8 (n:Int))
 |_=>none
structure ar where
 files:List (aj×aa)
 waits:List bP
 total:Int
 bR:bD
 count:Int
 sum:Int
 deriving Inhabited,DecidableEq
structure aw where
 files:List (aj×aa)
 waits:List bP
 total:Int
 file:aj
 last:Int
 bZ:Int
 kept:bD
 bR:bD
 count:Int
 sum:Int
 deriving Inhabited,DecidableEq
abbrev ai:=ar⊕aw
def ai.g:ai→Gr
 |.inl x=>[([],.rows false [AV.ptr 1 0 0::AV.eT (.pointer none)::(bD.c x.bR++[.bool false,.int .i64 x.count,.int .u32 x.sum])]),([0],.rows false [[.bm 2,.bf 3 2,.int .i64 x.total]]),
  ([0,0],.cw 1 (eD (λ k=>AV.str k) (cn .u8) x.files)),([1,0],.rows true (List.map bP.c x.waits))]
 |.inr x=>[([],.rows false [AV.ptr 1 0 0::AV.ptr 4 0 0::(bD.c x.bR++[.bool true,.int .i64 x.count,.int .u32 x.sum])]),([0],.rows false [[.bm 2,.bf 3 2,.int .i64 x.total]]),
  ([0,0],.cw 1 (eD (λ k=>AV.str k) (cn .u8) x.files)),([1,0],.rows true (List.map bP.c x.waits)),
  ([1],.rows false [AV.ptr 5 0 0::bD.c x.kept]),([0,1],.rows false [[.ptr 1 0 0,.str x.file,.int .i64 x.last,.int .i64 x.bZ]])]
end Go.T
