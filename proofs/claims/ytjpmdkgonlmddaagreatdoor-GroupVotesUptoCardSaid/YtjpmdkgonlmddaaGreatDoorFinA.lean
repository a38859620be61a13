import Derived.Test.YtjpmdkgonlmddaaGreatDoorLI
import Derived.Test.YtjpmdkgonlmddaaGreatDoorCertF
import Derived.Test.YtjpmdkgonlmddaaGreatDoorRead
import Derived.Test.YtjpmdkgonlmddaaGreatDoorAbL
import Derived.Test.YtjpmdkgonlmddaaGreatDoorCards
import Derived.Test.YtjpmdkgonlmddaaGreatDoorTie
import Derived.WalkKit
import Derived.ProofKit
import Derived.OpenShut
import Derived.JoinedCond
import Derived.LaidMore
import Derived.Lay
import Derived.SevenTiedAt
import Derived.Deep.DeepHandedRow
set_option linter.unusedVariables false
namespace Go.Proofs.YtjpmdkgonlmddaaGreatDoor.groupVotes
open Go.ChangeShapes Go.WideShapes Go.ChangeAt Go.RowKit Go.Ab Go.T
set_option linter.unusedVariables false
set_option maxRecDepth 100000
theorem oT{W:World}(h:laidMetH Tryz.prog Rows.groupVotesUptoRow.laid W):Lib.TabIs Tryz.prog W "internal/strconv.uint64pow10" .u64 Lib.pow10Tab:=
 Lib.tabIs_of_head (rest:=[]) (g:=2) (t:=324) (e:=118) (n:=20) (by kernel_rfl) (by kernel_rfl) (by kernel_rfl) (by kernel_rfl) (by kernel_rfl) (by kernel_rfl)
  (DA h (d:=Lib.tabData .u64 Lib.pow10Tab) (by kernel_rfl) rfl)
theorem oS{W:World}(h:laidMetH Tryz.prog Rows.groupVotesUptoRow.laid W):Lib.TabIs Tryz.prog W "math/bits.deBruijn64tab" .u8 (Lib.deBruijn64tab.map Int.ofNat):=
 Lib.tabIs_of_head (rest:=[]) (g:=4) (t:=353) (e:=5) (n:=64) (by kernel_rfl) (by kernel_rfl) (by kernel_rfl) (by kernel_rfl) (by kernel_rfl) (by kernel_rfl)
  (DA h (d:=Lib.tabData .u8 (Lib.deBruijn64tab.map Int.ofNat)) (by kernel_rfl) rfl)
theorem Pd{W:World}(h:laidMetH Tryz.prog Rows.groupVotesUptoRow.laid W)(tS:W.ShapedOpen Tryz.prog):∃ml,ow (GM ml) (fun b=>b<W.heap.size) W:=by
 obtain⟨e0,hv0,hi0,Om⟩:=KH (g:=0) (tp:=343) (te:=345) (ts:=9) (DA h (name:= "strconv.ErrSyntax") (d:=.iface "*errors.errorString" (.ptr (.agg [.lit (.string [105,110,118,97,108,105,100,32,115,121,110,116,97,120])]))) (by kernel_rfl) rfl) (by kernel_rfl) (by kernel_rfl) Tryz.underlying232 (by kernel_rfl) (by kernel_rfl) Tryz.underlying343 Tryz.underlying345 rfl rfl Tryz.underlying9 (by kernel_rfl) (by kernel_rfl)
 obtain⟨e1,hv1,hi1,ho1⟩:=KH (g:=1) (tp:=343) (te:=345) (ts:=9) (DA h (name:= "strconv.ErrRange") (d:=.iface "*errors.errorString" (.ptr (.agg [.lit (.string [118,97,108,117,101,32,111,117,116,32,111,102,32,114,97,110,103,101])]))) (by kernel_rfl) rfl) (by kernel_rfl) (by kernel_rfl) Tryz.underlying232 (by kernel_rfl) (by kernel_rfl) Tryz.underlying343 Tryz.underlying345 rfl rfl Tryz.underlying9 (by kernel_rfl) (by kernel_rfl)
 refine⟨⟨0,e0,e1,hi0,hi1⟩,fun g row hg=>?_⟩
 unfold GM at hg;split at hg
 ·injection hg with hg
  subst hg
  exact KL hv0 (by kernel_rfl) Om
 ·injection hg with hg
  subst hg
  exact KL hv1 (by kernel_rfl) ho1
 ·injection hg with hg
  subst hg
  exact KM (oT h) (by kernel_rfl) (by decide) (L5 (g:=2) (t:=324) (zero:=Array.replicate 20 (.int .u64 0)) tS (of_decide_eq_true (by kernel_rfl)) (by kernel_rfl) (by kernel_rfl))
 ·injection hg with hg
  subst hg
  have e:(Lib.deBruijn64tab.map fun(n:Nat)=>AV.int .u8 (n:Int))=(Lib.deBruijn64tab.map Int.ofNat).map fun z=>AV.int .u8 z:=by rw[List.map_map];rfl
  rw[e]
  exact KM (oS h) (by kernel_rfl) (by decide) (L5 (g:=4) (t:=353) (zero:=Array.replicate 64 (.int .u8 0)) tS (of_decide_eq_true (by kernel_rfl)) (by kernel_rfl) (by kernel_rfl))
 ·cases hg
theorem own:ownKnob Tryz.prog.godebug=none:=by kernel_rfl
theorem laidOut:laidOutB Tryz.prog=true:=by kernel_rfl
theorem readable:(Tryz.f4.params.toList.all fun t=>Tryz.prog.readableRec t&&decide (t<Tryz.prog.types.size))=true:=by kernel_rfl
theorem sg:(Tryz.f4.params.toList.all fun t=>pt Tryz.prog 12 t)=true:=by kernel_rfl
mutual
theorem oa{H:Type}:∀d:DataW H,Rows.uptoBulk d=ff d
 |.lit l=>by cases l<;>simp[Rows.uptoBulk,ff]
 |.nil=>by simp[Rows.uptoBulk,ff]
 |.ptr d=>by simp[Rows.uptoBulk,ff,oa d]
 |.slice es ss=>by simp[Rows.uptoBulk,ff,mC es,mC ss]
 |.agg ps=>by simp[Rows.uptoBulk,ff,mC ps]
 |.iface _ d=>by simp[Rows.uptoBulk,ff,oa d]
 |.map es=>by simp[Rows.uptoBulk,ff,ui es]
 |.held _=>by simp[Rows.uptoBulk,ff]
theorem mC{H:Type}:∀l:List (DataW H),Rows.uptoBulkAll l=mM l
 | []=>by simp[Rows.uptoBulkAll,mM]
 |d::r=>by simp[Rows.uptoBulkAll,mM,oa d,mC r]
theorem ui{H:Type}:∀l:List (Lit×DataW H),Rows.uptoBulkEntries l=Bg l
 | []=>by simp[Rows.uptoBulkEntries,Bg]
 |(x,d)::r=>by cases x<;>simp[Rows.uptoBulkEntries,Bg,Rows.uptoBulkEntry,Lq,oa d,ui r]
end
theorem qw(H:Type)(enc:TypeId×Value→H)(W:World)(base:Nat)(args:Array Value)(ds gs:List (DataW H))(before:List MemPlace)
 (vg:∀(j:Nat) t v,Tryz.f4.params[j]? =some t→args[j]? =some v→Value.okWide Tryz.prog W .any base t v)
 (hW:DataW.Whole enc Tryz.prog Tryz.f4.params.toList Rows.groupVotesSpec.vars false W args.toList ds gs before) (hk:Rows.uptoSmall H (ds++gs)=true) (hL:laidMetH Tryz.prog Rows.groupVotesUptoRow.laid W) (tS:W.ShapedOpen Tryz.prog):
 Calls Tryz.prog 4 args W fun e W'=>∃v,e=.returned v∧Rows.groupVotesSpec.post enc Tryz.prog Tryz.f4 false true false false W args v W':=by
 obtain⟨ml,FI⟩:=Pd hL tS
 have OW:=hW
 obtain⟨p,q,hA,hV,rfl,hfz,pZ⟩:=hW
 obtain⟨rfl,rfl⟩:=trodVars_none hV
 have hb:mM ds≤1048576:=by
  have:=of_decide_eq_true hk
  rw[List.append_nil,mC]at this;exact this
 obtain⟨xs,lS,hx⟩:=Sx (n:=12) (B:=1048576) (by unfold bm;omega) Tryz.f4.params.toList args.toList ds p sg (fun j t v a b=>vg j t v (by simpa using a) (by simpa using b)) hA hb
 have xw:=hA
 rw[Tryz.params4]at xw
 obtain⟨v0,XV,d0,Zs,p0,q0,iZ,rfl,X7,h0,xw⟩:=trodAll_cons xw
 obtain⟨v1,XU,d1,Zr,p1,q1,rfl,rfl,rfl,h1,xw⟩:=trodAll_cons xw
 obtain⟨-,rfl, -⟩:=trodAll_nil xw
 rw[Tryz.params4]at lS
 obtain⟨x0,r0,rfl,w0,x1,r1,rfl,w1,rfl⟩:=lS
 obtain⟨a0,e0,o0⟩:=tF Tryz.underlying32 (fun _ _ h=>kH Tryz.underlying3 h) (show WT Tryz.prog 1048576 12 32 [x0]from w0)
 obtain rfl:x0=_:=List.head_eq_of_cons_eq e0
 obtain⟨a1,e1,o1⟩:=tF Tryz.underlying33 (fun _ _ h=>Tw h) (show WT Tryz.prog 1048576 12 33 [x1]from w1)
 obtain rfl:x1=_:=List.head_eq_of_cons_eq e1
 exact Rg (tb:=4) laidOut readable rfl OW FI hx (Xr (ml:=ml) (UX a0 a1 o0 o1)) rfl rfl rfl rfl Tryz.underlying4
end Go.Proofs.YtjpmdkgonlmddaaGreatDoor.groupVotes
