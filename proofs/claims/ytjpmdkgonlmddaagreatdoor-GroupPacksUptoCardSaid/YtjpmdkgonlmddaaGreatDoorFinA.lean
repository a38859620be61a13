import Derived.Test.YtjpmdkgonlmddaaGreatDoorLL
import Derived.Test.YtjpmdkgonlmddaaGreatDoorCertF
import Derived.Test.YtjpmdkgonlmddaaGreatDoorRead
import Derived.Test.YtjpmdkgonlmddaaGreatDoorAbL
import Derived.Test.YtjpmdkgonlmddaaGreatDoorCards
import Derived.Test.YtjpmdkgonlmddaaGreatDoorTie
import Derived.Lay
import Derived.Deep.DeepHandedRow
namespace Go.Proofs.YtjpmdkgonlmddaaGreatDoor.groupPacks
open Go.ChangeShapes Go.WideShapes Go.ChangeAt Go.RowKit Go.Ab Go.T
set_option linter.unusedVariables false
set_option maxRecDepth 100000
theorem pY{W:World}(h:laidMetH Tryz.prog Rows.groupPacksUptoRow.laid W):Lib.TabIs Tryz.prog W "internal/strconv.uint64pow10" .u64 Lib.pow10Tab:=
 Lib.tabIs_of_head (rest:=[]) (g:=2) (t:=324) (e:=118) (n:=20) (by kernel_rfl) (by kernel_rfl) (by kernel_rfl) (by kernel_rfl) (by kernel_rfl) (by kernel_rfl)
  (E5 h (d:=Lib.tabData .u64 Lib.pow10Tab) (by kernel_rfl) rfl)
theorem pX{W:World}(h:laidMetH Tryz.prog Rows.groupPacksUptoRow.laid W):Lib.TabIs Tryz.prog W "math/bits.deBruijn64tab" .u8 (Lib.deBruijn64tab.map Int.ofNat):=
 Lib.tabIs_of_head (rest:=[]) (g:=4) (t:=353) (e:=5) (n:=64) (by kernel_rfl) (by kernel_rfl) (by kernel_rfl) (by kernel_rfl) (by kernel_rfl) (by kernel_rfl)
  (E5 h (d:=Lib.tabData .u8 (Lib.deBruijn64tab.map Int.ofNat)) (by kernel_rfl) rfl)
theorem SJ{W:World}(h:laidMetH Tryz.prog Rows.groupPacksUptoRow.laid W)(vD:W.ShapedOpen Tryz.prog):∃ml,pE (GM ml) (λ b=>b<W.heap.size) W:=by
 obtain⟨e0,uf,sT,Rq⟩:=NB (g:=0) (tp:=343) (te:=345) (ts:=9) (E5 h (name:= "strconv.ErrSyntax") (d:=.iface "*errors.errorString" (.ptr (.agg [.lit (.string [105,110,118,97,108,105,100,32,115,121,110,116,97,120])]))) (by kernel_rfl) rfl) (by kernel_rfl) (by kernel_rfl) Tryz.underlying232 (by kernel_rfl) (by kernel_rfl) Tryz.underlying343 Tryz.underlying345 rfl rfl Tryz.underlying9 (by kernel_rfl) (by kernel_rfl)
 obtain⟨e1,iR,ln,D3⟩:=NB (g:=1) (tp:=343) (te:=345) (ts:=9) (E5 h (name:= "strconv.ErrRange") (d:=.iface "*errors.errorString" (.ptr (.agg [.lit (.string [118,97,108,117,101,32,111,117,116,32,111,102,32,114,97,110,103,101])]))) (by kernel_rfl) rfl) (by kernel_rfl) (by kernel_rfl) Tryz.underlying232 (by kernel_rfl) (by kernel_rfl) Tryz.underlying343 Tryz.underlying345 rfl rfl Tryz.underlying9 (by kernel_rfl) (by kernel_rfl)
 refine⟨⟨0,e0,e1,sT,ln⟩,λ g row hg=>?_⟩
 unfold GM at hg;split at hg
 ·injection hg with hg
  subst hg
  exact NG uf (by kernel_rfl) Rq
 ·injection hg with hg
  subst hg
  exact NG iR (by kernel_rfl) D3
 ·injection hg with hg
  subst hg
  exact NH (pY h) (by kernel_rfl) (by decide) (OT (g:=2) (t:=324) (zero:=Array.replicate 20 (.int .u64 0)) vD (of_decide_eq_true (by kernel_rfl)) (by kernel_rfl) (by kernel_rfl))
 ·injection hg with hg
  subst hg
  have e:(Lib.deBruijn64tab.map λ(n:Nat)=>AV.int .u8 (n:Int))=(Lib.deBruijn64tab.map Int.ofNat).map λ z=>AV.int .u8 z:=by rw[List.map_map];rfl
  rw[e]
  exact NH (pX h) (by kernel_rfl) (by decide) (OT (g:=4) (t:=353) (zero:=Array.replicate 64 (.int .u8 0)) vD (of_decide_eq_true (by kernel_rfl)) (by kernel_rfl) (by kernel_rfl))
 ·cases hg
theorem own:ownKnob Tryz.prog.godebug=none:=by kernel_rfl
theorem laidOut:laidOutB Tryz.prog=true:=by kernel_rfl
theorem readable:(Tryz.f6.params.toList.all λ t=>Tryz.prog.readableRec t&&decide (t<Tryz.prog.types.size))=true:=by kernel_rfl
theorem tQ:(Tryz.f6.params.toList.all λ t=>qu Tryz.prog 12 t)=true:=by kernel_rfl
mutual
theorem ph{H:Type}:∀d:DataW H,Rows.uptoBulk d=fP d
 |.lit l=>by cases l<;>simp[Rows.uptoBulk,fP]
 |.nil=>by simp[Rows.uptoBulk,fP]
 |.ptr d=>by simp[Rows.uptoBulk,fP,ph d]
 |.slice es ss=>by simp[Rows.uptoBulk,fP,ny es,ny ss]
 |.agg ps=>by simp[Rows.uptoBulk,fP,ny ps]
 |.iface _ d=>by simp[Rows.uptoBulk,fP,ph d]
 |.map es=>by simp[Rows.uptoBulk,fP,vR es]
 |.held _=>by simp[Rows.uptoBulk,fP]
theorem ny{H:Type}:∀l:List (DataW H),Rows.uptoBulkAll l=nI l
 | []=>by simp[Rows.uptoBulkAll,nI]
 |d::r=>by simp[Rows.uptoBulkAll,nI,ph d,ny r]
theorem vR{H:Type}:∀l:List (Lit×DataW H),Rows.uptoBulkEntries l=Cv l
 | []=>by simp[Rows.uptoBulkEntries,Cv]
 |(x,d)::r=>by cases x<;>simp[Rows.uptoBulkEntries,Cv,Rows.uptoBulkEntry,NU,ph d,vR r]
end
theorem sc(H:Type)(enc:TypeId×Value→H)(W:World)(base:Nat)(args:Array Value)(ds gs:List (DataW H))(before:List MemPlace)
 (w8:∀(j:Nat) t v,Tryz.f6.params[j]? =some t→args[j]? =some v→Value.okWide Tryz.prog W .any base t v)
 (hW:DataW.Whole enc Tryz.prog Tryz.f6.params.toList Rows.groupPacksSpec.vars false W args.toList ds gs before) (hk:Rows.uptoSmall H (ds++gs)=true) (hL:laidMetH Tryz.prog Rows.groupPacksUptoRow.laid W) (vD:W.ShapedOpen Tryz.prog):
 Calls Tryz.prog 6 args W λ e W'=>∃v,e=.returned v∧Rows.groupPacksSpec.post enc Tryz.prog Tryz.f6 false true false false W args v W':=by
 obtain⟨ml,HP⟩:=SJ hL vD
 have Si:=hW
 obtain⟨p,q,hA,hV,rfl,yZ,xf⟩:=hW
 obtain⟨rfl,rfl⟩:=trodVars_none hV
 have hb:nI ds≤1048576:=by
  have:=of_decide_eq_true hk
  rw[List.append_nil,ny]at this;exact this
 obtain⟨xs,sO,hx⟩:=Z5 (n:=12) (B:=1048576) (by unfold bI;omega) Tryz.f6.params.toList args.toList ds p tQ (λ j t v a b=>w8 j t v (by simpa using a) (by simpa using b)) hA hb
 have ze:=hA
 rw[Tryz.params6]at ze
 obtain⟨v0,vs0,d0,ds0,p0,q0,lV,rfl,Ho,h0,ze⟩:=trodAll_cons ze
 obtain⟨v1,vs1,d1,ds1,p1,q1,rfl,rfl,rfl,h1,ze⟩:=trodAll_cons ze
 obtain⟨-,rfl, -⟩:=trodAll_nil ze
 rw[Tryz.params6]at sO
 obtain⟨x0,r0,rfl,w0,x1,r1,rfl,w1,rfl⟩:=sO
 obtain⟨a0,e0,o0⟩:=vr Tryz.underlying32 (λ _ _ h=>lF Tryz.underlying3 h) (show WT Tryz.prog 1048576 12 32 [x0]from w0)
 obtain rfl:x0=_:=List.head_eq_of_cons_eq e0
 obtain⟨a1,e1,o1⟩:=vr Tryz.underlying33 (λ _ _ h=>Zpe h) (show WT Tryz.prog 1048576 12 33 [x1]from w1)
 obtain rfl:x1=_:=List.head_eq_of_cons_eq e1
 exact XF (tb:=4) laidOut readable rfl Si HP hx (ZgL (ml:=ml) (Zli a0 a1 o0 o1)) rfl rfl rfl rfl Tryz.underlying4
end Go.Proofs.YtjpmdkgonlmddaaGreatDoor.groupPacks
