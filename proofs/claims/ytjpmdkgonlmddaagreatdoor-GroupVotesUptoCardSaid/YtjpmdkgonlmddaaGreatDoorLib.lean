import Derived.Test.YtjpmdkgonlmddaaGreatDoorProg
import Derived.Tactics
import Derived.Tactics2
import Derived.Defers
import Derived.WalkKit
import Derived.Laws.Pointers
import Derived.Laws.LoneSync
import Derived.RegionTactic
import Derived.RegionCalls
import Derived.ChangeAlike
import Derived.KernelRfl
import Derived.Test.YtjpmdkgonlmddaaGreatDoorTy
import Derived.Test.YtjpmdkgonlmddaaGreatDoorAbI
import Derived.Test.YtjpmdkgonlmddaaGreatDoorAbJ
import Derived.Test.YtjpmdkgonlmddaaGreatDoorAbM
import Derived.Lib.JoinLaws
import Derived.Deep.RegionLaw
import Derived.Test.YtjpmdkgonlmddaaGreatDoorPlain
import Derived.RangeFuncBox
import Derived.RangeFuncLeaves
import Derived.Shelf.Abstract
import Derived.OwnWalkIn
import Derived.TacticsInMore
import Derived.LoopNIn
import Derived.LoopIn
import Derived.Lib.AtoiAllCases
import Derived.OwnWalk
import Derived.Sort.KeysCollected
import Derived.Sort.OwnSorted
import Derived.Maps.AppendAt
import Derived.Maps.RangeWalk
set_option linter.unusedVariables false
set_option linter.unusedVariables false
set_option linter.unusedSimpArgs false
namespace Go.T
open Go Go.Ab Go.Proofs Go.RowKit Go.Lib
theorem sZ:Tryz.prog.follows .mixedOrders=true:=by kernel_rfl
theorem Mn(w:World):(callFunc 271 #[]).run Tryz.prog w=.ok (.value (.tuple #[])) w:=run_call_mark0 Tryz.func271 (by kernel_rfl) (by kernel_rfl) (by kernel_rfl) .disable (by kernel_rfl) w
theorem Mu(w:World):(callFunc 273 #[]).run Tryz.prog w=.ok (.value (.tuple #[])) w:=run_call_mark0 Tryz.func273 (by kernel_rfl) (by kernel_rfl) (by kernel_rfl) .enable (by kernel_rfl) w
theorem Uq(a:Addr)(w:World):(callFunc 274 #[.pointer (some a)]).run Tryz.prog w=.ok (.value (.tuple #[])) w:=run_call_marked Tryz.func274 (by kernel_rfl) (by kernel_rfl) (by kernel_rfl) .acquire (by kernel_rfl) a w
theorem US(a:Addr)(w:World):(callFunc 276 #[.pointer (some a)]).run Tryz.prog w=.ok (.value (.tuple #[])) w:=run_call_marked Tryz.func276 (by kernel_rfl) (by kernel_rfl) (by kernel_rfl) .releaseMerge (by kernel_rfl) a w
set_option maxRecDepth 100000 in
theorem Tt(a:Addr)(x:Value)(u:FrameMode)(w:World)(hc:w.cell? a=some x)(hz:w.frozen? a=false):
 CallsD Tryz.prog 248 #[.pointer (some a),.bool true] u w fun e u' w'=>u'=u∧(e=.returned (.tuple #[])∧w'=w.drew.setCell a (.int .u32 1)):=by
 have hc':w.drew.cell? a=some x:=by go_simp
 have hz':w.drew.frozen? a=false:=by go_simp
 have hst:=run_call_store (P:=Tryz.prog) Tryz.func265 (by kernel_rfl) (by kernel_rfl) (by kernel_rfl) (by kernel_rfl) (k:=.u32) (y:=1) hc' hz'
 go_enter_d Tryz.func248,Tryz.ntmps248
 go_wp2
 go_region_calls
 all_goals (go_end0;exact⟨rfl,rfl⟩)
set_option maxRecDepth 100000 in
theorem Ur(a:Addr)(u:FrameMode)(w:World)(hc:w.cell? a=some (.int .i32 1))(hz:w.frozen? a=false):
 CallsD Tryz.prog 247 #[.pointer (some a)] u w fun e u' w'=>u'=u∧(e=.returned (.tuple #[])∧w'=w.setCell a (.int .i32 0)):=by
 have hd:=Mn
 have he:=Mu
 have hr:=US
 have hadd:=run_call_add (P:=Tryz.prog) Tryz.func277 (by kernel_rfl) (by kernel_rfl) (by kernel_rfl) .i32 (by kernel_rfl) (y:= -1) (s:=0) hc hz (by simp[go_sem];rfl)
 have hcv:=run_convert_to_unsafe (P:=Tryz.prog) (src:=354) (dst:=358) Tryz.underlying354 Tryz.underlying358 (by kernel_rfl) hc
 go_enter_d Tryz.func247,Tryz.ntmps247
 go_wp2
 go_end0
 go_wp2
 go_end0
 exact⟨rfl,rfl⟩
set_option maxRecDepth 100000 in
theorem St(a:Addr)(w:World)(hc:w.cell? a=some (.int .i32 0))(hz:w.frozen? a=false):
 Calls Tryz.prog 246 #[.pointer (some a)] w fun e w'=>e=.returned (.tuple #[])∧w'=w.setCell a (.int .i32 1):=by
 have hd:=Mn
 have he:=Mu
 have ha:=Uq
 have hcas:=run_call_cas_hit (P:=Tryz.prog) Tryz.func272 (by kernel_rfl) (by kernel_rfl) (by kernel_rfl) .i32 (by kernel_rfl) (y:=1) hc hz
 have hc':(w.setCell a (.int .i32 1)).cell? a=some (.int .i32 1):=World.cell?_setCell_same w a _ hc
 have hcv:=run_convert_to_unsafe (P:=Tryz.prog) (src:=354) (dst:=358) Tryz.underlying354 Tryz.underlying358 (by kernel_rfl) hc'
 go_enter Tryz.func246,Tryz.ntmps246
 go_wp2
 first|go_end0|(simp only[Exit.inBlock,Exit.then];refine bodyPost_ret (results_none rfl _ _ _) rfl ?_)|refine bodyPost_ret (results_none rfl _ _ _) rfl ?_
 go_wp2
 go_end0
 exact⟨rfl,rfl⟩
set_option maxRecDepth 100000 in
set_option maxHeartbeats 1600000 in
theorem Su(b off g:Nat)(fs cap:Array Value)(w:World)(R:World→Prop)
 (h0:w.cell? ⟨b,off,none⟩=some (.int .u32 0)) (h1:w.cell? ⟨b,off+1,none⟩=some (.int .i32 0))
 (f0:w.frozen? ⟨b,off,none⟩=false) (f1:w.frozen? ⟨b,off+1,none⟩=false)
 (hin:∀w:World,(callFunc g (fs++cap)).run Tryz.prog w=.ok (.enter g (fs++cap)) w)
 (hF:Calls Tryz.prog g (fs++cap) (w.setCell ⟨b,off+1,none⟩ (.int .i32 1)) fun e w'=>e=.returned (.tuple #[])∧R w')
 (hR:∀w',R w'→w'.cell? ⟨b,off,none⟩=some (.int .u32 0)∧w'.cell? ⟨b,off+1,none⟩=some (.int .i32 1)∧w'.frozen? ⟨b,off,none⟩=false∧w'.frozen? ⟨b,off+1,none⟩=false):
 Calls Tryz.prog 229 #[.pointer (some ⟨b,off,none⟩),.func (.func g) fs cap] w fun e w'=>e=.returned (.tuple #[])∧
  ∃w1,R w1∧w'=(w1.drew.setCell ⟨b,off,none⟩ (.int .u32 1)).setCell ⟨b,off+1,none⟩ (.int .i32 0):=by
 have hl:=run_call_load (P:=Tryz.prog) Tryz.func245 (by kernel_rfl) (by kernel_rfl) (by kernel_rfl) .u32 (by kernel_rfl) (w:=w.setCell ⟨b,off+1,none⟩ (.int .i32 1)) (a:=⟨b,off,none⟩) (x:=0) ((World.cell?_setCell_other _ ⟨b,off+1,none⟩ ⟨b,off,none⟩ _ (by simp)).trans h0)
 have hnot:∀(x:Bool) (w:World),(Op.unary .not (.bool x)).run Tryz.prog w=.ok (.bool (!x)) w:=fun _ _=>rfl
 go_enter_defers Tryz.func229,Tryz.ntmps229
 go_wp2_with (first|(go_at_call 246;refine(St ⟨b,off+1,none⟩ _ (by go_simp) (by go_simp)).mono ?_;rintro e w' ⟨rfl,rfl⟩)|(go_at_call 228;go_in))
 go_wp2
 rename_i Q' K' hK'
 refine hF.mono ?_
 rintro e w1 ⟨rfl,hw1⟩
 obtain⟨c0,c1,z0,z1⟩:=hR w1 hw1
 refine hK' _ _ ?_
 go_wp2
 refine leaves_cons (f:=248) (args:=#[.pointer (some ⟨b,off,none⟩),.bool true]) (by simp) (by simp[go_sem]) ?_
 refine(Tt ⟨b,off,none⟩ (.int .u32 0) .returning _ c0 z0).mono ?_
 rintro e u' w'' ⟨rfl,rfl,rfl⟩
 refine leaves_cons (f:=247) (args:=#[.pointer (some ⟨b,off+1,none⟩)]) (by simp[settle]) (by simp[go_sem]) ?_
 refine(Ur ⟨b,off+1,none⟩ _ _ ?_ (by simp[z1])).mono ?_
 ·refine(World.cell?_setCell_other _ ⟨b,off,none⟩ ⟨b,off+1,none⟩ _ (by simp)).trans ?_
  rw[World.cell?_drew]
  exact c1
 rintro e u' w'' ⟨rfl,rfl,rfl⟩;simp[Leaves,settle,results,Tryz.results229];exact⟨w1,hw1,rfl⟩
set_option maxRecDepth 100000 in
set_option maxHeartbeats 1600000 in
theorem Ts(b off g:Nat)(fs cap:Array Value)(w:World)(R:World→Prop)
 (h0:w.cell? ⟨b,off,none⟩=some (.int .u32 0)) (h1:w.cell? ⟨b,off+1,none⟩=some (.int .i32 0))
 (f0:w.frozen? ⟨b,off,none⟩=false) (f1:w.frozen? ⟨b,off+1,none⟩=false)
 (hin:∀w:World,(callFunc g (fs++cap)).run Tryz.prog w=.ok (.enter g (fs++cap)) w)
 (hF:Calls Tryz.prog g (fs++cap) (w.setCell ⟨b,off+1,none⟩ (.int .i32 1)) fun e w'=>e=.returned (.tuple #[])∧R w')
 (hR:∀w',R w'→w'.cell? ⟨b,off,none⟩=some (.int .u32 0)∧w'.cell? ⟨b,off+1,none⟩=some (.int .i32 1)∧w'.frozen? ⟨b,off,none⟩=false∧w'.frozen? ⟨b,off+1,none⟩=false):
 Calls Tryz.prog 197 #[.pointer (some ⟨b,off,none⟩),.func (.func g) fs cap] w fun e w'=>e=.returned (.tuple #[])∧
  ∃w1,R w1∧w'=(w1.drew.setCell ⟨b,off,none⟩ (.int .u32 1)).setCell ⟨b,off+1,none⟩ (.int .i32 0):=by
 have hl:=run_call_load (P:=Tryz.prog) Tryz.func245 (by kernel_rfl) (by kernel_rfl) (by kernel_rfl) .u32 (by kernel_rfl) h0
 have hnot:∀(x:Bool) (w:World),(Op.unary .not (.bool x)).run Tryz.prog w=.ok (.bool (!x)) w:=fun _ _=>rfl
 go_enter Tryz.func197,Tryz.ntmps197
 go_wp2_with (first|(go_at_call 229;refine(Su b off g fs cap w R h0 h1 f0 f1 hin hF hR).mono ?_;rintro e w' ⟨rfl,hw'⟩)|(go_at_call 228;go_in))
 go_end0
 exact⟨rfl,hw'⟩
theorem Ss(a:Addr)(d:Int)(hd:¬d=0)(fv:Value)(w:World)(h0:w.cell? a=some (.int .u32 d)):
 Calls Tryz.prog 197 #[.pointer (some a),fv] w fun e w'=>e=.returned (.tuple #[])∧w'=w:=by
 have hl:=run_call_load (P:=Tryz.prog) Tryz.func245 (by kernel_rfl) (by kernel_rfl) (by kernel_rfl) .u32 (by kernel_rfl) h0
 have hnot:∀(x:Bool) (w:World),(Op.unary .not (.bool x)).run Tryz.prog w=.ok (.bool (!x)) w:=fun _ _=>rfl
 have hd':(d != 0)=true:=by simp[hd]
 go_enter Tryz.func197,Tryz.ntmps197
 go_wp2
 go_end0
 exact⟨rfl,rfl⟩
theorem J6:Gw Tryz.prog 197:=⟨by kernel_rfl,Ts,fun a d fv w hd h=>Ss a d hd fv w h⟩
set_option maxRecDepth 100000
theorem QB{G:db}(d m s:Int)(tab:List Int)(ht:tab.length=256):FC Tryz.prog G 198 [(0,.rows true [dK d m s tab])] [.ptr 0 0 0] (.bN []) [(0,.rows true [dK d m s (jR tab 256)])]:=by
 refine lW 2000 Tryz.func198 rfl (by kernel_rfl) sZ (Nat.le_of_ble_eq_true (by kernel_rfl)) (by show 1≤W;decide) rfl ?_
 conv=>whnf
 refine Or.inl ?_
 conv=>whnf
 refine vW (α:=Nat) (fun k=>[(0,.ptr 0 0 0),(4,.int .i64 (k:Int))]) (fun k=>[(0,.rows true [dK d m s (jR tab k)])]) 1 (fun k=>k≤256) (fun k=>256-k) 0 [(0,0)] (by omega) rfl rfl rfl ?_
 rintro k hk
 conv=>whnf
 refine Or.inl ?_
 conv=>whnf
 refine gU (fun hb=>?_) (fun hb=>?_)
 ·have hk1:k<256:=by simp only[decide_eq_true_eq]at hb;omega
  conv=>whnf
  refine Or.inl ?_
  conv=>whnf
  refine Or.inl ?_
  conv=>whnf
  refine vW (α:=Nat×Int) (fun x=>[(9,.int .i64 (x.1:Int)),(3,.int .u32 x.2),(0,.ptr 0 0 0),(2,.int .i64 (k:Int)),(4,.int .i64 (k:Int))]) (fun _=>[(0,.rows true [dK d m s (jR tab k)])]) 1 (fun x=>x.1≤8∧iV (8-x.1) x.2=iV 8 (IntKind.u32.wrap (k:Int))) (fun x=>8-x.1) (0,IntKind.u32.wrap (k:Int)) [(0,0)] ⟨by omega,rfl⟩ rfl rfl rfl ?_
  rintro⟨j,c⟩ ⟨hj,hc⟩
  replace hj:j≤8:=hj
  replace hc:iV (8-j) c=iV 8 (IntKind.u32.wrap (k:Int)):=hc
  conv=>whnf
  refine Or.inl ?_
  conv=>whnf
  refine gU (fun hb2=>?_) (fun hb2=>?_)
  ·have hj1:j<8:=by simp only[decide_eq_true_eq]at hb2;omega
   conv=>whnf
   refine Or.inl ?_
   conv=>whnf
   refine And.intro (by decide) ?_
   conv=>whnf
   have hw:IntKind.i64.wrap ((j:Int)+1)=((j+1:Nat):Int):=by rw[A8 (by omega) (by omega)];rfl
   have hc2:iV (8-(j+1)) (pN c)=iV 8 (IntKind.u32.wrap (k:Int)):=by
    rw[←hc,show 8-j=(8-(j+1))+1 by omega];rfl
   exact uy (j+1,pN c) [(0,0)] ⟨hj1,hc2⟩ (show 8-(j+1)<8-j by omega) (bZ (congrArg (AV.int .i64) hw.symm) rfl) rfl rfl
  ·have hj8:j=8:=by simp only[decide_eq_false_iff_not]at hb2;omega
   subst hj8
   conv=>whnf
   refine Or.inl ?_
   conv=>whnf
   refine And.intro (by omega) (And.intro (by simpa using hb) ?_)
   conv=>whnf
   refine Or.inl ?_
   conv=>whnf
   refine gU (fun hb3=>?_) (fun hb3=>?_)
   ·conv=>whnf
    have hw:IntKind.i64.wrap ((k:Int)+1)=((k+1:Nat):Int):=by rw[A8 (by omega) (by omega)];rfl
    have hset:dK d m s (jR tab (k+1))=setAt (dK d m s (jR tab k)) (0+3+k*1) [.int .u32 c]:=by
     rw[show 0+3+k*1=3+k by omega,QX _ _ _ _ _ _ (by rw[Dt];omega)]
     show dK d m s ((jR tab k).set k (iV 8 (IntKind.u32.wrap (k:Int))))=_
     rw[←hc];rfl
    exact uy (k+1) [(0,0)] (show k+1≤256 by omega) (show 256-(k+1)<256-k by omega) (bZ rfl (bZ (congrArg (AV.int .i64) hw.symm) rfl)) (congrArg (fun X=>[some (AO.rows true [X])]) hset) rfl
   ·have hpos:(decide ([AV.int IntKind.u32 c].length=1)&&decide (0+3+k*1+1≤(dK d m s (jR tab k)).length))=true:=by
     simp[K5,Dt];omega
    exact absurd (hpos.symm.trans hb3) (by decide)
 ·have hk1:k=256:=by simp only[decide_eq_false_iff_not]at hb;omega
  subst hk1
  conv=>whnf
  exact kG [(0,0)] rfl rfl rfl
theorem GQ{G:db}:FC Tryz.prog G 197 [(0,.rows true [dK 0 0 0 hZ])] [.ptr 0 0 0,.fn (FB+198) [.ptr 0 0 0]] (.bN []) [(0,.rows true [dK 1 0 0 km])]:=
 UQ (p:=true) (rs:=[dK 0 0 0 hZ]) (rest:=[]) (i:=0) (c:=0) (row:=dK 0 0 0 hZ) (p1:=true) (rs1:=[dK 0 1 0 km]) (row1:=dK 0 1 0 km) (rest1:=[]) J6 (.inr rfl) (by show 1≤W;decide) rfl rfl rfl
  (QB 0 1 0 hZ (by simp[hZ])) rfl rfl rfl
theorem PY{G:db}(b:List Int)(hlim:b.length≤bm):FC Tryz.prog G 155 [(0,.rows true [dK 0 0 0 hZ])] [.ptr 0 0 0,.int .u32 0,.sl (List.map (bG .u8) b)] (.int .u32 (bU BinOp.xor IntKind.u32 (if IntKind.u32.signed=true then -1 else IntKind.u32.max) (dC c0 b))) []:=by
 refine lW 2000 Tryz.func155 rfl (by kernel_rfl) sZ (Nat.le_of_ble_eq_true (by kernel_rfl)) (by show 1≤W;decide) rfl ?_
 conv=>whnf
 refine Or.inl ?_
 conv=>whnf
 refine Or.inr (uq [0] GQ rfl rfl rfl rfl ?_)
 conv=>whnf
 refine Or.inl ?_
 conv=>whnf
 refine vW (α:=Nat×Int) (fun x=>[(23,.int .i64 (x.1:Int)),(22,.int .i64 (((List.map (bG .u8) b).length:Nat):Int)),(21,.sl (List.map (bG .u8) b)),(7,.int .u32 x.2),(0,.ptr 0 0 0)]) (fun _=>[(0,.rows true [dK 1 0 0 km])]) 1 (fun x=>x.1≤b.length∧dC x.2 (b.drop x.1)=dC c0 b) (fun x=>b.length-x.1) (0,c0) [(0,0)] ⟨by omega,rfl⟩ rfl rfl rfl ?_
 rintro⟨k,c⟩ ⟨hk,hc⟩
 replace hk:k≤b.length:=hk
 replace hc:dC c (b.drop k)=dC c0 b:=hc
 conv=>whnf
 refine Or.inl ?_
 conv=>whnf
 refine gU (fun hb=>?_) (fun hb=>?_)
 ·have hk1:k<b.length:=by simp only[List.length_map,decide_eq_true_eq]at hb;omega
  obtain⟨x,hx⟩:∃x,b[k]? =some x:=⟨_,List.getElem?_eq_getElem hk1⟩
  conv=>whnf
  refine Or.inl ?_
  conv=>whnf
  refine And.intro (by omega) ?_
  conv=>whnf
  refine fm (bG .u8 x) (na rfl (show b[((k:Int)).toNat]? =some x from hx)) ?_
  conv=>whnf
  refine Or.inl ?_
  conv=>whnf
  refine And.intro (by decide) ?_
  conv=>whnf
  have hix:=GB c x
  refine And.intro hix.1 (And.intro hix.2 ?_)
  conv=>whnf
  refine Or.inl ?_
  conv=>whnf
  refine fm (.int .u32 (km.getD (oJ c x).toNat 0)) (Hb _ hix.2) ?_
  conv=>whnf
  have hw:IntKind.i64.wrap ((k:Int)+1)=((k+1:Nat):Int):=by unfold bm at hlim;rw[A8 (by omega) (by omega)];rfl
  have hstep:dC (bU .xor .u32 (c.fdiv (2^min (Int.toNat 8) IntKind.u32.bits)) (km.getD (oJ c x).toNat 0)) (b.drop (k+1))=dC c0 b:=by
   rw[←hc,AR hx];rfl
  exact uy (k+1,bU .xor .u32 (c.fdiv (2^min (Int.toNat 8) IntKind.u32.bits)) (km.getD (oJ c x).toNat 0)) [(0,0)] ⟨hk1,hstep⟩ (show b.length-(k+1)<b.length-k by omega) (bZ (congrArg (AV.int .i64) hw.symm) rfl) rfl rfl
 ·have hk1:k=b.length:=by simp only[List.length_map,decide_eq_false_iff_not]at hb;omega
  subst hk1
  conv=>whnf
  have:c=dC c0 b:=by rw[←hc];simp[dC]
  subst this;exact kG [] rfl rfl rfl
theorem QN{G:db}(b:List Int)(hlim:b.length≤bm):FC Tryz.prog G 191 [(0,.rows true [dK 0 0 0 hZ])] [.ptr 0 0 0,.sl (List.map (bG .u8) b)] (.int .u32 (ke b)) []:=by
 refine lW 2000 Tryz.func191 rfl (by kernel_rfl) sZ (Nat.le_of_ble_eq_true (by kernel_rfl)) (by show 1≤W;decide) rfl ?_
 conv=>whnf
 refine Or.inr (uq [0] (PY b hlim) rfl rfl rfl rfl ?_)
 conv=>whnf
 exact kG [] rfl rfl rfl
theorem Rl{G:db}(b:List Int)(hlim:b.length≤bm):FC Tryz.prog G 155 [(0,.rows true [dK 0 0 0 hZ]),(1,.rows true (List.map (bG .u8) b))] [.ptr 0 0 0,.int .u32 0,.an 1 1] (.int .u32 (bU BinOp.xor IntKind.u32 (if IntKind.u32.signed=true then -1 else IntKind.u32.max) (dC c0 b))) [(1,.rows true (List.map (bG .u8) b))]:=by
 refine lW 2000 Tryz.func155 rfl (by kernel_rfl) sZ (Nat.le_of_ble_eq_true (by kernel_rfl)) (by show 2≤W;decide) rfl ?_
 conv=>whnf
 refine Or.inl ?_
 conv=>whnf
 refine Or.inr (uq [0] GQ rfl rfl rfl rfl ?_)
 conv=>whnf
 refine Or.inl ?_
 conv=>whnf
 refine vW (α:=Nat×Int) (fun x=>[(23,.int .i64 (x.1:Int)),(22,.int .i64 (((List.map (bG .u8) b).length:Nat):Int)),(21,.an 1 1),(7,.int .u32 x.2),(0,.ptr 0 0 0)]) (fun _=>[(0,.rows true [dK 1 0 0 km]),(1,.rows true (List.map (bG .u8) b))]) 2 (fun x=>x.1≤b.length∧dC x.2 (b.drop x.1)=dC c0 b) (fun x=>b.length-x.1) (0,c0) [(0,0),(1,1)] ⟨by omega,rfl⟩ rfl rfl rfl ?_
 rintro⟨k,c⟩ ⟨hk,hc⟩
 replace hk:k≤b.length:=hk
 replace hc:dC c (b.drop k)=dC c0 b:=hc
 conv=>whnf
 refine Or.inl ?_
 conv=>whnf
 refine gU (fun hb=>?_) (fun hb=>?_)
 ·have hk1:k<b.length:=by simp only[List.length_map,decide_eq_true_eq]at hb;omega
  obtain⟨x,hx⟩:∃x,b[k]? =some x:=⟨_,List.getElem?_eq_getElem hk1⟩
  conv=>whnf
  refine Or.inl ?_
  conv=>whnf
  refine And.intro (by omega) ?_
  conv=>whnf
  refine fm (bG .u8 x) (na rfl (show b[((k:Int)).toNat]? =some x from hx)) ?_
  conv=>whnf
  refine fm (bG .u8 x) (na rfl (show b[((k:Int)).toNat]? =some x from hx)) ?_
  conv=>whnf
  refine Or.inl ?_
  conv=>whnf
  refine And.intro (by decide) ?_
  conv=>whnf
  have hix:=GB c x
  refine And.intro hix.1 (And.intro hix.2 ?_)
  conv=>whnf
  refine Or.inl ?_
  conv=>whnf
  refine fm (.int .u32 (km.getD (oJ c x).toNat 0)) (Hb _ hix.2) ?_
  conv=>whnf
  have hw:IntKind.i64.wrap ((k:Int)+1)=((k+1:Nat):Int):=by unfold bm at hlim;rw[A8 (by omega) (by omega)];rfl
  have hstep:dC (bU .xor .u32 (c.fdiv (2^min (Int.toNat 8) IntKind.u32.bits)) (km.getD (oJ c x).toNat 0)) (b.drop (k+1))=dC c0 b:=by
   rw[←hc,AR hx];rfl
  exact uy (k+1,bU .xor .u32 (c.fdiv (2^min (Int.toNat 8) IntKind.u32.bits)) (km.getD (oJ c x).toNat 0)) [(0,0),(1,1)] ⟨hk1,hstep⟩ (show b.length-(k+1)<b.length-k by omega) (bZ (congrArg (AV.int .i64) hw.symm) rfl) rfl rfl
 ·have hk1:k=b.length:=by simp only[List.length_map,decide_eq_false_iff_not]at hb;omega
  subst hk1
  conv=>whnf
  have:c=dC c0 b:=by rw[←hc];simp[dC]
  subst this;exact kG [(1,1)] rfl rfl rfl
theorem Qg{G:db}(b:List Int)(hlim:b.length≤bm):FC Tryz.prog G 191 [(0,.rows true [dK 0 0 0 hZ]),(1,.rows true (List.map (bG .u8) b))] [.ptr 0 0 0,.an 1 1] (.int .u32 (ke b)) [(1,.rows true (List.map (bG .u8) b))]:=by
 refine lW 2000 Tryz.func191 rfl (by kernel_rfl) sZ (Nat.le_of_ble_eq_true (by kernel_rfl)) (by show 2≤W;decide) rfl ?_
 conv=>whnf
 refine Or.inr (uq [0,1] (Rl b hlim) rfl rfl rfl rfl ?_)
 conv=>whnf
 exact kG [(1,1)] rfl rfl rfl
theorem JH{G:db}:FC Tryz.prog G 40 [] [] (.ptr 0 0 0) [(0,.rows true [dK 0 0 0 hZ])]:=by
 refine QS 0 (os:=[(0,.rows false [dK 0 0 0 hZ])]) (rs:=[dK 0 0 0 hZ]) ?_ (by show 0≤W;decide) rfl rfl rfl (kG [(0,0)] rfl rfl rfl)
 refine lW 2000 Tryz.func40 rfl (by kernel_rfl) sZ (Nat.le_of_ble_eq_true (by kernel_rfl)) (by show 0≤W;decide) rfl ?_
 conv=>whnf
 refine Or.inl ?_
 conv=>whnf
 refine Or.inl ?_
 conv=>whnf
 exact kG [(0,96)] rfl rfl rfl
theorem Si{G:db}(tb:Bool):FC Tryz.prog G 197 [(0,.rows true [dn tb])] [.ptr 0 0 0,.fn (FB+198) [.ptr 0 0 0]] (.bN []) [(0,.rows true [dn true])]:=by
 cases tb with
 |false=>exact GQ
 |true=>exact Uz (p:=true) (rs:=[dK 1 0 0 km]) (rest:=[]) (i:=0) (c:=0) (row:=dK 1 0 0 km) (d:=1) J6 rfl rfl rfl (by decide)
theorem Rk{G:db}(tb:Bool)(s:Int)(b:List Int)(hlim:b.length≤bm):FC Tryz.prog G 155 [(0,.rows true [dn tb]),(1,.rows true (List.map (bG .u8) b))] [.ptr 0 0 0,.int .u32 s,.an 1 1] (.int .u32 (Au s b)) [(0,.rows true [dn true]),(1,.rows true (List.map (bG .u8) b))]:=by
 refine lW 2000 Tryz.func155 rfl (by kernel_rfl) sZ (Nat.le_of_ble_eq_true (by kernel_rfl)) (by show 2≤W;decide) rfl ?_
 conv=>whnf
 refine Or.inl ?_
 conv=>whnf
 refine Or.inr (uq [0] (Si tb) rfl rfl rfl rfl ?_)
 conv=>whnf
 refine Or.inl ?_
 conv=>whnf
 refine vW (α:=Nat×Int) (fun x=>[(23,.int .i64 (x.1:Int)),(22,.int .i64 (((List.map (bG .u8) b).length:Nat):Int)),(21,.an 1 1),(7,.int .u32 x.2),(0,.ptr 0 0 0)]) (fun _=>[(0,.rows true [dK 1 0 0 km]),(1,.rows true (List.map (bG .u8) b))]) 2 (fun x=>x.1≤b.length∧dC x.2 (b.drop x.1)=dC (cN s) b) (fun x=>b.length-x.1) (0,cN s) [(0,0),(1,1)] ⟨by omega,rfl⟩ rfl rfl rfl ?_
 rintro⟨k,c⟩ ⟨hk,hc⟩
 replace hk:k≤b.length:=hk
 replace hc:dC c (b.drop k)=dC (cN s) b:=hc
 conv=>whnf
 refine Or.inl ?_
 conv=>whnf
 refine gU (fun hb=>?_) (fun hb=>?_)
 ·have hk1:k<b.length:=by simp only[List.length_map,decide_eq_true_eq]at hb;omega
  obtain⟨x,hx⟩:∃x,b[k]? =some x:=⟨_,List.getElem?_eq_getElem hk1⟩
  conv=>whnf
  refine Or.inl ?_
  conv=>whnf
  refine And.intro (by omega) ?_
  conv=>whnf
  refine fm (bG .u8 x) (na rfl (show b[((k:Int)).toNat]? =some x from hx)) ?_
  conv=>whnf
  refine fm (bG .u8 x) (na rfl (show b[((k:Int)).toNat]? =some x from hx)) ?_
  conv=>whnf
  refine Or.inl ?_
  conv=>whnf
  refine And.intro (by decide) ?_
  conv=>whnf
  have hix:=GB c x
  refine And.intro hix.1 (And.intro hix.2 ?_)
  conv=>whnf
  refine Or.inl ?_
  conv=>whnf
  refine fm (.int .u32 (km.getD (oJ c x).toNat 0)) (Hb _ hix.2) ?_
  conv=>whnf
  have hw:IntKind.i64.wrap ((k:Int)+1)=((k+1:Nat):Int):=by unfold bm at hlim;rw[A8 (by omega) (by omega)];rfl
  have hstep:dC (bU .xor .u32 (c.fdiv (2^min (Int.toNat 8) IntKind.u32.bits)) (km.getD (oJ c x).toNat 0)) (b.drop (k+1))=dC (cN s) b:=by
   rw[←hc,AR hx];rfl
  exact uy (k+1,bU .xor .u32 (c.fdiv (2^min (Int.toNat 8) IntKind.u32.bits)) (km.getD (oJ c x).toNat 0)) [(0,0),(1,1)] ⟨hk1,hstep⟩ (show b.length-(k+1)<b.length-k by omega) (bZ (congrArg (AV.int .i64) hw.symm) rfl) rfl rfl
 ·have hk1:k=b.length:=by simp only[List.length_map,decide_eq_false_iff_not]at hb;omega
  subst hk1
  conv=>whnf
  have:c=dC (cN s) b:=by rw[←hc];simp[dC]
  subst this;exact kG [(0,0),(1,1)] rfl rfl rfl
set_option maxHeartbeats 4000000
theorem UC:∃i0 z,Tryz.prog.info? 59=some i0∧i0.zero=some z∧i0.size=4∧z.cells.size=4∧i0.bytes≤1024:=by
 refine⟨_,_,rfl,rfl,rfl,rfl,?_⟩
 decide
theorem UE(i0:TypeInfo)(z:Value)(hi0:Tryz.prog.info? 59=some i0)(hz0:i0.zero=some z)(zs:List Value)(hz:(Builtin.zeroCells z.cells 1).toList=zs):∀v∈zs,v.oneCell'=true:=by
 have hi:∃i1 z1,Tryz.prog.info? 59=some i1∧i1.zero=some z1∧((Builtin.zeroCells z1.cells 1).toList.all fun v=>v.oneCell')=true:=⟨_,_,rfl,rfl,by kernel_rfl⟩
 obtain⟨i1,z1,h1,h2,h3⟩:=hi
 rw[hi0]at h1
 obtain rfl:=Option.some.inj h1
 rw[hz0]at h2
 obtain rfl:=Option.some.inj h2
 subst hz;intro v hv;exact List.all_eq_true.1 h3 v hv
theorem Qz(b off n c i:Nat)(cs:List Value)(w:World)(hi:i<n)(hnc:n≤c)(hL:n≤bm)(hcl:cs.length=n*4)(hcs:∀(j:Nat) v,cs[j]? =some v→w.cell? ⟨b,off+j,none⟩=some v)
 (hfz:∀j,j<n*4→w.frozen? ⟨b,off+j,none⟩=false) (h1c:∀v∈cs,v.oneCell'=true):
 Calls Tryz.prog 161 #[.slice (some ⟨b,off,none⟩) n c,.int .i64 i,.int .i64 ((i:Int)+1)] w fun e w'=>
  ∃zs:List Value,e=.returned (.slice (some ⟨b,off,none⟩) (n-1) c)∧zs.length=4∧w'=(w.drew.setCells b (off+i*4) (cs.drop ((i+1)*4))).setCells b (off+(n-1)*4) zs:=by
 have hL':n≤1073741824:=hL
 have mixed:=sZ
 obtain⟨i0,z,hi0,hz0,hzs,hzc,hzb⟩:=UC
 obtain⟨news,hnews⟩:∃news,news=cs.drop ((i+1)*4):=⟨_,rfl⟩
 have hlen:news.length=(n-(i+1))*4:=by rw[hnews,List.length_drop,hcl,Nat.sub_mul]
 obtain⟨A,hA,hsrc⟩:∃A:Addr,(if c=i+1 then some (⟨b,off,none⟩:Addr)else some ⟨b,off+(i+1)*4,none⟩)=some A∧Hid (∀t u,news[t]? =some u→w.drew.cell? (A.add t)=some u):=by
  by_cases h:c=i+1
  ·refine⟨⟨b,off,none⟩,by simp[h],fun t u hu=>?_⟩
   have h0:news.length=0:=by rw[hlen,show n-(i+1)=0 by omega];first|done|omega
   rw[List.length_eq_zero_iff.1 h0]at hu;simp at hu
  ·refine⟨⟨b,off+(i+1)*4,none⟩,by simp[h],fun t u hu=>?_⟩
   rw[Addr.add_lit,Nat.add_assoc]
   rw[hnews,List.getElem?_drop]at hu
   exact hcs _ u hu
 have s1:Hid (news.length=(n-(i+1))*4):=hlen
 have s2:Hid (∀u∈news,u.oneCell'=true):=by
  intro u hu;rw[hnews]at hu;exact h1c u (List.mem_of_mem_drop hu)
 have hsome:∀j,j<n*4→(w.cell? ⟨b,off+j,none⟩).isSome=true:=fun j hj=>by
  rw[hcs j _ (List.getElem?_eq_getElem (by omega))];rfl
 have s3:Hid (∀t,t<news.length→(w.drew.cell? ⟨b,off+i*4+t,none⟩).isSome=true∧w.drew.frozen? ⟨b,off+i*4+t,none⟩=false):=by
  intro t ht;rw[hlen]at ht;rw[Nat.add_assoc]
  exact⟨hsome _ (by omega),hfz _ (by omega)⟩
 obtain⟨W1,hW1⟩:∃W1,W1=w.drew.setCells b (off+i*4) news:=⟨_,rfl⟩
 obtain⟨zs,hzs2⟩:∃zs,(Builtin.zeroCells z.cells 1).toList=zs:=⟨_,rfl⟩
 have hzl:zs.length=4:=by
  rw[←hzs2,Array.length_toList];simp[Builtin.zeroCells,hzc]
 have hz1:∀v∈zs,v.oneCell'=true:=UE i0 z hi0 hz0 zs hzs2
 have hW1c:∀j,j<n*4→(W1.cell? ⟨b,off+j,none⟩).isSome=true:=fun j hj=>by
  rw[hW1]
  exact isSome_setCells b _ _ _ (fun t ht=>by rw[Nat.add_assoc];exact hsome _ (by rw[hlen]at ht;omega)) _ (hsome j hj)
 have hcl1:∀ty cc,(Builtin.clear_ #[56] ty #[.slice (some ⟨b,off+(n-1)*4,none⟩) 1 cc]).run Tryz.prog W1=.ok (.tuple #[]) (W1.setCells b (off+(n-1)*4) zs):=fun ty cc=>
  UL W1 56 59 ty i0 z Tryz.underlying56 hi0 hz0 b (off+(n-1)*4) cc zs hzs2 hz1 (fun j hj=>by rw[Nat.add_assoc];exact hW1c _ (by omega)) (fun j hj=>by rw[hW1,World.frozen?_setCells,Nat.add_assoc];exact hfz _ (by omega))
 have hW:Hid (W1=w.drew.setCells b (off+i*4) news):=hW1
 have hic:i≤c:=by omega
 have hjc:i+1≤c:=by omega
 have hji:¬((i:Int)=(i:Int)+1):=by omega
 have hb1:(0:Int)≤(i:Int)+1:=by omega
 have htn:((i:Int)+1).toNat=i+1:=by omega
 have hjn:(i:Int)+1≤(n:Int):=by omega
 have hk1:i+(n-(i+1))=n-1:=by omega
 have hk2:n-(n-1)=1:=by omega
 have hkn:n-1≤n:=by omega
 have hkc:¬(c=n-1):=by omega
 have hout:Hid (zs.length=4):=hzl
 have hnw:Hid (news=cs.drop ((i+1)*4)):=hnews
 clear hnews hlen hsome hW1c hW1 hz0 hzc hzs2 hz1 hzl hcs hfz h1c
 go_enter Tryz.func161,Tryz.ntmps161
 go_wp2_with fail
 go_region_law_o (refine step_append_room rfl (.tmp 22) (.tmp 25) 56 rfl 59 i0 4 Tryz.underlying56 hi0 hzs b off i c (by simp[Act.eval,Act.put]) A (n-(i+1)) (c-(i+1)) news (by simp[Act.eval,Act.put]) s1.out hsrc.out s2.out (by omega) s3.out ?_;rw[←hW.out])
 go_wp2_with (at_builtin;fail)
 go_ret
 exact⟨zs,rfl,hout.out,by rw[hW.out,hnw.out]⟩
theorem TT:uW Tryz.prog 161 4:=⟨by kernel_rfl,Qz⟩
theorem Qd{G:db}(l:List Int)(hl:l.length≤bm):FC Tryz.prog G 90 [(0,.rows true (List.map (bG .i64) l))] [.an 0 1] (.bN []) [(0,.rows true (List.map (bG .i64) (eD l)))]:=
 Ro (by kernel_rfl) (fun bd off cap zs w a b c=>Tryz.slices_Sort_int bd off cap zs w a b c) (fun p cap w=>Tryz.slices_Sort_int_none p cap w) l hl
section
open Go Go.Ab Go.Proofs Go.RowKit Go.Shelf
set_option maxRecDepth 100000 in
set_option maxHeartbeats 2000000 in
theorem JW:Gt Tryz.prog 140:=by
 refine⟨by kernel_rfl,fun l pa zs J W hlim hJ hY h0=>?_⟩
 obtain⟨v0,hv0,a0,cap0,rfl,hc0⟩:=hJ 0 W h0
 unfold bm at hlim
 refine callsIn_of_wp Tryz.func140 rfl trivial ?_ rfl
 simp only[Tryz.ntmps140,List.size_toArray,List.length_cons,List.length_nil,Nat.reduceAdd,Nat.reduceSub,Array.replicate_succ,Array.replicate_zero,List.push_toArray,List.append_toArray,List.nil_append,List.cons_append]
 gi_wp2
 gi_loopw [3] (fun i wr=>∃k:Nat,k≤zs.length∧i=.int .i64 ((zs.length:Int)-1-k)∧J k wr) (fun i _=>(RowKit.intOf i+1).toNat)
 case atStart=>exact⟨0,Nat.zero_le _,by simp,h0⟩
 case round=>
  obtain⟨k,hk,rfl,hJs⟩:=hrel
  obtain⟨v1,hv1,a1,cap1,rfl,hc1⟩:=hJ k wr hJs
  by_cases hlt:k<zs.length
  ·have hj:zs.length-1-k<zs.length:=by omega
   obtain⟨ad,rfl,hsp,hcx⟩:=hc1 (zs.length-1-k) zs[zs.length-1-k] (List.getElem?_eq_getElem hj)
   obtain⟨b,off,sp⟩:=ad
   simp only at hsp hcx;subst hsp
   have hrv:zs.reverse[k]? =some zs[zs.length-1-k]:=by
    rw[List.getElem?_reverse hlt,List.getElem?_eq_getElem hj]
   obtain⟨fn,tmps,assign,body,hy,hR⟩:=hY k _ wr hrv hJs
   have hix:((zs.length-1-k:Nat):Int)=(zs.length:Int)-1-k:=by omega
   rw[hix]at hy
   have hcx2:wr.cell? ⟨b,off+((zs.length:Int)-1-k).toNat,none⟩=some (.int .i64 zs[zs.length-1-k]):=by
    rw[show((zs.length:Int)-1-k).toNat=zs.length-1-k by omega];exact hcx
   have hge:((zs.length:Int)-1-k)≥0:=by omega
   gi_wp2
   refine⟨rfl,hR.mono ?_⟩
   rintro e W3 ⟨rfl,hJ3⟩
   gi_wp2
   go_roundw
   case rel=>exact⟨k+1,hlt,by simp;omega,hJ3⟩
   case measure=>simp[RowKit.intOf];omega
  ·obtain rfl:k=zs.length:=by omega
   gi_wp2
   go_end0
   exact⟨⟨_,rfl⟩,hJs⟩
theorem Qs{G:db}(l:List Int):FC Tryz.prog G 91 [] [.sl (List.map (bG .i64) l)] (.fn 140 [.rp [.sl (List.map (bG .i64) l)] 0]) []:=by
 refine eT (rv:=.fn 140 [.ptr 0 0 0]) (os':=[(0,.rows false [[.sl (List.map (bG .i64) l)]])]) (lW 2000 Tryz.func91 rfl (by kernel_rfl) sZ (Nat.le_of_ble_eq_true (by kernel_rfl)) (by show 0≤W;decide) rfl ?_) rfl
 conv=>whnf
 refine Or.inl ?_
 conv=>whnf
 exact kG [(0,32)] rfl rfl rfl
end
section
open Go Go.Ab Go.Proofs Go.RowKit
set_option maxRecDepth 100000 in
set_option maxHeartbeats 4000000 in
theorem Uo(s:ByteArray)(w:World)(hl:s.data.toList.length≤1073741824)(e0 e1:Value)(hv0:w.cell? ⟨0,0,none⟩=some e0)(hv1:w.cell? ⟨1,0,none⟩=some e1)
 (he0:e0=.nilIface∨∃te pe,e0=.iface te pe) (he1:e1=.nilIface∨∃te pe,e1=.iface te pe) (htab:Lib.TabIs Tryz.prog w "internal/strconv.uint64pow10" .u64 Lib.pow10Tab):
 Calls Tryz.prog 89 #[.string s] w fun e w'=>e=.returned (.int .i64 (jz s.data.toList))∧dF w w':=by
 have hcut:=Tryz.strings_CutPrefix s ⟨#[108,111,103,45]⟩ w
 rw[show(ByteArray.mk #[108,111,103,45]).data.toList=cv from rfl]at hcut
 have hdl:=R8 s.data.toList cv
 unfold jz;generalize Lib.hasPrefix s.data.toList cv=p at hcut⊢;generalize Lib.trimPrefix s.data.toList cv=d at hcut hdl⊢
 have hd:d.length≤1073741824:=Nat.le_trans hdl hl
 clear hdl hl
 have hbl:(ByteArray.mk d.toArray).data.toList=d:=List.toList_toArray
 have hbs:(ByteArray.mk d.toArray).size=d.length:=by simp[ByteArray.size]
 cases ha:Lib.atoiAll d with
 |ok v=>
  have hat:=Tryz.strconv_Atoi_ok ⟨d.toArray⟩ (by rw[hbs];omega) v (by rw[hbl];exact ha) w
  have hat2:Calls Tryz.prog 137 #[.string ⟨d.toArray⟩] w fun e w'=>e=.returned (.tuple #[.int .i64 v,.nilIface])∧dF w w':=hat.mono (by
   rintro e w' ⟨rfl,rfl|⟨t,rfl⟩⟩
   ·exact⟨rfl,dF.refl _⟩
   ·exact⟨rfl,dF.bytes _ _ _⟩)
  obtain⟨hv1,hv2⟩:=Lib.atoiAll_bounds ha
  have hit:∀w1,dF w w1→Calls Tryz.prog 92 #[.int .i64 v] w1 fun e w'=>e=.returned (.string ⟨(Lib.itoa v).toArray⟩)∧dF w1 w':=fun w1 hk=>(Tryz.strconv_Itoa v hv1 hv2 w1 (R2 hk htab)).mono (by
   rintro e w' ⟨rfl,k,os,rfl⟩
   exact⟨rfl,rfl,rfl,by rw[Go.Sort.size_grow];exact Nat.le_add_right _ _,fun b hb=>(Go.Sort.heap_grow_old (w1.drewN k) os hb).trans rfl⟩)
  clear hat hbl hbs htab hv0 hv1 he0 he1;simp only
  have key:∀Ans:Int→Prop,PV p d v Ans→Calls Tryz.prog 89 #[.string s] w fun e w'=>(∃n,e=.returned (.int .i64 n)∧Ans n)∧dF w w':=by
   intro Ans hA
   go_enter Tryz.func89,Tryz.ntmps89
   go_wp2_with (first
    |(go_at_call 136;refine hcut.mono ?_;rintro e w' ⟨rfl,rfl⟩)
    |(go_at_call 137;refine hat2.mono ?_;rintro e w1 ⟨rfl,hw1⟩)
    |(go_at_call 92;refine(hit _ hw1).mono ?_;rintro e w2 ⟨rfl,hw2⟩))
   all_goals go_ret
   all_goals first
    |exact⟨⟨0,rfl,hA.no (by
     rintro⟨h1,h2,h3,h4⟩
     first
     |omega
     |(simp_all;done)
     |(
      rcases(by assumption:(9<(d.length:Int)∨v<1)∨(!Lib.itoa v==d)=true)with (h|h)|h
      ·omega
      ·omega
      ·simp[h4]at h))⟩,by first|exact hw1.trans hw2|exact hw1⟩
    |exact⟨⟨v,rfl,hA.yes (by first|assumption|(simp_all;done)) (by first|omega|(simp_all;done)|(simp_all;omega)) (by first|omega|(simp_all;done)|(simp_all;omega)) (by first|(simp_all;done)|(simp_all;omega))⟩,by first|exact hw1.trans hw2|exact hw1⟩
  refine(key (fun n=>n=if p=true∧d.length≤9∧1≤v∧Lib.itoa v=d then v else 0) ⟨fun h=>(if_neg h).symm,fun h1 h2 h3 h4=>(if_pos ⟨h1,h2,h3,h4⟩).symm⟩).mono ?_
  rintro e w' ⟨⟨n,rfl,h⟩,hk⟩
  exact⟨by rw[h],hk⟩
 |range=>
  have hat:=Tryz.strconv_Atoi_range ⟨d.toArray⟩ (by rw[hbs];omega) (by rw[hbl];exact ha) e1 w hv1 he1
  have hat2:Calls Tryz.prog 137 #[.string ⟨d.toArray⟩] w fun e w'=>(∃N n,e=.returned (.tuple #[.int .i64 n,.iface 294 (.pointer (some ⟨N,0,none⟩))]))∧dF w w':=hat.mono (by
   rintro e w' ⟨N,rfl,_,_,hb⟩;exact⟨⟨N,_,rfl⟩,dF.below hb⟩)
  clear hat hbl hbs htab hv0 hv1 he0 he1;simp only
  go_enter Tryz.func89,Tryz.ntmps89
  go_wp2_with (first
   |(go_at_call 136;refine hcut.mono ?_;rintro e w' ⟨rfl,rfl⟩)
   |(go_at_call 137;refine hat2.mono ?_;rintro e w1 ⟨⟨N,n,rfl⟩,hw1⟩))
  all_goals go_ret
  all_goals exact⟨rfl,hw1⟩
 |_=>
  have hat:=Tryz.iR ⟨d.toArray⟩ (by rw[hbs];omega) (by rw[hbl];intro n;rw[ha];exact fun q=>by cases q) (by rw[hbl,ha];exact fun q=>by cases q) e0 w hv0 he0
  have hat2:Calls Tryz.prog 137 #[.string ⟨d.toArray⟩] w fun e w'=>(∃N,e=.returned (.tuple #[.int .i64 0,.iface 294 (.pointer (some ⟨N,0,none⟩))]))∧dF w w':=hat.mono (by
   rintro e w' ⟨N,rfl,_,_,hb⟩;exact⟨⟨N,rfl⟩,dF.below hb⟩)
  clear hat hbl hbs htab hv0 hv1 he0 he1;simp only
  go_enter Tryz.func89,Tryz.ntmps89
  go_wp2_with (first
   |(go_at_call 136;refine hcut.mono ?_;rintro e w' ⟨rfl,rfl⟩)
   |(go_at_call 137;refine hat2.mono ?_;rintro e w1 ⟨⟨N,rfl⟩,hw1⟩))
  all_goals go_ret
  all_goals exact⟨rfl,hw1⟩
theorem S5{ml:Gv}(s:List UInt8)(hl:s.length≤bm):FC Tryz.prog (GM ml) 89 [] [.str s] (.int .i64 (jz s)) []:=by
 refine JQ (by kernel_rfl) fun S ι w vs _ hG hL=>?_
 obtain⟨u,rfl,h1⟩:=oe hL
 obtain rfl:=h1.cx
 have c0:=ow.ei hG (g:=0) (v:=ml.e0) rfl
 have c1:=ow.ei hG (g:=1) (v:=ml.e1) rfl
 refine(Uo ⟨s.toArray⟩ w (by simpa[bm]using hl) ml.e0 ml.e1 c0 c1 ml.h0 ml.h1 (JL (g:=2) hG rfl (by kernel_rfl))).mono ?_
 rintro e w' ⟨rfl,hk⟩
 refine⟨_,rfl,hk,fun S w=>?_⟩
 exact .int _ _
end
section
open Go Go.Ab Go.Proofs Go.RowKit Go.Maps
theorem HG:Keyed Tryz.prog 9:=string_keyed Tryz.underlying9
theorem UG:(Tryz.prog.info? 9).map (fun i=>(i.zero,i.size,i.bytes))=some (some (.string ⟨#[]⟩),1,16):=by kernel_rfl
def RN{H:Type}:Value→Option (DataW H×List MemPlace):=fun _=>some (.nil,[])
set_option maxRecDepth 100000 in
set_option maxHeartbeats 2000000 in
theorem UF{H:Type}(b o mb n:Nat)(D0:DataW H)(w:World)(hc:w.cell? ⟨b,o,none⟩=some (.map (some mb)))(hown:w.ownsMap Tryz.prog 9 RN mb n D0)(hmax:Maps.size D0≤1073741824):
 Calls Tryz.prog 88 #[.pointer (some ⟨b,o,none⟩)] w fun e w'=>∃(v:Value) (ss:List (List UInt8)),e=.returned v∧ss.Perm (strKeys D0)∧
  w'.ownsRow w.heap.size 9 1 v ss.length ((ss.mergeSort (fun x y=>decide (x≤y))).map encStr)∧Below w.heap.size w w':=by
 obtain⟨i0,hi,hz0,hz1,hz2⟩:=info_parts UG
 have hbl:=hown.lt
 go_enter Tryz.func88,Tryz.ntmps88
 go_wp2_with (first
  |(at_range;refine wpList_range_own _ rfl _ 140 rfl 9 80 HG Tryz.underlying140 _ mb n _ rfl hown ?_;intro w0 hrg0 hg0 hs0)
  |go_in)
 go_frame
 go_loopw [3] (fun v wr=>∃(left:Lit→Bool) (dO:Nat) (ss:List (List UInt8)),wr.ranges Tryz.prog 9 RN mb w.heap.size n D0 left dO∧ss.length+dO≤Maps.size D0∧
  wr.ownsRow w.heap.size 9 1 v ss.length (ss.map encStr)∧Collected D0 left ss∧Below w.heap.size w wr)
  (fun _ wr=>wr.rangeLeft mb w.heap.size)
 case atStart=>
  exact⟨_,_,[],hrg0,by simp,⟨rfl,.inl ⟨rfl,rfl⟩⟩,Collected.start D0,(Below.refl _ _).grown hg0 (Nat.le_refl _) (fun j hj=>by cases hj)⟩
 case round=>
  obtain⟨left,dO,ss,hrg,hcs,hrow,hC,hnx⟩:=hrel
  go_wp2_with (first
   |(at_next;refine wpList_next_ranges _ rfl _ rfl 9 HG RN encStr (fun v:Value=>v) (fun key kl hk=>by obtain⟨x,hx,_⟩:=Maps.keyOf_str Tryz.underlying9 hk;exact⟨x,hx⟩) (fun v y hv=>⟨v,rfl⟩) mb w.heap.size n _ _ _ rfl hrg ?_ ?_)
   |go_in)
  ·intro hc0 hl0
   have hp:=hC.perm hown HG Tryz.underlying9 hl0
   rcases hrow.2 with ⟨hnil,hnil2⟩|⟨g,cap,cur,rfl,hbase,hb,h1,h2,h3,h4⟩
   ·have hss:ss=[]:=List.length_eq_zero_iff.1 hnil2
    subst hss;subst hnil
    have hc:=Tryz.slices_Sort_string_none none 0 wr
    go_wp2_with (go_at_call 135;refine hc.mono ?_;rintro e w' ⟨rfl,rfl⟩)
    go_ret
    exact⟨_,[],rfl,hp,⟨by simp,.inl ⟨rfl,rfl⟩⟩,hnx⟩
   ·have hH:Go.Sort.Holds encStr wr g 0 ss.toArray:=holds_of_block hb (by simpa using h4)
    have hgl:g<wr.heap.size:=(Array.getElem?_eq_some_iff.1 hb).1
    have hc:=Tryz.slices_Sort_string g 0 cap ss wr hH hgl (by omega)
    go_wp2_with (go_at_call 135;refine hc.mono ?_;rintro e w' ⟨rfl,nn,os,rfl⟩)
    go_ret
    exact⟨_,ss,rfl,hp,ownsRow_sorted (by simp) hbase hb h1 h2 h3,hnx.grown (grownBy_sorted _) hnx.size (fun j hj=>by cases hj;exact hbase)⟩
  ·intro x c kl yd yp w2 cnt2 hkey hlk hv hat hrg2 hlt hg2 hs2 hen
   obtain⟨x',ex,rfl,_⟩:=Maps.keyOf_str Tryz.underlying9 hkey
   obtain rfl:x=x':=encStr_inj ex
   have hrow2:=hrow.kept hg2 (Or.inr (row_ne_iter hrow hrg).symm)
   clear hs2
   go_wp2_with (first
    |(at_builtin;refine wpList_append_own _ rfl _ _ 181 rfl w.heap.size 9 i0 (.string ⟨#[]⟩) 1 16 Tryz.underlying181 hi hz0 hz1 hz2 rfl (by decide) _ _ _ rfl (hrow2.alloc _) ⟨w2.heap.size,0,none⟩ 1 1 [encStr x] rfl rfl (cell_one_new _ _ _) (by simp[Value.oneCell',encStr]) (by unfold maxLen at*;omega) (by omega) (by have:=hnx.size;have:=hg2.size;simp;omega) ?_;intro v' w3 hown' hg3 hnil3;go_frame)
    |go_in)
   have hrg3:=(hrg2.alloc _).kept hg3 (row_ne_low hrow2 hbl) (row_ne_iter hrow2 hrg2)
   go_roundw
   case rel=>
    refine⟨_,cnt2,ss++[x],hrg3,by simp;omega,by simpa using hown',hC.step hlk hat,?_⟩
    exact((hnx.grown hg2 hnx.size (fun j hj=>by cases hj;exact Nat.le_refl _)).alloc (by have:=hnx.size;have:=hg2.size;omega) _).grown hg3 (by have:=hnx.size;have:=hg2.size;simp;omega) (fun j hj=>(hrow2.lt j hj).1)
   case measure=>rw[hrg3.left_eq,hrg.left_eq];exact hlt
theorem SX{S:Nat→Prop}{w:World}{ι:ax}{mb:Nat}{fs:List (List UInt8×List Int)}{xs:Array MapEntry}{clock:Nat}(hheap:w.heap[mb]? =some (.map xs clock))(hlim:ny xs clock)
 (hF:kN S w ι 1 (dT (fun k=>AV.str k) (bG .u8) fs) none xs) (hle:(fs.all fun e=>decide (e.1.length≤bm))=true):
 ∃D0:DataW Unit,w.ownsMap Tryz.prog 9 RN mb xs.size D0∧Maps.size D0=fs.length∧(strKeys D0).Perm (fs.map Prod.fst):=by
 have hlen:fs.length=xs.size:=by have:=hF.1;simpa[dT]using this
 have hkey:∀(i:Nat) e x,fs[i]? =some e→xs[i]? =some x→x.key=encStr e.1:=by
  intro i e x he hx
  have:=(hF.2.1 i (.str e.1,e.2.map (bG .u8)) x (by simp[dT,he]) hx).1
  have h2:=(bP.bI (ι:=ι) _ _ this).cx
  exact h2
 have hrd:∀(i:Nat) e x,fs[i]? =some e→xs[i]? =some x→Go.WideElems.rd (H:=Unit) Tryz.prog 9 RN x=some (.string e.1,.nil):=by
  intro i e x he hx
  have h1:=hkey i e x he hx
  have hl:e.1.length≤bm:=by
   have:=List.all_eq_true.1 hle e (List.mem_of_getElem? he)
   simpa using this
  have hk:keyOf Tryz.prog 9 (encStr e.1)=some (.string e.1):=by
   have hsz:(ByteArray.mk e.1.toArray).size≤maxLen:=by
    simp only[ByteArray.size,List.size_toArray];unfold bm at hl;unfold maxLen;omega
   simp[keyOf,Tryz.underlying9,encStr,mapKey,hsz]
  unfold Go.WideElems.rd;rw[h1,hk];rfl
 have hget:∀x∈xs.toList,∃(i:Nat) (e:List UInt8×List Int),fs[i]? =some e∧xs[i]? =some x:=by
  intro x hx
  obtain⟨i,hi⟩:=List.getElem?_of_mem hx
  rw[Array.getElem?_toList]at hi
  have hil:=(Array.getElem?_eq_some_iff.1 hi).1
  exact⟨i,fs[i]'(by omega),List.getElem?_eq_getElem _,hi⟩
 refine⟨.map ((xs.toList.map (Go.WideElems.rg Tryz.prog 9 RN)).foldr DataW.insert []),⟨xs,clock,hheap,⟨by have:=hlim.1;unfold bm at this;unfold maxLen;omega,hlim.2,fun x hx=>?_⟩,Nat.le_refl _,rfl⟩,?_,?_⟩
 ·obtain⟨i,e,h1,h2⟩:=hget x hx
  exact⟨_,hrd i e x h1 h2⟩
 ·rw[Maps.size_eq,(Go.WideShapes.sorted_perm _).length_eq];simp[hlen]
 ·refine((Go.WideShapes.sorted_perm _).map _).trans (List.Perm.of_eq ?_)
  rw[List.map_map];apply List.ext_getElem?;intro i
  rw[List.getElem?_map,List.getElem?_map,Array.getElem?_toList]
  by_cases hi:i<fs.length
  ·have he:=List.getElem?_eq_getElem hi
   have hx:=Array.getElem?_eq_getElem (xs:=xs) (i:=i) (by omega)
   rw[hx,he];simp only[Option.map_some,Function.comp,Option.some.injEq];rw[Go.WideElems.rg_of (hrd i _ _ he hx)];rfl
  ·rw[List.getElem?_eq_none (by omega),Array.getElem?_eq_none (by omega)]
   rfl
theorem SQ{S:Nat→Prop}{w:World}{ι:ax}{o q:Nat}{row:List AV}(h:ca S w ι o (.rows false [.aw q::row])){l:Ab.Loc}(hl:ι o=some (some l)):
 ∃lq,ι q=some (some lq)∧w.cell? ⟨l.bd,l.base+(0*l.bo+0),none⟩=some (.map (some lq.bd)):=by
 rcases h with ⟨_,h⟩|⟨l',vals,q',hcnt,hm,hat,hrep⟩
 ·cases h
 ·rw[q']at hl;injection hl with hl;injection hl with hl;subst hl
  have hR:=hrep 0 _ rfl
  simp only[Bool.false_eq_true,if_false]at hR
  obtain⟨x,hx⟩:∃x,(vals 0)[0]? =some x:=⟨_,List.getElem?_eq_getElem (by rw[←hR.1];simp)⟩
  obtain⟨lq,hq,rfl⟩:=(hR.2 0 _ x rfl hx).cK
  exact⟨lq,hq,(hat.2.2 0 0 _ (by simp) hx).1⟩
theorem Sg{G:db}(fs:List (List UInt8×List Int))(row:List AV)(rest:Ab.Os)(hl:fs.length≤bm∧(fs.all fun e=>decide (e.1.length≤bm))=true)
 (hoin:((((0,AO.rows false [AV.aw 1::row])::(1,AO.bL 1 (dT (fun k=>AV.str k) (bG .u8) fs) none)::rest:Ab.Os)).all fun e=>decide (e.1<W))=true)
 (hoW:((0,AO.rows false [AV.aw 1::row])::(1,AO.bL 1 (dT (fun k=>AV.str k) (bG .u8) fs) none)::rest:Ab.Os).length≤W):
 FC Tryz.prog G 88 ((0,.rows false [.aw 1::row])::(1,.bL 1 (dT (fun k=>AV.str k) (bG .u8) fs) none)::rest) [.ptr 0 0 0] (.sl (List.map fy (fY (fs.map Prod.fst))))
  ((0,.rows false [.aw 1::row])::(1,.bL 1 (dT (fun k=>AV.str k) (bG .u8) fs) none)::rest):=by
 refine Rp (by kernel_rfl) (by simpa[fY]using hl.1) hoin hoW fun Ow S ι w vs hs0 hG hob hL=>?_
 obtain⟨v,rfl,hv⟩:=oe hL
 obtain⟨l,hl0,rfl⟩:=hv.cZ
 obtain⟨lq,hq,hcell⟩:=SQ (hob.ob 0 _ rfl) hl0
 obtain⟨l1,xs,clock,h1,hheap,hlim,hF⟩:=hob.ob 1 _ rfl
 rw[h1]at hq;injection hq with hq;injection hq with hq;subst hq
 obtain⟨D0,hown,hsz,hperm⟩:=SX hheap hlim hF hl.2
 refine(UF l.bd (l.base+(0*l.bo+0)) l1.bd xs.size D0 w hcell hown (by rw[hsz];exact hl.1)).mono ?_
 rintro e w' ⟨v,ss,rfl,hp,hrow,hb⟩
 refine⟨dF.below hb,?_⟩
 have hsort:ss.mergeSort (fun x y=>decide (x≤y))=fY (fs.map Prod.fst):=mergeSort_of_perm (hp.trans hperm)
 have hlen:(fY (fs.map Prod.fst)).length=ss.length:=by rw[←hsort];simp
 rw[hsort]at hrow
 rcases hrow.2 with ⟨rfl,hn⟩|⟨g,cap,cur,rfl,hbase,hb9,h2,h3,h4,h5⟩
 ·left
  exact⟨List.length_eq_zero_iff.1 (by rw[hlen];exact hn),none,rfl⟩
 ·right
  refine⟨g,0,cap,by rw[hlen],by rw[hlen];exact h2,hbase,(Array.getElem?_eq_some_iff.1 hb9).1,fun i s hs=>?_⟩
  have h6:(cur.toList.take (ss.length*1))[i]? =some (encStr s):=by rw[h5,List.getElem?_map,hs];rfl
  have hi:=eZ hs
  rw[List.getElem?_take_of_lt (by omega),Array.getElem?_toList]at h6
  simp only[World.cell?,hb9,Nat.zero_add];exact h6
end
end Go.T
