import Derived.Test.YtjpmdkgonlmddaaGreatDoorTy
import Derived.Test.YtjpmdkgonlmddaaGreatDoorAbM
import Derived.Test.YtjpmdkgonlmddaaGreatDoorPlain
import Derived.RangeFuncBox
import Derived.Sort.KeysCollected
import Derived.Sort.OwnSorted
import Derived.Maps.RangeWalk
set_option linter.unusedVariables false
set_option linter.unusedVariables false
set_option linter.unusedSimpArgs false
namespace Go.T
open Go Go.Ab Go.Proofs Go.RowKit Go.Lib
theorem uO:Tryz.prog.follows .mixedOrders=true:=by kernel_rfl
theorem Pt(w:World):(callFunc 271 #[]).run Tryz.prog w=.ok (.value (.tuple #[])) w:=run_call_mark0 Tryz.func271 (by kernel_rfl) (by kernel_rfl) (by kernel_rfl) .disable (by kernel_rfl) w
theorem O8(w:World):(callFunc 273 #[]).run Tryz.prog w=.ok (.value (.tuple #[])) w:=run_call_mark0 Tryz.func273 (by kernel_rfl) (by kernel_rfl) (by kernel_rfl) .enable (by kernel_rfl) w
theorem ZmO(a:Addr)(w:World):(callFunc 274 #[.pointer (some a)]).run Tryz.prog w=.ok (.value (.tuple #[])) w:=run_call_marked Tryz.func274 (by kernel_rfl) (by kernel_rfl) (by kernel_rfl) .acquire (by kernel_rfl) a w
theorem ZmN(a:Addr)(w:World):(callFunc 276 #[.pointer (some a)]).run Tryz.prog w=.ok (.value (.tuple #[])) w:=run_call_marked Tryz.func276 (by kernel_rfl) (by kernel_rfl) (by kernel_rfl) .releaseMerge (by kernel_rfl) a w
set_option maxRecDepth 100000 in
theorem Zpi(a:Addr)(x:Value)(u:FrameMode)(w:World)(hc:w.cell? a=some x)(hz:w.frozen? a=false):
 CallsD Tryz.prog 248 #[.pointer (some a),.bool true] u w λ e u' w'=>u'=u∧(e=.returned (.tuple #[])∧w'=w.drew.setCell a (.int .u32 1)):=by
 have y7:w.drew.cell? a=some x:=by go_simp
 have QZ:w.drew.frozen? a=false:=by go_simp
 have iE:=run_call_store (P:=Tryz.prog) Tryz.func265 (by kernel_rfl) (by kernel_rfl) (by kernel_rfl) (by kernel_rfl) (k:=.u32) (y:=1) y7 QZ
 go_enter_d Tryz.func248,Tryz.ntmps248
 go_wp2
 go_region_calls
 all_goals (go_end0;exact⟨rfl,rfl⟩)
set_option maxRecDepth 100000 in
theorem ZnL(a:Addr)(u:FrameMode)(w:World)(hc:w.cell? a=some (.int .i32 1))(hz:w.frozen? a=false):
 CallsD Tryz.prog 247 #[.pointer (some a)] u w λ e u' w'=>u'=u∧(e=.returned (.tuple #[])∧w'=w.setCell a (.int .i32 0)):=by
 have hd:=Pt;have he:=O8;have hr:=ZmN;have oi:=run_call_add (P:=Tryz.prog) Tryz.func277 (by kernel_rfl) (by kernel_rfl) (by kernel_rfl) .i32 (by kernel_rfl) (y:= -1) (s:=0) hc hz (by simp[go_sem];rfl)
 have y6:=run_convert_to_unsafe (P:=Tryz.prog) (src:=354) (dst:=358) Tryz.underlying354 Tryz.underlying358 (by kernel_rfl) hc
 go_enter_d Tryz.func247,Tryz.ntmps247
 go_wp2
 go_end0
 go_wp2
 go_end0
 exact⟨rfl,rfl⟩
set_option maxRecDepth 100000 in
theorem Z1(a:Addr)(w:World)(hc:w.cell? a=some (.int .i32 0))(hz:w.frozen? a=false):
 Calls Tryz.prog 246 #[.pointer (some a)] w λ e w'=>e=.returned (.tuple #[])∧w'=w.setCell a (.int .i32 1):=by
 have hd:=Pt;have he:=O8;have ha:=ZmO;have Sd:=run_call_cas_hit (P:=Tryz.prog) Tryz.func272 (by kernel_rfl) (by kernel_rfl) (by kernel_rfl) .i32 (by kernel_rfl) (y:=1) hc hz
 have y7:(w.setCell a (.int .i32 1)).cell? a=some (.int .i32 1):=World.cell?_setCell_same w a _ hc;have y6:=run_convert_to_unsafe (P:=Tryz.prog) (src:=354) (dst:=358) Tryz.underlying354 Tryz.underlying358 (by kernel_rfl) y7
 go_enter Tryz.func246,Tryz.ntmps246
 go_wp2
 first|go_end0|(simp only[Exit.inBlock,Exit.then];refine bodyPost_ret (results_none rfl _ _ _) rfl ?_)|refine bodyPost_ret (results_none rfl _ _ _) rfl ?_
 go_wp2
 go_end0
 exact⟨rfl,rfl⟩
set_option maxRecDepth 100000 in
set_option maxHeartbeats 1600000 in
theorem Z2(b off g:Nat)(fs cap:Array Value)(w:World)(R:World→Prop)
 (h0:w.cell? ⟨b,off,none⟩=some (.int .u32 0)) (h1:w.cell? ⟨b,off+1,none⟩=some (.int .i32 0))
 (f0:w.frozen? ⟨b,off,none⟩=false) (f1:w.frozen? ⟨b,off+1,none⟩=false)
 (n0:∀w:World,(callFunc g (fs++cap)).run Tryz.prog w=.ok (.enter g (fs++cap)) w)
 (hF:Calls Tryz.prog g (fs++cap) (w.setCell ⟨b,off+1,none⟩ (.int .i32 1)) λ e w'=>e=.returned (.tuple #[])∧R w')
 (hR:∀w',R w'→w'.cell? ⟨b,off,none⟩=some (.int .u32 0)∧w'.cell? ⟨b,off+1,none⟩=some (.int .i32 1)∧w'.frozen? ⟨b,off,none⟩=false∧w'.frozen? ⟨b,off+1,none⟩=false):
 Calls Tryz.prog 229 #[.pointer (some ⟨b,off,none⟩),.func (.func g) fs cap] w λ e w'=>e=.returned (.tuple #[])∧
  ∃w1,R w1∧w'=(w1.drew.setCell ⟨b,off,none⟩ (.int .u32 1)).setCell ⟨b,off+1,none⟩ (.int .i32 0):=by
 have hl:=run_call_load (P:=Tryz.prog) Tryz.func245 (by kernel_rfl) (by kernel_rfl) (by kernel_rfl) .u32 (by kernel_rfl) (w:=w.setCell ⟨b,off+1,none⟩ (.int .i32 1)) (a:=⟨b,off,none⟩) (x:=0) ((World.cell?_setCell_other _ ⟨b,off+1,none⟩ ⟨b,off,none⟩ _ (by simp)).trans h0)
 have pQ:∀(x:Bool) (w:World),(Op.unary .not (.bool x)).run Tryz.prog w=.ok (.bool (!x)) w:=λ _ _=>rfl
 go_enter_defers Tryz.func229,Tryz.ntmps229
 go_wp2_with (first|(go_at_call 246;refine(Z1 ⟨b,off+1,none⟩ _ (by go_simp) (by go_simp)).mono ?_;rintro e w' ⟨rfl,rfl⟩)|(go_at_call 228;go_in))
 go_wp2
 rename_i Q' K' Su;refine hF.mono ?_;rintro e w1 ⟨rfl,my⟩;obtain⟨c0,c1,z0,z1⟩:=hR w1 my;refine Su _ _ ?_
 go_wp2
 refine leaves_cons (f:=248) (args:=#[.pointer (some ⟨b,off,none⟩),.bool true]) (by simp) (by simp[go_sem]) ?_
 refine(Zpi ⟨b,off,none⟩ (.int .u32 0) .returning _ c0 z0).mono ?_;rintro e u' QC ⟨rfl,rfl,rfl⟩;refine leaves_cons (f:=247) (args:=#[.pointer (some ⟨b,off+1,none⟩)]) (by simp[settle]) (by simp[go_sem]) ?_
 refine(ZnL ⟨b,off+1,none⟩ _ _ ?_ (by simp[z1])).mono ?_
 ·refine(World.cell?_setCell_other _ ⟨b,off,none⟩ ⟨b,off+1,none⟩ _ (by simp)).trans ?_
  rw[World.cell?_drew];exact c1
 rintro e u' QC ⟨rfl,rfl,rfl⟩;simp[Leaves,settle,results,Tryz.results229];exact⟨w1,my,rfl⟩
set_option maxRecDepth 100000 in
set_option maxHeartbeats 1600000 in
theorem Zpj(b off g:Nat)(fs cap:Array Value)(w:World)(R:World→Prop)
 (h0:w.cell? ⟨b,off,none⟩=some (.int .u32 0)) (h1:w.cell? ⟨b,off+1,none⟩=some (.int .i32 0))
 (f0:w.frozen? ⟨b,off,none⟩=false) (f1:w.frozen? ⟨b,off+1,none⟩=false)
 (n0:∀w:World,(callFunc g (fs++cap)).run Tryz.prog w=.ok (.enter g (fs++cap)) w)
 (hF:Calls Tryz.prog g (fs++cap) (w.setCell ⟨b,off+1,none⟩ (.int .i32 1)) λ e w'=>e=.returned (.tuple #[])∧R w')
 (hR:∀w',R w'→w'.cell? ⟨b,off,none⟩=some (.int .u32 0)∧w'.cell? ⟨b,off+1,none⟩=some (.int .i32 1)∧w'.frozen? ⟨b,off,none⟩=false∧w'.frozen? ⟨b,off+1,none⟩=false):
 Calls Tryz.prog 197 #[.pointer (some ⟨b,off,none⟩),.func (.func g) fs cap] w λ e w'=>e=.returned (.tuple #[])∧
  ∃w1,R w1∧w'=(w1.drew.setCell ⟨b,off,none⟩ (.int .u32 1)).setCell ⟨b,off+1,none⟩ (.int .i32 0):=by
 have hl:=run_call_load (P:=Tryz.prog) Tryz.func245 (by kernel_rfl) (by kernel_rfl) (by kernel_rfl) .u32 (by kernel_rfl) h0
 have pQ:∀(x:Bool) (w:World),(Op.unary .not (.bool x)).run Tryz.prog w=.ok (.bool (!x)) w:=λ _ _=>rfl
 go_enter Tryz.func197,Tryz.ntmps197
 go_wp2_with (first|(go_at_call 229;refine(Z2 b off g fs cap w R h0 h1 f0 f1 n0 hF hR).mono ?_;rintro e w' ⟨rfl,Q1⟩)|(go_at_call 228;go_in))
 go_end0
 exact⟨rfl,Q1⟩
theorem Z0(a:Addr)(d:Int)(hd:¬d=0)(fv:Value)(w:World)(h0:w.cell? a=some (.int .u32 d)):
 Calls Tryz.prog 197 #[.pointer (some a),fv] w λ e w'=>e=.returned (.tuple #[])∧w'=w:=by
 have hl:=run_call_load (P:=Tryz.prog) Tryz.func245 (by kernel_rfl) (by kernel_rfl) (by kernel_rfl) .u32 (by kernel_rfl) h0
 have pQ:∀(x:Bool) (w:World),(Op.unary .not (.bool x)).run Tryz.prog w=.ok (.bool (!x)) w:=λ _ _=>rfl;have lp:(d != 0)=true:=by simp[hd]
 go_enter Tryz.func197,Tryz.ntmps197
 go_wp2
 go_end0
 exact⟨rfl,rfl⟩
theorem MD:ID Tryz.prog 197:=⟨by kernel_rfl,Zpj,λ a d fv w hd h=>Z0 a d hd fv w h⟩
set_option maxRecDepth 100000
theorem Xq{G:eo}(d m s:Int)(tab:List Int)(ht:tab.length=256):FC Tryz.prog G 198 [(0,.rows true [ej d m s tab])] [.ptr 0 0 0] (.cx []) [(0,.rows true [ej d m s (kA tab 256)])]:=by
 refine mR 2000 Tryz.func198 rfl (by kernel_rfl) uO (Nat.le_of_ble_eq_true (by kernel_rfl)) (by show 1≤W;decide) rfl ?_
 conv=>whnf
 refine Or.inl ?_
 conv=>whnf
 refine xG (α:=Nat) (λ k=>[(0,.ptr 0 0 0),(4,.int .i64 (k:Int))]) (λ k=>[(0,.rows true [ej d m s (kA tab k)])]) 1 (λ k=>k≤256) (λ k=>256-k) 0 [(0,0)] (by omega) rfl rfl rfl ?_
 rintro k hk
 conv=>whnf
 refine Or.inl ?_
 conv=>whnf
 refine iv (λ hb=>?_) (λ hb=>?_)
 ·have mN:k<256:=by simp only[decide_eq_true_eq]at hb;omega
  conv=>whnf
  refine Or.inl ?_
  conv=>whnf
  refine Or.inl ?_
  conv=>whnf
  refine xG (α:=Nat×Int) (λ x=>[(9,.int .i64 (x.1:Int)),(3,.int .u32 x.2),(0,.ptr 0 0 0),(2,.int .i64 (k:Int)),(4,.int .i64 (k:Int))]) (λ _=>[(0,.rows true [ej d m s (kA tab k)])]) 1 (λ x=>x.1≤8∧ju (8-x.1) x.2=ju 8 (IntKind.u32.wrap (k:Int))) (λ x=>8-x.1) (0,IntKind.u32.wrap (k:Int)) [(0,0)] ⟨by omega,rfl⟩ rfl rfl rfl ?_
  rintro⟨j,c⟩ ⟨hj,hc⟩;replace hj:j≤8:=hj;replace hc:ju (8-j) c=ju 8 (IntKind.u32.wrap (k:Int)):=hc
  conv=>whnf
  refine Or.inl ?_
  conv=>whnf
  refine iv (λ kN=>?_) (λ kN=>?_)
  ·have D7:j<8:=by simp only[decide_eq_true_eq]at kN;omega
   conv=>whnf
   refine Or.inl ?_
   conv=>whnf
   refine And.intro (by decide) ?_
   conv=>whnf
   have hw:IntKind.i64.wrap ((j:Int)+1)=((j+1:Nat):Int):=by rw[Cn (by omega) (by omega)];rfl
   have pU:ju (8-(j+1)) (rb c)=ju 8 (IntKind.u32.wrap (k:Int)):=by
    rw[←hc,show 8-j=(8-(j+1))+1 by omega];rfl
   exact we (j+1,rb c) [(0,0)] ⟨D7,pU⟩ (show 8-(j+1)<8-j by omega) (cT (congrArg (AV.int .i64) hw.symm) rfl) rfl rfl
  ·have RR:j=8:=by simp only[decide_eq_false_iff_not]at kN;omega
   subst RR
   conv=>whnf
   refine Or.inl ?_
   conv=>whnf
   refine And.intro (by omega) (And.intro (by simpa using hb) ?_)
   conv=>whnf
   refine Or.inl ?_
   conv=>whnf
   refine iv (λ LC=>?_) (λ LC=>?_)
   ·conv=>whnf
    have hw:IntKind.i64.wrap ((k:Int)+1)=((k+1:Nat):Int):=by rw[Cn (by omega) (by omega)];rfl
    have He:ej d m s (kA tab (k+1))=setAt (ej d m s (kA tab k)) (0+3+k*1) [.int .u32 c]:=by
     rw[show 0+3+k*1=3+k by omega,Y' _ _ _ _ _ _ (by rw[E9];omega)]
     show ej d m s ((kA tab k).set k (ju 8 (IntKind.u32.wrap (k:Int))))=_;rw[←hc];rfl
    exact we (k+1) [(0,0)] (show k+1≤256 by omega) (show 256-(k+1)<256-k by omega) (cT rfl (cT (congrArg (AV.int .i64) hw.symm) rfl)) (congrArg (λ X=>[some (AO.rows true [X])]) He) rfl
   ·have nW:(decide ([AV.int IntKind.u32 c].length=1)&&decide (0+3+k*1+1≤(ej d m s (kA tab k)).length))=true:=by
     simp[Nu,E9];omega
    exact absurd (nW.symm.trans LC) (by decide)
 ·have mN:k=256:=by simp only[decide_eq_false_iff_not]at hb;omega
  subst mN
  conv=>whnf
  exact lH [(0,0)] rfl rfl rfl
theorem I2{G:eo}:FC Tryz.prog G 197 [(0,.rows true [ej 0 0 0 iD])] [.ptr 0 0 0,.fn (FB+198) [.ptr 0 0 0]] (.cx []) [(0,.rows true [ej 1 0 0 kW])]:=
 Zmz (p:=true) (rs:=[ej 0 0 0 iD]) (rest:=[]) (i:=0) (c:=0) (row:=ej 0 0 0 iD) (p1:=true) (rs1:=[ej 0 1 0 kW]) (row1:=ej 0 1 0 kW) (rest1:=[]) MD (.inr rfl) (by show 1≤W;decide) rfl rfl rfl
  (Xq 0 1 0 iD (by simp[iD])) rfl rfl rfl
theorem UX{G:eo}(b:List Int)(cS:b.length≤bI):FC Tryz.prog G 155 [(0,.rows true [ej 0 0 0 iD])] [.ptr 0 0 0,.int .u32 0,.sl (List.map (cn .u8) b)] (.int .u32 (cC BinOp.xor IntKind.u32 (if IntKind.u32.signed=true then -1 else IntKind.u32.max) (dY c0 b))) []:=by
 refine mR 2000 Tryz.func155 rfl (by kernel_rfl) uO (Nat.le_of_ble_eq_true (by kernel_rfl)) (by show 1≤W;decide) rfl ?_
 conv=>whnf
 refine Or.inl ?_
 conv=>whnf
 refine Or.inr (vW [0] I2 rfl rfl rfl rfl ?_)
 conv=>whnf
 refine Or.inl ?_
 conv=>whnf
 refine xG (α:=Nat×Int) (λ x=>[(23,.int .i64 (x.1:Int)),(22,.int .i64 (((List.map (cn .u8) b).length:Nat):Int)),(21,.sl (List.map (cn .u8) b)),(7,.int .u32 x.2),(0,.ptr 0 0 0)]) (λ _=>[(0,.rows true [ej 1 0 0 kW])]) 1 (λ x=>x.1≤b.length∧dY x.2 (b.drop x.1)=dY c0 b) (λ x=>b.length-x.1) (0,c0) [(0,0)] ⟨by omega,rfl⟩ rfl rfl rfl ?_
 rintro⟨k,c⟩ ⟨hk,hc⟩;replace hk:k≤b.length:=hk;replace hc:dY c (b.drop k)=dY c0 b:=hc
 conv=>whnf
 refine Or.inl ?_
 conv=>whnf
 refine iv (λ hb=>?_) (λ hb=>?_)
 ·have mN:k<b.length:=by simp only[List.length_map,decide_eq_true_eq]at hb;omega
  obtain⟨x,hx⟩:∃x,b[k]? =some x:=⟨_,List.getElem?_eq_getElem mN⟩
  conv=>whnf
  refine Or.inl ?_
  conv=>whnf
  refine And.intro (by omega) ?_
  conv=>whnf
  refine fX (cn .u8 x) (oj rfl (show b[((k:Int)).toNat]? =some x from hx)) ?_
  conv=>whnf
  refine Or.inl ?_
  conv=>whnf
  refine And.intro (by decide) ?_
  conv=>whnf
  have jQ:=II c x;refine And.intro jQ.1 (And.intro jQ.2 ?_)
  conv=>whnf
  refine Or.inl ?_
  conv=>whnf
  refine fX (.int .u32 (kW.getD (pL c x).toNat 0)) (Ji _ jQ.2) ?_
  conv=>whnf
  have hw:IntKind.i64.wrap ((k:Int)+1)=((k+1:Nat):Int):=by unfold bI at cS;rw[Cn (by omega) (by omega)];rfl
  have jv:dY (cC .xor .u32 (c.fdiv (2^min (Int.toNat 8) IntKind.u32.bits)) (kW.getD (pL c x).toNat 0)) (b.drop (k+1))=dY c0 b:=by
   rw[←hc,Cd hx];rfl
  exact we (k+1,cC .xor .u32 (c.fdiv (2^min (Int.toNat 8) IntKind.u32.bits)) (kW.getD (pL c x).toNat 0)) [(0,0)] ⟨mN,jv⟩ (show b.length-(k+1)<b.length-k by omega) (cT (congrArg (AV.int .i64) hw.symm) rfl) rfl rfl
 ·have mN:k=b.length:=by simp only[List.length_map,decide_eq_false_iff_not]at hb;omega
  subst mN
  conv=>whnf
  have:c=dY c0 b:=by rw[←hc];simp[dY]
  subst this;exact lH [] rfl rfl rfl
theorem SZ{G:eo}(b:List Int)(cS:b.length≤bI):FC Tryz.prog G 191 [(0,.rows true [ej 0 0 0 iD])] [.ptr 0 0 0,.sl (List.map (cn .u8) b)] (.int .u32 (kR b)) []:=by
 refine mR 2000 Tryz.func191 rfl (by kernel_rfl) uO (Nat.le_of_ble_eq_true (by kernel_rfl)) (by show 1≤W;decide) rfl ?_
 conv=>whnf
 refine Or.inr (vW [0] (UX b cS) rfl rfl rfl rfl ?_)
 conv=>whnf
 exact lH [] rfl rfl rfl
theorem XK{G:eo}(b:List Int)(cS:b.length≤bI):FC Tryz.prog G 155 [(0,.rows true [ej 0 0 0 iD]),(1,.rows true (List.map (cn .u8) b))] [.ptr 0 0 0,.int .u32 0,.bf 1 1] (.int .u32 (cC BinOp.xor IntKind.u32 (if IntKind.u32.signed=true then -1 else IntKind.u32.max) (dY c0 b))) [(1,.rows true (List.map (cn .u8) b))]:=by
 refine mR 2000 Tryz.func155 rfl (by kernel_rfl) uO (Nat.le_of_ble_eq_true (by kernel_rfl)) (by show 2≤W;decide) rfl ?_
 conv=>whnf
 refine Or.inl ?_
 conv=>whnf
 refine Or.inr (vW [0] I2 rfl rfl rfl rfl ?_)
 conv=>whnf
 refine Or.inl ?_
 conv=>whnf
 refine xG (α:=Nat×Int) (λ x=>[(23,.int .i64 (x.1:Int)),(22,.int .i64 (((List.map (cn .u8) b).length:Nat):Int)),(21,.bf 1 1),(7,.int .u32 x.2),(0,.ptr 0 0 0)]) (λ _=>[(0,.rows true [ej 1 0 0 kW]),(1,.rows true (List.map (cn .u8) b))]) 2 (λ x=>x.1≤b.length∧dY x.2 (b.drop x.1)=dY c0 b) (λ x=>b.length-x.1) (0,c0) [(0,0),(1,1)] ⟨by omega,rfl⟩ rfl rfl rfl ?_
 rintro⟨k,c⟩ ⟨hk,hc⟩;replace hk:k≤b.length:=hk;replace hc:dY c (b.drop k)=dY c0 b:=hc
 conv=>whnf
 refine Or.inl ?_
 conv=>whnf
 refine iv (λ hb=>?_) (λ hb=>?_)
 ·have mN:k<b.length:=by simp only[List.length_map,decide_eq_true_eq]at hb;omega
  obtain⟨x,hx⟩:∃x,b[k]? =some x:=⟨_,List.getElem?_eq_getElem mN⟩
  conv=>whnf
  refine Or.inl ?_
  conv=>whnf
  refine And.intro (by omega) ?_
  conv=>whnf
  refine fX (cn .u8 x) (oj rfl (show b[((k:Int)).toNat]? =some x from hx)) ?_
  conv=>whnf
  refine fX (cn .u8 x) (oj rfl (show b[((k:Int)).toNat]? =some x from hx)) ?_
  conv=>whnf
  refine Or.inl ?_
  conv=>whnf
  refine And.intro (by decide) ?_
  conv=>whnf
  have jQ:=II c x;refine And.intro jQ.1 (And.intro jQ.2 ?_)
  conv=>whnf
  refine Or.inl ?_
  conv=>whnf
  refine fX (.int .u32 (kW.getD (pL c x).toNat 0)) (Ji _ jQ.2) ?_
  conv=>whnf
  have hw:IntKind.i64.wrap ((k:Int)+1)=((k+1:Nat):Int):=by unfold bI at cS;rw[Cn (by omega) (by omega)];rfl
  have jv:dY (cC .xor .u32 (c.fdiv (2^min (Int.toNat 8) IntKind.u32.bits)) (kW.getD (pL c x).toNat 0)) (b.drop (k+1))=dY c0 b:=by
   rw[←hc,Cd hx];rfl
  exact we (k+1,cC .xor .u32 (c.fdiv (2^min (Int.toNat 8) IntKind.u32.bits)) (kW.getD (pL c x).toNat 0)) [(0,0),(1,1)] ⟨mN,jv⟩ (show b.length-(k+1)<b.length-k by omega) (cT (congrArg (AV.int .i64) hw.symm) rfl) rfl rfl
 ·have mN:k=b.length:=by simp only[List.length_map,decide_eq_false_iff_not]at hb;omega
  subst mN
  conv=>whnf
  have:c=dY c0 b:=by rw[←hc];simp[dY]
  subst this;exact lH [(1,1)] rfl rfl rfl
theorem Ux{G:eo}(b:List Int)(cS:b.length≤bI):FC Tryz.prog G 191 [(0,.rows true [ej 0 0 0 iD]),(1,.rows true (List.map (cn .u8) b))] [.ptr 0 0 0,.bf 1 1] (.int .u32 (kR b)) [(1,.rows true (List.map (cn .u8) b))]:=by
 refine mR 2000 Tryz.func191 rfl (by kernel_rfl) uO (Nat.le_of_ble_eq_true (by kernel_rfl)) (by show 2≤W;decide) rfl ?_
 conv=>whnf
 refine Or.inr (vW [0,1] (XK b cS) rfl rfl rfl rfl ?_)
 conv=>whnf
 exact lH [(1,1)] rfl rfl rfl
theorem Mj{G:eo}:FC Tryz.prog G 40 [] [] (.ptr 0 0 0) [(0,.rows true [ej 0 0 0 iD])]:=by
 refine S7 0 (os:=[(0,.rows false [ej 0 0 0 iD])]) (rs:=[ej 0 0 0 iD]) ?_ (by show 0≤W;decide) rfl rfl rfl (lH [(0,0)] rfl rfl rfl)
 refine mR 2000 Tryz.func40 rfl (by kernel_rfl) uO (Nat.le_of_ble_eq_true (by kernel_rfl)) (by show 0≤W;decide) rfl ?_
 conv=>whnf
 refine Or.inl ?_
 conv=>whnf
 refine Or.inl ?_
 conv=>whnf
 exact lH [(0,96)] rfl rfl rfl
theorem XP{G:eo}(tb:Bool):FC Tryz.prog G 197 [(0,.rows true [eJ tb])] [.ptr 0 0 0,.fn (FB+198) [.ptr 0 0 0]] (.cx []) [(0,.rows true [eJ true])]:=by
 cases tb with
 |false=>exact I2
 |true=>exact Zns (p:=true) (rs:=[ej 1 0 0 kW]) (rest:=[]) (i:=0) (c:=0) (row:=ej 1 0 0 kW) (d:=1) MD rfl rfl rfl (by decide)
theorem XJ{G:eo}(tb:Bool)(s:Int)(b:List Int)(cS:b.length≤bI):FC Tryz.prog G 155 [(0,.rows true [eJ tb]),(1,.rows true (List.map (cn .u8) b))] [.ptr 0 0 0,.int .u32 s,.bf 1 1] (.int .u32 (oq s b)) [(0,.rows true [eJ true]),(1,.rows true (List.map (cn .u8) b))]:=by
 refine mR 2000 Tryz.func155 rfl (by kernel_rfl) uO (Nat.le_of_ble_eq_true (by kernel_rfl)) (by show 2≤W;decide) rfl ?_
 conv=>whnf
 refine Or.inl ?_
 conv=>whnf
 refine Or.inr (vW [0] (XP tb) rfl rfl rfl rfl ?_)
 conv=>whnf
 refine Or.inl ?_
 conv=>whnf
 refine xG (α:=Nat×Int) (λ x=>[(23,.int .i64 (x.1:Int)),(22,.int .i64 (((List.map (cn .u8) b).length:Nat):Int)),(21,.bf 1 1),(7,.int .u32 x.2),(0,.ptr 0 0 0)]) (λ _=>[(0,.rows true [ej 1 0 0 kW]),(1,.rows true (List.map (cn .u8) b))]) 2 (λ x=>x.1≤b.length∧dY x.2 (b.drop x.1)=dY (cN s) b) (λ x=>b.length-x.1) (0,cN s) [(0,0),(1,1)] ⟨by omega,rfl⟩ rfl rfl rfl ?_
 rintro⟨k,c⟩ ⟨hk,hc⟩;replace hk:k≤b.length:=hk;replace hc:dY c (b.drop k)=dY (cN s) b:=hc
 conv=>whnf
 refine Or.inl ?_
 conv=>whnf
 refine iv (λ hb=>?_) (λ hb=>?_)
 ·have mN:k<b.length:=by simp only[List.length_map,decide_eq_true_eq]at hb;omega
  obtain⟨x,hx⟩:∃x,b[k]? =some x:=⟨_,List.getElem?_eq_getElem mN⟩
  conv=>whnf
  refine Or.inl ?_
  conv=>whnf
  refine And.intro (by omega) ?_
  conv=>whnf
  refine fX (cn .u8 x) (oj rfl (show b[((k:Int)).toNat]? =some x from hx)) ?_
  conv=>whnf
  refine fX (cn .u8 x) (oj rfl (show b[((k:Int)).toNat]? =some x from hx)) ?_
  conv=>whnf
  refine Or.inl ?_
  conv=>whnf
  refine And.intro (by decide) ?_
  conv=>whnf
  have jQ:=II c x;refine And.intro jQ.1 (And.intro jQ.2 ?_)
  conv=>whnf
  refine Or.inl ?_
  conv=>whnf
  refine fX (.int .u32 (kW.getD (pL c x).toNat 0)) (Ji _ jQ.2) ?_
  conv=>whnf
  have hw:IntKind.i64.wrap ((k:Int)+1)=((k+1:Nat):Int):=by unfold bI at cS;rw[Cn (by omega) (by omega)];rfl
  have jv:dY (cC .xor .u32 (c.fdiv (2^min (Int.toNat 8) IntKind.u32.bits)) (kW.getD (pL c x).toNat 0)) (b.drop (k+1))=dY (cN s) b:=by
   rw[←hc,Cd hx];rfl
  exact we (k+1,cC .xor .u32 (c.fdiv (2^min (Int.toNat 8) IntKind.u32.bits)) (kW.getD (pL c x).toNat 0)) [(0,0),(1,1)] ⟨mN,jv⟩ (show b.length-(k+1)<b.length-k by omega) (cT (congrArg (AV.int .i64) hw.symm) rfl) rfl rfl
 ·have mN:k=b.length:=by simp only[List.length_map,decide_eq_false_iff_not]at hb;omega
  subst mN
  conv=>whnf
  have:c=dY (cN s) b:=by rw[←hc];simp[dY]
  subst this;exact lH [(0,0),(1,1)] rfl rfl rfl
set_option maxHeartbeats 4000000
theorem ZnU:∃i0 z,Tryz.prog.info? 59=some i0∧i0.zero=some z∧i0.size=4∧z.cells.size=4∧i0.bytes≤1024:=by
 refine⟨_,_,rfl,rfl,rfl,rfl,?_⟩;decide
theorem ZnT(i0:TypeInfo)(z:Value)(sT:Tryz.prog.info? 59=some i0)(ub:i0.zero=some z)(zs:List Value)(hz:(Builtin.zeroCells z.cells 1).toList=zs):∀v∈zs,v.oneCell'=true:=by
 have hi:∃i1 z1,Tryz.prog.info? 59=some i1∧i1.zero=some z1∧((Builtin.zeroCells z1.cells 1).toList.all λ v=>v.oneCell')=true:=⟨_,_,rfl,rfl,by kernel_rfl⟩
 obtain⟨i1,z1,h1,h2,h3⟩:=hi;rw[sT]at h1;obtain rfl:=Option.some.inj h1;rw[ub]at h2;obtain rfl:=Option.some.inj h2;subst hz;intro v hv;exact List.all_eq_true.1 h3 v hv
theorem Ts(b off n c i:Nat)(cs:List Value)(w:World)(hi:i<n)(hnc:n≤c)(hL:n≤bI)(iG:cs.length=n*4)(sU:∀(j:Nat) v,cs[j]? =some v→w.cell? ⟨b,off+j,none⟩=some v)
 (yZ:∀j,j<n*4→w.frozen? ⟨b,off+j,none⟩=false) (LN:∀v∈cs,v.oneCell'=true):
 Calls Tryz.prog 161 #[.slice (some ⟨b,off,none⟩) n c,.int .i64 i,.int .i64 ((i:Int)+1)] w λ e w'=>
  ∃zs:List Value,e=.returned (.slice (some ⟨b,off,none⟩) (n-1) c)∧zs.length=4∧w'=(w.drew.setCells b (off+i*4) (cs.drop ((i+1)*4))).setCells b (off+(n-1)*4) zs:=by
 have LJ:n≤1073741824:=hL;have mixed:=uO;obtain⟨i0,z,sT,ub,qw,DT,hzb⟩:=ZnU;obtain⟨news,na⟩:∃news,news=cs.drop ((i+1)*4):=⟨_,rfl⟩;have hlen:news.length=(n-(i+1))*4:=by rw[na,List.length_drop,iG,Nat.sub_mul]
 obtain⟨A,hA,Hc⟩:∃A:Addr,(if c=i+1 then some (⟨b,off,none⟩:Addr)else some ⟨b,off+(i+1)*4,none⟩)=some A∧Hid (∀t u,news[t]? =some u→w.drew.cell? (A.add t)=some u):=by
  by_cases h:c=i+1
  ·refine⟨⟨b,off,none⟩,by simp[h],λ t u hu=>?_⟩
   have h0:news.length=0:=by rw[hlen,show n-(i+1)=0 by omega];first|done|omega
   rw[List.length_eq_zero_iff.1 h0]at hu;simp at hu
  ·refine⟨⟨b,off+(i+1)*4,none⟩,by simp[h],λ t u hu=>?_⟩
   rw[Addr.add_lit,Nat.add_assoc];rw[na,List.getElem?_drop]at hu;exact sU _ u hu
 have s1:Hid (news.length=(n-(i+1))*4):=hlen;have s2:Hid (∀u∈news,u.oneCell'=true):=by
  intro u hu;rw[na]at hu;exact LN u (List.mem_of_mem_drop hu)
 have oU:∀j,j<n*4→(w.cell? ⟨b,off+j,none⟩).isSome=true:=λ j hj=>by
  rw[sU j _ (List.getElem?_eq_getElem (by omega))];rfl
 have s3:Hid (∀t,t<news.length→(w.drew.cell? ⟨b,off+i*4+t,none⟩).isSome=true∧w.drew.frozen? ⟨b,off+i*4+t,none⟩=false):=by
  intro t ht;rw[hlen]at ht;rw[Nat.add_assoc];exact⟨oU _ (by omega),yZ _ (by omega)⟩
 obtain⟨W1,y9⟩:∃W1,W1=w.drew.setCells b (off+i*4) news:=⟨_,rfl⟩;obtain⟨zs,tZ⟩:∃zs,(Builtin.zeroCells z.cells 1).toList=zs:=⟨_,rfl⟩;have ua:zs.length=4:=by
  rw[←tZ,Array.length_toList];simp[Builtin.zeroCells,DT]
 have DU:∀v∈zs,v.oneCell'=true:=ZnT i0 z sT ub zs tZ;have BD:∀j,j<n*4→(W1.cell? ⟨b,off+j,none⟩).isSome=true:=λ j hj=>by
  rw[y9];exact isSome_setCells b _ _ _ (λ t ht=>by rw[Nat.add_assoc];exact oU _ (by rw[hlen]at ht;omega)) _ (oU j hj)
 have Sa:∀ty cc,(Builtin.clear_ #[56] ty #[.slice (some ⟨b,off+(n-1)*4,none⟩) 1 cc]).run Tryz.prog W1=.ok (.tuple #[]) (W1.setCells b (off+(n-1)*4) zs):=λ ty cc=>
  ZlY W1 56 59 ty i0 z Tryz.underlying56 sT ub b (off+(n-1)*4) cc zs tZ DU (λ j hj=>by rw[Nat.add_assoc];exact BD _ (by omega)) (λ j hj=>by rw[y9,World.frozen?_setCells,Nat.add_assoc];exact yZ _ (by omega))
 have hW:Hid (W1=w.drew.setCells b (off+i*4) news):=y9;have Lv:i≤c:=by omega
 have hjc:i+1≤c:=by omega
 have RP:¬((i:Int)=(i:Int)+1):=by omega
 have lB:(0:Int)≤(i:Int)+1:=by omega
 have htn:((i:Int)+1).toNat=i+1:=by omega
 have hjn:(i:Int)+1≤(n:Int):=by omega
 have mN:i+(n-(i+1))=n-1:=by omega
 have Lt:n-(n-1)=1:=by omega
 have hkn:n-1≤n:=by omega
 have hkc:¬(c=n-1):=by omega
 have Hp:Hid (zs.length=4):=ua;have D4:Hid (news=cs.drop ((i+1)*4)):=na;clear na hlen oU BD y9 ub DT tZ DU ua sU yZ LN
 go_enter Tryz.func161,Tryz.ntmps161
 go_wp2_with fail
 go_region_law_o (refine step_append_room rfl (.tmp 22) (.tmp 25) 56 rfl 59 i0 4 Tryz.underlying56 sT qw b off i c (by simp[Act.eval,Act.put]) A (n-(i+1)) (c-(i+1)) news (by simp[Act.eval,Act.put]) s1.out Hc.out s2.out (by omega) s3.out ?_;rw[←hW.out])
 go_wp2_with (at_builtin;fail)
 go_ret
 exact⟨zs,rfl,Hp.out,by rw[hW.out,D4.out]⟩
theorem ZpB:wV Tryz.prog 161 4:=⟨by kernel_rfl,Ts⟩
theorem Uv{G:eo}(l:List Int)(hl:l.length≤bI):FC Tryz.prog G 90 [(0,.rows true (List.map (cn .i64) l))] [.bf 0 1] (.cx []) [(0,.rows true (List.map (cn .i64) (fc l)))]:=
 XX (by kernel_rfl) (λ bB off cap zs w a b c=>Tryz.slices_Sort_int bB off cap zs w a b c) (λ p cap w=>Tryz.slices_Sort_int_none p cap w) l hl
section
open Go Go.Ab Go.Proofs Go.RowKit Go.Shelf
set_option maxRecDepth 100000 in
set_option maxHeartbeats 2000000 in
theorem My:IB Tryz.prog 140:=by
 refine⟨by kernel_rfl,λ l pa zs J W cS hJ hY h0=>?_⟩
 obtain⟨v0,uf,a0,SW,rfl,uw⟩:=hJ 0 W h0;unfold bI at cS;refine callsIn_of_wp Tryz.func140 rfl trivial ?_ rfl;simp only[Tryz.ntmps140,List.size_toArray,List.length_cons,List.length_nil,Nat.reduceAdd,Nat.reduceSub,Array.replicate_succ,Array.replicate_zero,List.push_toArray,List.append_toArray,List.nil_append,List.cons_append]
 gi_wp2
 gi_loopw [3] (λ i wr=>∃k:Nat,k≤zs.length∧i=.int .i64 ((zs.length:Int)-1-k)∧J k wr) (λ i _=>(RowKit.intOf i+1).toNat)
 case atStart=>exact⟨0,Nat.zero_le _,by simp,h0⟩
 case round=>
  obtain⟨k,hk,rfl,Ic⟩:=hrel;obtain⟨v1,iR,a1,SS,rfl,uv⟩:=hJ k wr Ic;by_cases iU:k<zs.length
  ·have hj:zs.length-1-k<zs.length:=by omega
   obtain⟨ad,rfl,rB,Ec⟩:=uv (zs.length-1-k) zs[zs.length-1-k] (List.getElem?_eq_getElem hj);obtain⟨b,off,sp⟩:=ad;simp only at rB Ec;subst rB;have A7:zs.reverse[k]? =some zs[zs.length-1-k]:=by
    rw[List.getElem?_reverse iU,List.getElem?_eq_getElem hj]
   obtain⟨fn,tmps,assign,body,hy,hR⟩:=hY k _ wr A7 Ic;have jQ:((zs.length-1-k:Nat):Int)=(zs.length:Int)-1-k:=by omega
   rw[jQ]at hy;have R9:wr.cell? ⟨b,off+((zs.length:Int)-1-k).toNat,none⟩=some (.int .i64 zs[zs.length-1-k]):=by
    rw[show((zs.length:Int)-1-k).toNat=zs.length-1-k by omega];exact Ec
   have Lx:((zs.length:Int)-1-k)≥0:=by omega
   gi_wp2
   refine⟨rfl,hR.mono ?_⟩;rintro e W3 ⟨rfl,Sv⟩
   gi_wp2
   go_roundw
   case rel=>exact⟨k+1,iU,by simp;omega,Sv⟩
   case measure=>simp[RowKit.intOf];omega
  ·obtain rfl:k=zs.length:=by omega
   gi_wp2
   go_end0
   exact⟨⟨_,rfl⟩,Ic⟩
theorem Tg{G:eo}(l:List Int):FC Tryz.prog G 91 [] [.sl (List.map (cn .i64) l)] (.fn 140 [.rp [.sl (List.map (cn .i64) l)] 0]) []:=by
 refine fx (rv:=.fn 140 [.ptr 0 0 0]) (cr:=[(0,.rows false [[.sl (List.map (cn .i64) l)]])]) (mR 2000 Tryz.func91 rfl (by kernel_rfl) uO (Nat.le_of_ble_eq_true (by kernel_rfl)) (by show 0≤W;decide) rfl ?_) rfl
 conv=>whnf
 refine Or.inl ?_
 conv=>whnf
 exact lH [(0,32)] rfl rfl rfl
end
section
open Go Go.Ab Go.Proofs Go.RowKit
set_option maxRecDepth 100000 in
set_option maxHeartbeats 4000000 in
theorem ZmQ(s:ByteArray)(w:World)(hl:s.data.toList.length≤1073741824)(e0 e1:Value)(uf:w.cell? ⟨0,0,none⟩=some e0)(iR:w.cell? ⟨1,0,none⟩=some e1)
 (nj:e0=.nilIface∨∃te pe,e0=.iface te pe) (rO:e1=.nilIface∨∃te pe,e1=.iface te pe) (pN:Lib.TabIs Tryz.prog w "internal/strconv.uint64pow10" .u64 Lib.pow10Tab):
 Calls Tryz.prog 89 #[.string s] w λ e w'=>e=.returned (.int .i64 (kb s.data.toList))∧ef w w':=by
 have np:=Tryz.strings_CutPrefix s ⟨#[108,111,103,45]⟩ w;rw[show(ByteArray.mk #[108,111,103,45]).data.toList=db from rfl]at np
 have H0:=Zy s.data.toList db;unfold kb;generalize Lib.hasPrefix s.data.toList db=p at np⊢;generalize Lib.trimPrefix s.data.toList db=d at np H0⊢;have hd:d.length≤1073741824:=Nat.le_trans H0 hl;clear H0 hl;have gL:(ByteArray.mk d.toArray).data.toList=d:=List.toList_toArray;have y8:(ByteArray.mk d.toArray).size=d.length:=by simp[ByteArray.size]
 cases ha:Lib.atoiAll d with
 |ok v=>
  have eY:=Tryz.strconv_Atoi_ok ⟨d.toArray⟩ (by rw[y8];omega) v (by rw[gL];exact ha) w
  have rR:Calls Tryz.prog 137 #[.string ⟨d.toArray⟩] w λ e w'=>e=.returned (.tuple #[.int .i64 v,.nilIface])∧ef w w':=eY.mono (by
   rintro e w' ⟨rfl,rfl|⟨t,rfl⟩⟩
   ·exact⟨rfl,ef.refl _⟩
   ·exact⟨rfl,ef.bytes _ _ _⟩)
  obtain⟨iR,jX⟩:=Lib.atoiAll_bounds ha;have hit:∀w1,ef w w1→Calls Tryz.prog 92 #[.int .i64 v] w1 λ e w'=>e=.returned (.string ⟨(Lib.itoa v).toArray⟩)∧ef w1 w':=λ w1 hk=>(Tryz.strconv_Itoa v iR jX w1 (ZU hk pN)).mono (by
   rintro e w' ⟨rfl,k,os,rfl⟩;exact⟨rfl,rfl,rfl,by rw[Go.Sort.size_grow];exact Nat.le_add_right _ _,λ b hb=>(Go.Sort.heap_grow_old (w1.drewN k) os hb).trans rfl⟩)
  clear eY gL y8 pN uf iR nj rO;simp only;have key:∀Aq:Int→Prop,TY p d v Aq→Calls Tryz.prog 89 #[.string s] w λ e w'=>(∃n,e=.returned (.int .i64 n)∧Aq n)∧ef w w':=by
   intro Aq hA
   go_enter Tryz.func89,Tryz.ntmps89
   go_wp2_with (first
    |(go_at_call 136;refine np.mono ?_;rintro e w' ⟨rfl,rfl⟩)
    |(go_at_call 137;refine rR.mono ?_;rintro e w1 ⟨rfl,my⟩)
    |(go_at_call 92;refine(hit _ my).mono ?_;rintro e w2 ⟨rfl,Lc⟩))
   all_goals go_ret
   all_goals first
    |exact⟨⟨0,rfl,hA.no (by
     rintro⟨h1,h2,h3,h4⟩
     first
     |omega
     |(simp_all;done)
     |(
      rcases(by assumption:(9<(d.length:Int)∨v<1)∨(!Lib.itoa v==d)=true)with (h|h)|h
      ·omega
      ·omega
      ·simp[h4]at h))⟩,by first|exact my.trans Lc|exact my⟩
    |exact⟨⟨v,rfl,hA.yes (by first|assumption|(simp_all;done)) (by first|omega|(simp_all;done)|(simp_all;omega)) (by first|omega|(simp_all;done)|(simp_all;omega)) (by first|(simp_all;done)|(simp_all;omega))⟩,by first|exact my.trans Lc|exact my⟩
  refine(key (λ n=>n=if p=true∧d.length≤9∧1≤v∧Lib.itoa v=d then v else 0) ⟨λ h=>(if_neg h).symm,λ h1 h2 h3 h4=>(if_pos ⟨h1,h2,h3,h4⟩).symm⟩).mono ?_;rintro e w' ⟨⟨n,rfl,h⟩,hk⟩
  exact⟨by rw[h],hk⟩
 |range=>
  have eY:=Tryz.strconv_Atoi_range ⟨d.toArray⟩ (by rw[y8];omega) (by rw[gL];exact ha) e1 w iR rO
  have rR:Calls Tryz.prog 137 #[.string ⟨d.toArray⟩] w λ e w'=>(∃N n,e=.returned (.tuple #[.int .i64 n,.iface 294 (.pointer (some ⟨N,0,none⟩))]))∧ef w w':=eY.mono (by
   rintro e w' ⟨N,rfl,_,_,hb⟩;exact⟨⟨N,_,rfl⟩,ef.below hb⟩)
  clear eY gL y8 pN uf iR nj rO;simp only
  go_enter Tryz.func89,Tryz.ntmps89
  go_wp2_with (first
   |(go_at_call 136;refine np.mono ?_;rintro e w' ⟨rfl,rfl⟩)
   |(go_at_call 137;refine rR.mono ?_;rintro e w1 ⟨⟨N,n,rfl⟩,my⟩))
  all_goals go_ret
  all_goals exact⟨rfl,my⟩
 |_=>
  have eY:=Tryz.jn ⟨d.toArray⟩ (by rw[y8];omega) (by rw[gL];intro n;rw[ha];exact λ q=>by cases q) (by rw[gL,ha];exact λ q=>by cases q) e0 w uf nj
  have rR:Calls Tryz.prog 137 #[.string ⟨d.toArray⟩] w λ e w'=>(∃N,e=.returned (.tuple #[.int .i64 0,.iface 294 (.pointer (some ⟨N,0,none⟩))]))∧ef w w':=eY.mono (by
   rintro e w' ⟨N,rfl,_,_,hb⟩;exact⟨⟨N,rfl⟩,ef.below hb⟩)
  clear eY gL y8 pN uf iR nj rO;simp only
  go_enter Tryz.func89,Tryz.ntmps89
  go_wp2_with (first
   |(go_at_call 136;refine np.mono ?_;rintro e w' ⟨rfl,rfl⟩)
   |(go_at_call 137;refine rR.mono ?_;rintro e w1 ⟨⟨N,rfl⟩,my⟩))
  all_goals go_ret
  all_goals exact⟨rfl,my⟩
theorem ZX{ml:Gv}(s:List UInt8)(hl:s.length≤bI):FC Tryz.prog (GM ml) 89 [] [.str s] (.int .i64 (kb s)) []:=by
 refine L0 (by kernel_rfl) λ S ι w vs _ hG hL=>?_
 obtain⟨u,rfl,h1⟩:=po hL;obtain rfl:=h1.dk;have c0:=pE.eT hG (g:=0) (v:=ml.e0) rfl;have c1:=pE.eT hG (g:=1) (v:=ml.e1) rfl;refine(ZmQ ⟨s.toArray⟩ w (by simpa[bI]using hl) ml.e0 ml.e1 c0 c1 ml.h0 ml.h1 (Ma (g:=2) hG rfl (by kernel_rfl))).mono ?_
 rintro e w' ⟨rfl,hk⟩;refine⟨_,rfl,hk,λ S w=>?_⟩;exact .int _ _
end
section
open Go Go.Ab Go.Proofs Go.RowKit Go.Maps
theorem J9:Keyed Tryz.prog 9:=string_keyed Tryz.underlying9
theorem ZnP:(Tryz.prog.info? 9).map (λ i=>(i.zero,i.size,i.bytes))=some (some (.string ⟨#[]⟩),1,16):=by kernel_rfl
def RN{H:Type}:Value→Option (DataW H×List MemPlace):=λ _=>some (.nil,[])
set_option maxRecDepth 100000 in
set_option maxHeartbeats 2000000 in
theorem ZnQ{H:Type}(b o mb n:Nat)(D0:DataW H)(w:World)(hc:w.cell? ⟨b,o,none⟩=some (.map (some mb)))(mA:w.ownsMap Tryz.prog 9 RN mb n D0)(Bk:Maps.size D0≤1073741824):
 Calls Tryz.prog 88 #[.pointer (some ⟨b,o,none⟩)] w λ e w'=>∃(v:Value) (ss:List (List UInt8)),e=.returned v∧ss.Perm (strKeys D0)∧
  w'.ownsRow w.heap.size 9 1 v ss.length ((ss.mergeSort (λ x y=>decide (x≤y))).map encStr)∧Below w.heap.size w w':=by
 obtain⟨i0,hi,ub,DU,G0⟩:=info_parts ZnP;have gL:=mA.lt
 go_enter Tryz.func88,Tryz.ntmps88
 go_wp2_with (first
  |(at_range;refine wpList_range_own _ rfl _ 140 rfl 9 80 J9 Tryz.underlying140 _ mb n _ rfl mA ?_;intro w0 Hh RZ yS)
  |go_in)
 go_frame
 go_loopw [3] (λ v wr=>∃(left:Lit→Bool) (eA:Nat) (ss:List (List UInt8)),wr.ranges Tryz.prog 9 RN mb w.heap.size n D0 left eA∧ss.length+eA≤Maps.size D0∧
  wr.ownsRow w.heap.size 9 1 v ss.length (ss.map encStr)∧Collected D0 left ss∧Below w.heap.size w wr)
  (λ _ wr=>wr.rangeLeft mb w.heap.size)
 case atStart=>
  exact⟨_,_,[],Hh,by simp,⟨rfl,.inl ⟨rfl,rfl⟩⟩,Collected.start D0,(Below.refl _ _).grown RZ (Nat.le_refl _) (λ j hj=>by cases hj)⟩
 case round=>
  obtain⟨left,eA,ss,D1,sU,fY,hC,vF⟩:=hrel
  go_wp2_with (first
   |(at_next;refine wpList_next_ranges _ rfl _ rfl 9 J9 RN encStr (λ v:Value=>v) (λ key kl hk=>by obtain⟨x,hx,_⟩:=Maps.keyOf_str Tryz.underlying9 hk;exact⟨x,hx⟩) (λ v y hv=>⟨v,rfl⟩) mb w.heap.size n _ _ _ rfl D1 ?_ ?_)
   |go_in)
  ·intro uw vG;have hp:=hC.perm mA J9 Tryz.underlying9 vG;rcases fY.2 with ⟨Hy,Bj⟩|⟨g,cap,cur,rfl,lU,hb,h1,h2,h3,h4⟩
   ·have Rb:ss=[]:=List.length_eq_zero_iff.1 Bj;subst Rb;subst Hy;have hc:=Tryz.slices_Sort_string_none none 0 wr
    go_wp2_with (go_at_call 135;refine hc.mono ?_;rintro e w' ⟨rfl,rfl⟩)
    go_ret
    exact⟨_,[],rfl,hp,⟨by simp,.inl ⟨rfl,rfl⟩⟩,vF⟩
   ·have hH:Go.Sort.Holds encStr wr g 0 ss.toArray:=holds_of_block hb (by simpa using h4)
    have RW:g<wr.heap.size:=(Array.getElem?_eq_some_iff.1 hb).1;have hc:=Tryz.slices_Sort_string g 0 cap ss wr hH RW (by omega)
    go_wp2_with (go_at_call 135;refine hc.mono ?_;rintro e w' ⟨rfl,nn,os,rfl⟩)
    go_ret
    exact⟨_,ss,rfl,hp,ownsRow_sorted (by simp) lU hb h1 h2 h3,vF.grown (grownBy_sorted _) vF.size (λ j hj=>by cases hj;exact lU)⟩
  ·intro x c kl yd yp w2 Iu ur RB hv eY Ba iU rM Hf hen;obtain⟨x',ex,rfl,_⟩:=Maps.keyOf_str Tryz.underlying9 ur;obtain rfl:x=x':=encStr_inj ex;have oV:=fY.kept rM (Or.inr (row_ne_iter fY D1).symm);clear Hf
   go_wp2_with (first
    |(at_builtin;refine wpList_append_own _ rfl _ _ 181 rfl w.heap.size 9 i0 (.string ⟨#[]⟩) 1 16 Tryz.underlying181 hi ub DU G0 rfl (by decide) _ _ _ rfl (oV.alloc _) ⟨w2.heap.size,0,none⟩ 1 1 [encStr x] rfl rfl (cell_one_new _ _ _) (by simp[Value.oneCell',encStr]) (by unfold maxLen at*;omega) (by omega) (by have:=vF.size;have:=rM.size;simp;omega) ?_;intro v' w3 Bf D9 Lm;go_frame)
    |go_in)
   have A9:=(Ba.alloc _).kept D9 (row_ne_low oV gL) (row_ne_iter oV Ba)
   go_roundw
   case rel=>
    refine⟨_,Iu,ss++[x],A9,by simp;omega,by simpa using Bf,hC.step RB eY,?_⟩
    exact((vF.grown rM vF.size (λ j hj=>by cases hj;exact Nat.le_refl _)).alloc (by have:=vF.size;have:=rM.size;omega) _).grown D9 (by have:=vF.size;have:=rM.size;simp;omega) (λ j hj=>(oV.lt j hj).1)
   case measure=>rw[A9.left_eq,D1.left_eq];exact iU
theorem ZqF{S:Nat→Prop}{w:World}{ι:bp}{mb:Nat}{fs:List (List UInt8×List Int)}{xs:Array MapEntry}{clock:Nat}(kI:w.heap[mb]? =some (.map xs clock))(cS:oy xs clock)
 (hF:lN S w ι 1 (eD (λ k=>AV.str k) (cn .u8) fs) none xs) (hle:(fs.all λ e=>decide (e.1.length≤bI))=true):
 ∃D0:DataW Unit,w.ownsMap Tryz.prog 9 RN mb xs.size D0∧Maps.size D0=fs.length∧(strKeys D0).Perm (fs.map Prod.fst):=by
 have hlen:fs.length=xs.size:=by have:=hF.1;simpa[eD]using this
 have ur:∀(i:Nat) e x,fs[i]? =some e→xs[i]? =some x→x.key=encStr e.1:=by
  intro i e x he hx;have:=(hF.2.1 i (.str e.1,e.2.map (cn .u8)) x (by simp[eD,he]) hx).1
  have h2:=(cz.cu (ι:=ι) _ _ this).dk;exact h2
 have Lj:∀(i:Nat) e x,fs[i]? =some e→xs[i]? =some x→Go.WideElems.rd (H:=Unit) Tryz.prog 9 RN x=some (.string e.1,.nil):=by
  intro i e x he hx;have h1:=ur i e x he hx;have hl:e.1.length≤bI:=by
   have:=List.all_eq_true.1 hle e (List.mem_of_getElem? he);simpa using this
  have hk:keyOf Tryz.prog 9 (encStr e.1)=some (.string e.1):=by
   have fg:(ByteArray.mk e.1.toArray).size≤maxLen:=by
    simp only[ByteArray.size,List.size_toArray];unfold bI at hl;unfold maxLen;omega
   simp[keyOf,Tryz.underlying9,encStr,mapKey,fg]
  unfold Go.WideElems.rd;rw[h1,hk];rfl
 have HQ:∀x∈xs.toList,∃(i:Nat) (e:List UInt8×List Int),fs[i]? =some e∧xs[i]? =some x:=by
  intro x hx;obtain⟨i,hi⟩:=List.getElem?_of_mem hx;rw[Array.getElem?_toList]at hi;have pR:=(Array.getElem?_eq_some_iff.1 hi).1;exact⟨i,fs[i]'(by omega),List.getElem?_eq_getElem _,hi⟩
 refine⟨.map ((xs.toList.map (Go.WideElems.rg Tryz.prog 9 RN)).foldr DataW.insert []),⟨xs,clock,kI,⟨by have:=cS.1;unfold bI at this;unfold maxLen;omega,cS.2,λ x hx=>?_⟩,Nat.le_refl _,rfl⟩,?_,?_⟩
 ·obtain⟨i,e,h1,h2⟩:=HQ x hx;exact⟨_,Lj i e x h1 h2⟩
 ·rw[Maps.size_eq,(Go.WideShapes.sorted_perm _).length_eq];simp[hlen]
 ·refine((Go.WideShapes.sorted_perm _).map _).trans (List.Perm.of_eq ?_);rw[List.map_map];apply List.ext_getElem?;intro i;rw[List.getElem?_map,List.getElem?_map,Array.getElem?_toList];by_cases hi:i<fs.length
  ·have he:=List.getElem?_eq_getElem hi;have hx:=Array.getElem?_eq_getElem (xs:=xs) (i:=i) (by omega)
   rw[hx,he];simp only[Option.map_some,Function.comp,Option.some.injEq];rw[Go.WideElems.rg_of (Lj i _ _ he hx)];rfl
  ·rw[List.getElem?_eq_none (by omega),Array.getElem?_eq_none (by omega)]
   rfl
theorem ZqJ{S:Nat→Prop}{w:World}{ι:bp}{o q:Nat}{row:List AV}(h:cX S w ι o (.rows false [.bm q::row])){l:Ab.Loc}(hl:ι o=some (some l)):
 ∃lq,ι q=some (some lq)∧w.cell? ⟨l.bB,l.base+(0*l.bX+0),none⟩=some (.map (some lq.bB)):=by
 rcases h with ⟨_,h⟩|⟨l',bc,q',fw,hm,eY,du⟩
 ·cases h
 ·rw[q']at hl;injection hl with hl;injection hl with hl;subst hl;have hR:=du 0 _ rfl;simp only[Bool.false_eq_true,if_false]at hR;obtain⟨x,hx⟩:∃x,(bc 0)[0]? =some x:=⟨_,List.getElem?_eq_getElem (by rw[←hR.1];simp)⟩
  obtain⟨lq,hq,rfl⟩:=(hR.2 0 _ x rfl hx).dx;exact⟨lq,hq,(eY.2.2 0 0 _ (by simp) hx).1⟩
theorem XO{G:eo}(fs:List (List UInt8×List Int))(row:List AV)(rest:Ab.Os)(hl:fs.length≤bI∧(fs.all λ e=>decide (e.1.length≤bI))=true)
 (Hq:((((0,AO.rows false [AV.bm 1::row])::(1,AO.cw 1 (eD (λ k=>AV.str k) (cn .u8) fs) none)::rest:Ab.Os)).all λ e=>decide (e.1<W))=true)
 (Hw:((0,AO.rows false [AV.bm 1::row])::(1,AO.cw 1 (eD (λ k=>AV.str k) (cn .u8) fs) none)::rest:Ab.Os).length≤W):
 FC Tryz.prog G 88 ((0,.rows false [.bm 1::row])::(1,.cw 1 (eD (λ k=>AV.str k) (cn .u8) fs) none)::rest) [.ptr 0 0 0] (.sl (List.map gy (gV (fs.map Prod.fst))))
  ((0,.rows false [.bm 1::row])::(1,.cw 1 (eD (λ k=>AV.str k) (cn .u8) fs) none)::rest):=by
 refine XY (by kernel_rfl) (by simpa[gV]using hl.1) Hq Hw λ Ow S ι w vs yS hG gm hL=>?_
 obtain⟨v,rfl,hv⟩:=po hL;obtain⟨l,vG,rfl⟩:=hv.dF;obtain⟨lq,hq,dC⟩:=ZqJ (gm.ob 0 _ rfl) vG;obtain⟨l1,xs,clock,h1,kI,cS,hF⟩:=gm.ob 1 _ rfl;rw[h1]at hq;injection hq with hq;injection hq with hq;subst hq;obtain⟨D0,mA,fg,Be⟩:=ZqF kI cS hF hl.2;refine(ZnQ l.bB (l.base+(0*l.bX+0)) l1.bB xs.size D0 w dC mA (by rw[fg];exact hl.1)).mono ?_
 rintro e w' ⟨v,ss,rfl,hp,fY,hb⟩;refine⟨ef.below hb,?_⟩;have vC:ss.mergeSort (λ x y=>decide (x≤y))=gV (fs.map Prod.fst):=mergeSort_of_perm (hp.trans Be);have hlen:(gV (fs.map Prod.fst)).length=ss.length:=by rw[←vC];simp
 rw[vC]at fY;rcases fY.2 with ⟨rfl,hn⟩|⟨g,cap,cur,rfl,lU,LB,h2,h3,h4,h5⟩
 ·left;exact⟨List.length_eq_zero_iff.1 (by rw[hlen];exact hn),none,rfl⟩
 ·right;refine⟨g,0,cap,by rw[hlen],by rw[hlen];exact h2,lU,(Array.getElem?_eq_some_iff.1 LB).1,λ i s hs=>?_⟩
  have h6:(cur.toList.take (ss.length*1))[i]? =some (encStr s):=by rw[h5,List.getElem?_map,hs];rfl
  have hi:=fD hs;rw[List.getElem?_take_of_lt (by omega),Array.getElem?_toList]at h6
  simp only[World.cell?,LB,Nat.zero_add];exact h6
end
end Go.T
