/-
  CertMvE: the program's functions compute them. Printed by a program.
-/
import Derived.Test.YthohllgoneadhaaGreatDoorSem
import Derived.Test.YthohllgoneadhaaGreatDoorProg
import Derived.KernelRfl
import Derived.Test.YthohllgoneadhaaGreatDoorAbL
import Derived.Test.YthohllgoneadhaaGreatDoorAbI
import Derived.Test.YthohllgoneadhaaGreatDoorPlain
import Derived.WalkKit
import Derived.Test.YthohllgoneadhaaGreatDoorLib
set_option linter.unusedVariables false
set_option maxRecDepth 200000
set_option maxHeartbeats 4000000
namespace Go.T
open Go Go.Ab Go.Proofs
theorem mixed:Tryz.prog.follows .mixedOrders=true:=by kernel_rfl
abbrev FZ (ml:Gv):=FC Tryz.prog (GM ml)
def zr0:List AV:=[aI 0,aI 0,aI 0,aI 0,aI 0,aI 0,aI 0,.str []]
def zr1:List AV:=[aI 0,aI 0,.esl,aI 0,aI 0,aI 0,aI 0,aI 0,aI 0,aI 0,.str []]
def zr2:List AV:=[aI 0,aI 0,aI 0,aI 0,aI 0,.str [],aI 0,aI 0,aI 0,.str [],.str [],.str [],.str [],aI 0,aI 0,aI 0,aI 0,.str [],.str [],.esl,.esl]
def zr3:List AV:=[aI 0,aI 0,aI 0,.str [],.str [],.esl,.esl]
variable {ml:Gv} {F:Nat}
theorem ZmL:∀ w,PredAtRunes Tryz.prog 128 #[] ZeU w:=by
  intro w W x hx hb
  show Calls Tryz.prog 128 #[.int .i32 x] W _
  have key:Calls Tryz.prog 128 #[.int .i32 x] W fun e w'=>e = .returned (.bool ((x:Int)==32 || (x:Int)==9))∧W=w':=by
    go_enter Tryz.func128,Tryz.ntmps128
    go_wp2
    all_goals go_ret
    all_goals (refine ⟨?_,rfl⟩;simp_all)
  refine key.mono ?_
  rintro e w' ⟨rfl,rfl⟩
  refine ⟨?_,0,rfl⟩
  have h:((x:Int)==32 || (x:Int)==9)=ZeU x:=by
    unfold ZeU
    rw [Bool.eq_iff_iff]
    simp only [Bool.or_eq_true,beq_iff_eq]
    omega
  rw [h]
theorem Zd4 {s r} (h:ZdB F s=some r):FZ ml 60 [] [.str s] (.bool r) []:=by
 refine fA Tryz.func60 ?_
 unfold ZdB at h
 (conv=>whnf);refine gX h fun h=>?_;(conv=>whnf);refine jS h fun o4 v=>jT [(0,.str s)] [] 0 (fun h k4 e=>?_) fun h=>?_
 ·(conv=>whnf);left;(conv=>whnf);refine lI (fun n' x'=>Zc2 F s n' x') (fun x'=>[(0,.str s),(6,.osw 0 1),(7,aI (@Nat.cast Int instNatCastInt (List.length (@enc8 s)))),(8,aI x')]) (fun x'=>[(0,rT (cInt IntKind.u8) (List.map (fun (b_12:UInt8)=>(((UInt8.toNat b_12):Nat):Int)) s))]) 1 (0:Int) [(0,24)] h ?_;rintro n_18 t8_19 h;rw [Zc2.eq_2] at h;(conv=>whnf);left;refine bS h (fun h=>?_) fun h=>?_
  ·(conv=>whnf);left;(conv=>whnf);refine gX h fun h=>?_;(conv=>whnf);refine oB h fun y_23 h=>?_;(conv=>whnf);refine oB h fun y_24 h=>?_;(conv=>whnf);refine jN h fun t33_25=>jM [(0,.str s),(6,.osw 0 1),(7,aI (@Nat.cast Int instNatCastInt (List.length (@enc8 s)))),(8,aI t8_19),(33,.bool t33_25)] [(0,rT (cInt IntKind.u8) (List.map (fun (b_12:UInt8)=>(((UInt8.toNat b_12):Nat):Int)) s))] 1 (fun h=>qE [(0,0)]) fun h=>?_;(conv=>whnf);left;refine bS h (fun h=>?_) fun h=>?_
   ·cases h;cases k4;exact rfl
   exact rE (n_18,(IntKind.wrap IntKind.i64 (t8_19+(1:Int)))) [(0,0)] h
  exact qE []
 exact qR
theorem Zir {spans r} (h:Zet F spans=some r):FZ ml 41 [] [sM Zab.c spans] (.bool r) []:=by
 refine fA Tryz.func41 ?_
 unfold Zet at h
 (conv=>whnf);refine jN h fun t29_2=>jM [(0,sM Zab.c spans),(29,.bool t29_2)] [] 0 (fun h=>?_) fun h=>?_
 ·(conv=>whnf);left;refine bS h (fun h=>qE []) fun h=>?_;(conv=>whnf);refine bS h (fun h=>qE []) fun h=>?_;(conv=>whnf);refine aX ?_;(conv=>whnf);refine oB h fun y_3 h=>?_;(conv=>whnf);refine bS h (fun h=>qE []) fun h=>?_;(conv=>whnf);refine gS h fun h=>?_;(conv=>whnf);refine oB h fun y_4 h=>?_;exact qE []
 (conv=>whnf);left;refine bS h (fun h=>qR) fun h=>?_;(conv=>whnf);refine aX ?_;(conv=>whnf);refine gS h fun h=>?_;(conv=>whnf);refine gS h fun h=>?_;(conv=>whnf);refine gS h fun h=>?_;(conv=>whnf);refine jS h fun o5 v=>jT [] [] 0 (fun h k5 e=>?_) fun h=>?_
 ·(conv=>whnf);left;(conv=>whnf);refine lI (fun n' x'=>Zcp F spans n' x') (fun x'=>[(0,sM Zab.c spans),(34,sM Zab.c (List.take (Int.toNat (IntKind.wrap IntKind.i64 ((@Nat.cast Int instNatCastInt (List.length (List.map Zab.c spans))) - (1:Int)))) spans)),(35,aI (@Nat.cast Int instNatCastInt (List.length (@cut (@List AV) none (some (Operand.tmp 33)) (List.map Zab.c spans) 0 (Int.toNat (IntKind.wrap IntKind.i64 ((@Nat.cast Int instNatCastInt (List.length (List.map Zab.c spans))) - (1:Int)))))))),(36,aI x')]) (fun x'=>[]) 0 (0:Int) [] h ?_;rintro n_29 t36_30 h;rw [Zcp.eq_2] at h;(conv=>whnf);left;refine bS h (fun h=>?_) fun h=>?_
  ·(conv=>whnf);left;(conv=>whnf);refine gX h fun h=>?_;(conv=>whnf);refine oB h fun y_35 h=>?_;(conv=>whnf);left;(conv=>whnf);refine jN h fun t62_38=>jM [(0,sM Zab.c spans),(34,sM Zab.c (List.take (Int.toNat (IntKind.wrap IntKind.i64 ((@Nat.cast Int instNatCastInt (List.length (List.map Zab.c spans))) - (1:Int)))) spans)),(35,aI (@Nat.cast Int instNatCastInt (List.length (@cut (@List AV) none (some (Operand.tmp 33)) (List.map Zab.c spans) 0 (Int.toNat (IntKind.wrap IntKind.i64 ((@Nat.cast Int instNatCastInt (List.length (List.map Zab.c spans))) - (1:Int)))))))),(36,aI t36_30),(62,.bool t62_38)] [] 0 (fun h=>?_) fun h=>?_
   ·(conv=>whnf);left;(conv=>whnf);left;(conv=>whnf);refine cL h Zd4 fun y_39 h=>?_;(conv=>whnf);refine bS h (fun h=>qE []) fun h=>?_;(conv=>whnf);refine bS h (fun h=>qE []) fun h=>?_;(conv=>whnf);refine gX h fun h=>?_;(conv=>whnf);refine oB h fun y_40 h=>?_;exact qE []
   (conv=>whnf);left;refine bS h (fun h=>?_) fun h=>?_
   ·cases h;cases k5;exact rfl
   exact rE (n_29,(IntKind.wrap IntKind.i64 (t36_30+(1:Int)))) [] h
  exact qE []
 exact qR
theorem ZhD {s a1 r} (h:ZeC F s a1=some r):FZ ml 44 [] [.agg (Zab.c s),AV.rp (cInt IntKind.i64 a1) 0] (.bool r) []:=by
 refine fA Tryz.func44 ?_
 unfold ZeC at h
 exact qR
theorem Zdj {s f0 r} (h:Zbf F s f0=some r):FZ ml 31 [] [sM Zab.c s,AV.fn 44 ((AV.rp (cInt IntKind.i64 f0) 0)::[])] (aI r) []:=by
 refine fA Tryz.func31 ?_
 unfold Zbf at h
 (conv=>whnf);refine jS h fun o0 v=>jT [] [] 0 (fun h k0 e=>?_) fun h=>?_
 ·(conv=>whnf);left;(conv=>whnf);refine lI (fun n' x'=>ZaA F s f0 n' x') (fun x'=>[(0,sM Zab.c s),(1,AV.fn 44 ((AV.rp ((AV.int IntKind.i64 f0)::[]) 0)::[])),(7,aI (@Nat.cast Int instNatCastInt (List.length (List.map Zab.c s)))),(8,aI x')]) (fun x'=>[]) 0 (0:Int) [] h ?_;rintro n_12 t8_13 h;rw [ZaA.eq_2] at h;(conv=>whnf);left;refine bS h (fun h=>?_) fun h=>?_
  ·(conv=>whnf);left;(conv=>whnf);refine gX h fun h=>?_;(conv=>whnf);refine oB h fun y_16 h=>?_;(conv=>whnf);left;(conv=>whnf);refine cL h ZhD fun y_17 h=>?_;(conv=>whnf);left;refine bS h (fun h=>?_) fun h=>?_
   ·cases h;cases k0;exact rfl
   exact rE (n_12,(IntKind.wrap IntKind.i64 (t8_13+(1:Int)))) [] h
  exact qE []
 exact qR
theorem Zdb {a shard r} (h:Zco F a shard=some r):FZ ml 27 [] [.agg (Zag.c a),aI shard] (aI r) []:=by
 refine fA Tryz.func27 ?_
 unfold Zco at h
 (conv=>whnf);left;(conv=>whnf);left;(conv=>whnf);left;(conv=>whnf);exact cL h Zdj fun y_0 h=>qR
theorem Ziq {a s p r} (h:ZcE F a s p=some r):FZ ml 61 [] [.agg (Zag.c a),.agg (Zab.c s),.agg (Zap.c p)] (.bool r) []:=by
 refine fA Tryz.func61 ?_
 unfold ZcE at h
 (conv=>whnf);left;(conv=>whnf);left;(conv=>whnf);left;(conv=>whnf);refine jN h fun t39_0=>jM [(4,pp 0),(5,pp 1),(39,.bool t39_0)] [(0,rF (Zab.c s)),(1,rF (Zap.c p))] 2 (fun h=>qE [(0,16),(1,24)]) fun h=>?_;(conv=>whnf);left;refine bS h (fun h=>qR) fun h=>?_;(conv=>whnf);left;(conv=>whnf);left;refine bS h (fun h=>qR) fun h=>?_;(conv=>whnf);exact jN h fun t56_2=>jM [(4,pp 0),(5,pp 1),(41,aI p.Phase),(56,.bool t56_2)] [(0,rF (Zab.c s)),(1,rF (Zap.c p))] 2 (fun h=>qE [(0,0),(1,1)]) fun h=>qR
theorem Zf5 {s key r} (h:ZdV F s key=some r):FZ ml 45 [] [.agg (Zab.c s),.str key] (.bool r) []:=by
 refine fA Tryz.func45 ?_
 unfold ZdV at h
 (conv=>whnf);left;(conv=>whnf);left;(conv=>whnf);left;(conv=>whnf);exact cL h Zd4 fun y_0 h=>qR
theorem ZhC {a r} (h:ZbR F a=some r):FZ ml 42 [] [.agg (Zag.c a)] (.bool r) []:=by
 refine fA Tryz.func42 ?_
 unfold ZbR at h
 (conv=>whnf);left;(conv=>whnf);left;(conv=>whnf);left;(conv=>whnf);refine aX ?_;(conv=>whnf);left;refine bS h (fun h=>qR) fun h=>?_;(conv=>whnf);left;(conv=>whnf);refine cL h Zdb fun y_0 h=>?_;(conv=>whnf);refine jN h fun t26_1=>jM [(1,pp 0),(3,pp 1),(4,aI y_0),(26,.bool t26_1)] [(0,rF (Zag.c a)),(1,rF (Zap.c a.Plan))] 2 (fun h=>qE [(0,8),(1,40)]) fun h=>?_;(conv=>whnf);left;refine bS h (fun h=>qR) fun h=>?_;(conv=>whnf);refine gX h fun h=>?_;(conv=>whnf);refine oB h fun y_2 h=>?_;(conv=>whnf);left;(conv=>whnf);left;refine bS h (fun h=>?_) fun h=>?_
 ·(conv=>whnf);left;(conv=>whnf);exact cL h Ziq fun y_3 h=>qR
 (conv=>whnf);refine jN h fun t73_4=>jM [(1,pp 0),(3,pp 1),(4,aI y_0),(5,pp 2),(73,.bool t73_4)] [(0,rF (Zag.c a)),(1,rF (Zap.c a.Plan)),(2,rF (Zab.c y_2))] 3 (fun h=>qE [(0,0),(1,1),(2,42)]) fun h=>?_;(conv=>whnf);left;refine bS h (fun h=>qR) fun h=>?_;(conv=>whnf);left;(conv=>whnf);left;refine bS h (fun h=>?_) fun h=>?_
 ·(conv=>whnf);left;refine bS h (fun h=>?_) fun h=>?_
  ·(conv=>whnf);left;(conv=>whnf);refine cL h Zdb fun y_10 h=>?_;(conv=>whnf);refine bS h (fun h=>?_) fun h=>?_
   ·(conv=>whnf);left;(conv=>whnf);exact cL h Zf5 fun y_11 h=>qR
   exact qR
  exact qR
 (conv=>whnf);left;refine bS h (fun h=>?_) fun h=>?_
 ·(conv=>whnf);left;refine bS h (fun h=>?_) fun h=>?_
  ·(conv=>whnf);refine bS h (fun h=>?_) fun h=>?_
   ·(conv=>whnf);refine gX h fun h=>?_;(conv=>whnf);refine oB h fun y_12 h=>?_;(conv=>whnf);refine bS h (fun h=>?_) fun h=>?_
    ·(conv=>whnf);refine gX h fun h=>?_;(conv=>whnf);refine oB h fun y_13 h=>?_;(conv=>whnf);refine bS h (fun h=>?_) fun h=>?_
     ·(conv=>whnf);refine gX h fun h=>?_;(conv=>whnf);refine oB h fun y_14 h=>?_;exact qR
     exact qR
    exact qR
   exact qR
  exact qR
 exact qR
theorem ZdM {a r} (h:Zbb F a=some r):FZ ml 25 [] [.agg (Zag.c a)] (.bool r) []:=by
 refine fA Tryz.func25 ?_
 unfold Zbb at h
 (conv=>whnf);left;(conv=>whnf);refine jN h fun t23_1=>jM [(1,pp 0),(23,.bool t23_1)] [(0,rF (Zag.c a))] 1 (fun h=>?_) fun h=>?_
 ·(conv=>whnf);left;refine bS h (fun h=>qE [(0,8)]) fun h=>?_;(conv=>whnf);refine bS h (fun h=>qE [(0,8)]) fun h=>?_;(conv=>whnf);refine bS h (fun h=>qE [(0,8)]) fun h=>?_;(conv=>whnf);left;(conv=>whnf);exact cL h Zir fun y_2 h=>qE [(0,8)]
 (conv=>whnf);left;refine bS h (fun h=>qR) fun h=>?_;(conv=>whnf);refine jS h fun o5 v=>jT [(1,pp 0)] [(0,rF (Zag.c a))] 1 (fun h k5 e=>?_) fun h=>?_
 ·(conv=>whnf);left;(conv=>whnf);refine lI (fun n' x'=>ZcI F a n' x') (fun x'=>[(1,pp 0),(25,sM Zab.c a.Spans),(26,aI (@Nat.cast Int instNatCastInt (List.length (List.map Zab.c a.Spans)))),(27,aI x')]) (fun x'=>[(0,rF (Zag.c a))]) 1 (0:Int) [(0,0)] h ?_;rintro n_21 t27_22 h;rw [ZcI.eq_2] at h;(conv=>whnf);left;refine bS h (fun h=>?_) fun h=>?_
  ·(conv=>whnf);left;(conv=>whnf);refine gX h fun h=>?_;(conv=>whnf);refine oB h fun y_26 h=>?_;(conv=>whnf);left;(conv=>whnf);refine jN h fun t71_28=>jM [(1,pp 0),(25,sM Zab.c a.Spans),(26,aI (@Nat.cast Int instNatCastInt (List.length (List.map Zab.c a.Spans)))),(27,aI t27_22),(71,.bool t71_28)] [(0,rF (Zag.c a))] 1 (fun h=>?_) fun h=>?_
   ·(conv=>whnf);left;refine bS h (fun h=>qE [(0,0)]) fun h=>?_;(conv=>whnf);refine bS h (fun h=>qE [(0,0)]) fun h=>?_;(conv=>whnf);left;(conv=>whnf);exact cL h Zdb fun y_29 h=>qE [(0,0)]
   (conv=>whnf);left;refine bS h (fun h=>?_) fun h=>?_
   ·cases h;cases k5;exact rfl
   exact rE (n_21,(IntKind.wrap IntKind.i64 (t27_22+(1:Int)))) [(0,0)] h
  exact qE [(0,0)]
 (conv=>whnf);left;(conv=>whnf);exact cL h ZhC fun y_30 h=>qR
theorem Zhs {groups r} (h:ZeW F groups=some r):FZ ml 18 [] [aI groups] (.tup [.agg (Zag.c r.1),aI r.2]) []:=by
 refine fK Tryz.func18 ?_
 unfold ZeW at h
 (conv=>whnf);left;(conv=>whnf);left;(conv=>whnf);left;(conv=>whnf);left;(conv=>whnf);left;(conv=>whnf);left;(conv=>whnf);exact cL h (fun h=>aE (ZdM h)) fun y_0 h=>qK
theorem Zb6 {s r} (h:ZaZ F s=some r):FZ ml 43 [] [(.sl (List.map Zab.c s))] (.osw 0 5) [(0,.rows true (List.map Zab.c r))]:=by
 unfold ZaZ at h
 obtain ⟨hg,h⟩:=grd_e h
 cases h
 refine ZkF 2000 Tryz.func43 rfl (by kernel_rfl) mixed (by show 1≤8;decide) (by decide) rfl ?_
 refine oL ?_
 refine And.intro (fun hp=>?_) ?_
 ·conv=>whnf
  exact ZiQ [(0,32)] rfl (by rw [hp];rfl) rfl
 refine oL ?_
 refine And.intro (Zds.map (fun _=>rfl)) ?_
 refine And.intro Zds.nil ?_
 refine And.intro (show 0+(List.map Zab.c s).length≤LIM by simpa using hg) ?_
 conv=>whnf
 exact gI [(0,48)]
theorem Zis {a r} (h:Zeu F a=some r):FZ ml 26 [] [.agg (Zag.c a)] (.agg (Zag.c r)) []:=by
 refine fA Tryz.func26 ?_
 unfold Zeu at h
 (conv=>whnf);left;(conv=>whnf);left;(conv=>whnf);left;(conv=>whnf);exact cR h (fun h=>Zba (Zb6 h) rfl) fun y_0 h=>qR
theorem Zjz {a i asked r} (h:Zgi F a i asked=some r):FZ ml 28 [] [.agg (Zag.c a),aI i,.agg (Zap.c asked)] (.tup [.agg (Zap.c r.1),aI r.2]) []:=by
 refine fA Tryz.func28 ?_
 unfold Zgi at h
 (conv=>whnf);left;(conv=>whnf);left;(conv=>whnf);left;(conv=>whnf);refine gX h fun h=>?_;(conv=>whnf);refine oB h fun y_0 h=>?_;(conv=>whnf);left;(conv=>whnf);left;(conv=>whnf);left;(conv=>whnf);refine jN h fun t50_2=>jM [(3,pp 0),(5,pp 1),(6,pp 2),(8,pp 3),(9,pp 4),(10,aI (IntKind.wrap IntKind.i64 (i+(1:Int)))),(50,.bool t50_2)] [(0,rF (Zag.c a)),(1,rF (Zap.c asked)),(2,rF zr0),(3,rF (Zab.c y_0)),(4,rF [aI asked.Kind,aI 1,aI y_0.Shard,aI 0,aI y_0.Group,aI 0,aI y_0.Epoch,.str []])] 5 (fun h=>?_) fun h=>?_
 ·(conv=>whnf);left;refine bS h (fun h=>qE [(0,8),(1,16),(2,24),(3,80),(4,168)]) fun h=>?_;(conv=>whnf);refine bS h (fun h=>?_) fun h=>?_
  ·(conv=>whnf);refine bS h (fun h=>?_) fun h=>?_
   ·(conv=>whnf);refine gX h fun h=>?_;(conv=>whnf);refine oB h fun y_3 h=>?_;exact qE [(0,8),(1,16),(2,24),(3,80),(4,168)]
   exact qE [(0,8),(1,16),(2,24),(3,80),(4,168)]
  exact qE [(0,8),(1,16),(2,24),(3,80),(4,168)]
 (conv=>whnf);left;refine bS h (fun h=>qR) fun h=>?_;(conv=>whnf);refine jS h fun o4 ⟨c_10,c_11,c_12,c_13⟩=>jT [(6,pp 0),(9,pp 1)] [(0,rF zr0),(1,rF [aI asked.Kind,aI 1,aI y_0.Shard,aI (c_10),aI (c_11),aI (c_12),aI y_0.Epoch,.str c_13])] 2 (fun h k4 e=>?_) fun h=>?_
 ·(conv=>whnf);left;(conv=>whnf);left;refine bS h (fun h=>?_) fun h=>?_
  ·(conv=>whnf);refine jN h fun t72_14=>jM [(5,pp 0),(6,pp 1),(8,pp 2),(9,pp 3),(72,.bool t72_14)] [(0,rF (Zap.c asked)),(1,rF zr0),(2,rF (Zab.c y_0)),(3,rF [aI asked.Kind,aI 1,aI y_0.Shard,aI 0,aI y_0.Group,aI 0,aI y_0.Epoch,.str []])] 4 (fun h=>qE [(0,1),(1,2),(2,3),(3,4)]) fun h=>?_;(conv=>whnf);left;refine bS h (fun h=>?_) fun h=>?_
   ·cases h;cases k4;exact rfl
   exact qE [(0,1),(1,3)]
  (conv=>whnf);left;refine bS h (fun h=>?_) fun h=>?_
  ·(conv=>whnf);left;(conv=>whnf);refine cL h Zf5 fun y_15 h=>?_;(conv=>whnf);left;refine bS h (fun h=>?_) fun h=>?_
   ·cases h;cases k4;exact rfl
   (conv=>whnf);refine jN h fun t96_16=>jM [(3,pp 0),(5,pp 1),(6,pp 2),(9,pp 3),(96,.bool t96_16)] [(0,rF (Zag.c a)),(1,rF (Zap.c asked)),(2,rF zr0),(3,rF [aI asked.Kind,aI 1,aI y_0.Shard,aI 0,aI y_0.Group,aI 0,aI y_0.Epoch,.str []])] 4 (fun h=>qE [(0,0),(1,1),(2,2),(3,4)]) fun h=>?_;(conv=>whnf);left;refine bS h (fun h=>?_) fun h=>?_
   ·cases h;cases k4;exact rfl
   exact qE [(0,2),(1,3)]
  (conv=>whnf);left;refine bS h (fun h=>?_) fun h=>?_
  ·(conv=>whnf);refine jN h fun t122_18=>jM [(3,pp 0),(6,pp 1),(9,pp 2),(10,aI (IntKind.wrap IntKind.i64 (i+(1:Int)))),(122,.bool t122_18)] [(0,rF (Zag.c a)),(1,rF zr0),(2,rF [aI asked.Kind,aI 1,aI y_0.Shard,aI 0,aI y_0.Group,aI 0,aI y_0.Epoch,.str []])] 3 (fun h=>?_) fun h=>?_
   ·(conv=>whnf);left;refine bS h (fun h=>qE [(0,0),(1,2),(2,4)]) fun h=>?_;(conv=>whnf);refine gX h fun h=>?_;(conv=>whnf);refine oB h fun y_19 h=>?_;exact qE [(0,0),(1,2),(2,4)]
   (conv=>whnf);left;refine bS h (fun h=>?_) fun h=>?_
   ·cases h;cases k4;exact rfl
   (conv=>whnf);refine gX h fun h=>?_;(conv=>whnf);refine oB h fun y_20 h=>?_;exact qE [(0,1),(1,2)]
  exact qE [(0,2),(1,4)]
 exact qR
theorem Zgy {a asked r} (h:ZbU F a asked=some r):FZ ml 13 [] [.agg (Zag.c a),.agg (Zap.c asked)] (.tup [.agg (Zag.c r.1),aI r.2]) []:=by
 refine fK Tryz.func13 ?_
 unfold ZbU at h
 (conv=>whnf);left;(conv=>whnf);left;(conv=>whnf);left;(conv=>whnf);left;(conv=>whnf);refine cL h ZdM fun y_0 h=>?_;(conv=>whnf);left;refine bS h (fun h=>qK) fun h=>?_;(conv=>whnf);left;(conv=>whnf);refine cR h Zis fun y_1 h=>?_;(conv=>whnf);left;(conv=>whnf);refine cL h Zdb fun y_2 h=>?_;(conv=>whnf);left;(conv=>whnf);left;refine bS h (fun h=>qK) fun h=>?_;(conv=>whnf);refine jN h fun t25_4=>jM [(2,pp 0),(3,pp 1),(4,pp 2),(6,aI y_2),(25,.bool t25_4)] [(0,rF (Zag.c y_1)),(1,rF (Zap.c asked)),(2,rF zr1)] 3 (fun h=>qE [(0,8),(1,16),(2,24)]) fun h=>?_;(conv=>whnf);left;refine bS h (fun h=>qK) fun h=>?_;(conv=>whnf);left;refine bS h (fun h=>qK) fun h=>?_;(conv=>whnf);left;(conv=>whnf);refine cL h Zjz fun y_5 h=>?_;(conv=>whnf);left;(conv=>whnf);left;refine bS h (fun h=>qK) fun h=>?_;(conv=>whnf);exact jN h fun c_6=>jM [(2,pp 0),(4,pp 1)] [(0,rF [aI y_1.Groups,aI c_6,sM Zab.c y_1.Spans,aI y_5.1.Kind,aI y_5.1.Phase,aI y_5.1.Shard,aI y_5.1.Other,aI y_5.1.Group,aI y_5.1.Past,aI y_5.1.Epoch,.str y_5.1.Key]),(1,rF zr1)] 2 (fun h=>qE [(0,0),(1,2)]) fun h=>qK
theorem Zhp {p have_ r} (h:Zfj F p have_=some r):FZ ml 46 [] [.agg (Zap.c p),.agg (Zaa.c have_)] (.bool r) []:=by
 refine fA Tryz.func46 ?_
 unfold Zfj at h
 exact qR
theorem ZhA {p have_ r} (h:Zdw F p have_=some r):FZ ml 29 [] [.agg (Zap.c p),.agg (Zaa.c have_)] (.tup [aI r.1,.agg (Zae.c r.2)]) []:=by
 refine fK Tryz.func29 ?_
 unfold Zdw at h
 (conv=>whnf);left;(conv=>whnf);left;(conv=>whnf);left;(conv=>whnf);refine jN h fun group_0=>jM [(2,pp 0),(3,pp 1),(5,pp 2),(6,aI group_0)] [(0,rF (Zap.c p)),(1,rF (Zaa.c have_)),(2,rF zr2)] 3 (fun h=>qE [(0,8),(1,16),(2,32)]) fun h=>?_;(conv=>whnf);left;(conv=>whnf);left;(conv=>whnf);refine cL h Zhp fun y_3 h=>?_;(conv=>whnf);left;refine bS h (fun h=>qK) fun h=>?_;(conv=>whnf);exact jN h fun t25_4=>jM [(2,pp 0),(5,pp 1),(6,aI group_0),(25,.bool t25_4)] [(0,rF (Zap.c p)),(1,rF zr2)] 2 (fun h=>qE [(0,0),(1,2)]) fun h=>qK
theorem Zak {s r} (h:Zai F s=some r):FZ ml 47 [] [(.sl (List.map Zaf.c s))] (.osw 0 8) [(0,.rows true (List.map Zaf.c r))]:=by
 unfold Zai at h
 obtain ⟨hg,h⟩:=grd_e h
 cases h
 refine ZkF 2000 Tryz.func47 rfl (by kernel_rfl) mixed (by show 1≤8;decide) (by decide) rfl ?_
 refine oL ?_
 refine And.intro (fun hp=>?_) ?_
 ·conv=>whnf
  exact ZiQ [(0,32)] rfl (by rw [hp];rfl) rfl
 refine oL ?_
 refine And.intro (Zds.map (fun _=>rfl)) ?_
 refine And.intro Zds.nil ?_
 refine And.intro (show 0+(List.map Zaf.c s).length≤LIM by simpa using hg) ?_
 conv=>whnf
 exact gI [(0,48)]
theorem Zbh {s r} (h:ZaG F s=some r):FZ ml 48 [] [(.sl (List.map Zac.c s))] (.osw 0 5) [(0,.rows true (List.map Zac.c r))]:=by
 unfold ZaG at h
 obtain ⟨hg,h⟩:=grd_e h
 cases h
 refine ZkF 2000 Tryz.func48 rfl (by kernel_rfl) mixed (by show 1≤8;decide) (by decide) rfl ?_
 refine oL ?_
 refine And.intro (fun hp=>?_) ?_
 ·conv=>whnf
  exact ZiQ [(0,32)] rfl (by rw [hp];rfl) rfl
 refine oL ?_
 refine And.intro (Zds.map (fun _=>rfl)) ?_
 refine And.intro Zds.nil ?_
 refine And.intro (show 0+(List.map Zac.c s).length≤LIM by simpa using hg) ?_
 conv=>whnf
 exact gI [(0,48)]
theorem Zh8 {p have_ r} (h:Zdn F p have_=some r):FZ ml 30 [] [.agg (Zap.c p),.agg (Zaa.c have_)] (.tup [aI r.1,.agg (Zae.c r.2)]) []:=by
 refine fK Tryz.func30 ?_
 unfold Zdn at h
 (conv=>whnf);left;(conv=>whnf);left;(conv=>whnf);left;(conv=>whnf);refine jS h fun o2 v=>jT [(2,pp 0),(5,pp 1)] [(0,rF (Zap.c p)),(1,rF zr2)] 2 (fun h k2 e=>?_) fun h=>?_
 ·(conv=>whnf);left;(conv=>whnf);refine jN h fun t7_26=>jM [(2,pp 0),(3,pp 1),(5,pp 2),(7,.bool t7_26)] [(0,rF (Zap.c p)),(1,rF (Zaa.c have_)),(2,rF zr2)] 3 (fun h=>?_) fun h=>?_
  ·(conv=>whnf);left;refine bS h (fun h=>?_) fun h=>?_
   ·(conv=>whnf);left;(conv=>whnf);exact cL h Zhp fun y_27 h=>qE [(0,8),(1,16),(2,32)]
   exact qE [(0,8),(1,16),(2,32)]
  (conv=>whnf);left;refine bS h (fun h=>?_) fun h=>?_
  ·(conv=>whnf);left;(conv=>whnf);refine aX ?_;cases h;cases k2;exact kV
  (conv=>whnf);left;refine bS h (fun h=>?_) fun h=>?_
  ·(conv=>whnf);left;(conv=>whnf);refine cR h (fun h=>Zba (Zak h) rfl) fun y_28 h=>?_;(conv=>whnf);left;(conv=>whnf);refine cR h Zbh fun y_29 h=>?_;(conv=>whnf);left;(conv=>whnf);refine aX ?_;(conv=>whnf);refine jN h fun l_40=>jM [(2,pp 0),(3,pp 1),(5,pp 2)] [(0,rF (Zap.c p)),(1,rF [aI have_.Id,aI (IntKind.wrap IntKind.i64 (p.Epoch+(1:Int))),aI 3,.str have_.From,.str have_.To,sM Zaf.c y_28,.osw 3 5]),(2,rF zr2),(3,rT Zac.c l_40)] 4 (fun h=>?_) fun h=>?_
   ·(conv=>whnf);left;(conv=>whnf);refine lI (fun n' x'=>ZcN F y_29 n' x'.1 x'.2) (fun x'=>[(2,pp 0),(3,pp 1),(5,pp 2),(43,aI (@Nat.cast Int instNatCastInt (List.length (List.map Zac.c y_29)))),(44,aI x'.1)]) (fun x'=>[(0,rF (Zap.c p)),(1,rF [aI have_.Id,aI (IntKind.wrap IntKind.i64 (p.Epoch+(1:Int))),aI 3,.str have_.From,.str have_.To,sM Zaf.c y_28,.osw 3 5]),(2,rF zr2),(3,rT Zac.c x'.2)]) 4 ((0:Int),y_29) [(0,0),(1,1),(2,2),(3,131)] h ?_;rintro n_51 ⟨t44_52,l_53⟩ h;dsimp only at h;rw [ZcN.eq_2] at h;(conv=>whnf);left;refine bS h (fun h=>?_) fun h=>?_
    ·(conv=>whnf);left;(conv=>whnf);refine gX h fun h=>?_;(conv=>whnf);refine oB h fun y_59 h=>?_;(conv=>whnf);refine oB h fun y_60 h=>?_;(conv=>whnf);left;(conv=>whnf);refine cR h (fun h=>Zba (Zak h) rfl) fun y_61 h=>?_;(conv=>whnf);refine gX h fun h=>?_;(conv=>whnf);refine oB h fun y_62 h=>?_;(conv=>whnf);refine oB h fun y_63 h=>?_;(conv=>whnf);refine aX ?_;exact rE (n_51,(IntKind.wrap IntKind.i64 (t44_52+(1:Int))),(List.set l_53 (Int.toNat t44_52) (Zac.mk y_63.Client y_63.Seq (Zam.mk y_63.Result.Err y_63.Result.Time y_61)))) [(0,0),(1,1),(2,2),(3,3)] h
    exact qE [(0,0),(1,1),(2,2),(3,3)]
   (conv=>whnf);left;(conv=>whnf);refine aX ?_;cases h;cases k2;exact kV
  (conv=>whnf);left;refine bS h (fun h=>?_) fun h=>?_
  ·(conv=>whnf);left;(conv=>whnf);refine aX ?_;cases h;cases k2;exact kV
  exact qE [(0,0),(1,2)]
 exact qK
theorem ZhB {s b r} (h:Ze4 F s b=some r):FZ ml 32 [(0,rF (Zap.c b))] [.agg (Zab.c s),pp 0] (.bool r) [(0,rF (Zap.c b))]:=by
 refine fG Tryz.func32 ?_
 unfold Ze4 at h
 exact qG [(0,0)]
theorem ZcU {s b r} (h:ZaW F s b=some r):FZ ml 31 [(0,rF (Zap.c b))] [sM Zab.c s,AV.fn 32 ((AV.ptr 0 0 0)::[])] (aI r) [(0,rF (Zap.c b))]:=by
 refine fG Tryz.func31 ?_
 unfold ZaW at h
 (conv=>whnf);refine jS h fun o0 v=>jT [] [(0,rF (Zap.c b))] 1 (fun h k0 e=>?_) fun h=>?_
 ·(conv=>whnf);left;(conv=>whnf);refine lI (fun n' x'=>Zav F s b n' x') (fun x'=>[(0,sM Zab.c s),(1,AV.fn 32 ((AV.ptr 0 0 0)::[])),(7,aI (@Nat.cast Int instNatCastInt (List.length (List.map Zab.c s)))),(8,aI x')]) (fun x'=>[(0,rF (Zap.c b))]) 1 (0:Int) [(0,0)] h ?_;rintro n_12 t8_13 h;rw [Zav.eq_2] at h;(conv=>whnf);left;refine bS h (fun h=>?_) fun h=>?_
  ·(conv=>whnf);left;(conv=>whnf);refine gX h fun h=>?_;(conv=>whnf);refine oB h fun y_16 h=>?_;(conv=>whnf);refine cG [0] h ZhB fun y_17 h=>?_;(conv=>whnf);left;refine bS h (fun h=>?_) fun h=>?_
   ·cases h;cases k0;exact gI [(0,0)]
   exact rE (n_12,(IntKind.wrap IntKind.i64 (t8_13+(1:Int)))) [(0,0)] h
  exact qE [(0,0)]
 exact qG [(0,0)]
theorem Zdx {a have_ r} (h:ZaL F a have_=some r):FZ ml 14 [] [.agg (Zag.c a),.agg (Zaa.c have_)] (.tup [aI r.1,.agg (Zae.c r.2.1),.bool r.2.2]) []:=by
 refine fK Tryz.func14 ?_
 unfold ZaL at h
 (conv=>whnf);left;(conv=>whnf);left;(conv=>whnf);left;(conv=>whnf);left;(conv=>whnf);refine jN h fun t20_1=>jM [(2,pp 0),(3,pp 1),(5,pp 2),(7,pp 3),(20,.bool t20_1)] [(0,rF (Zag.c a)),(1,rF (Zaa.c have_)),(2,rF zr2),(3,rF (Zap.c a.Plan))] 4 (fun h=>?_) fun h=>?_
 ·(conv=>whnf);left;(conv=>whnf);left;(conv=>whnf);exact cL h ZdM fun y_2 h=>qE [(0,8),(1,16),(2,32),(3,64)]
 (conv=>whnf);left;refine bS h (fun h=>qK) fun h=>?_;(conv=>whnf);left;(conv=>whnf);left;(conv=>whnf);refine aX ?_;(conv=>whnf);refine jN h fun ⟨group_11,c_12,c_13,c_14,c_15,c_16,c_17,c_18,c_19,c_20,c_21,c_22,c_23,c_24,c_25,c_26,c_27,c_28,c_29,c_30,c_31,c_32⟩=>jM [(5,pp 0),(8,aI group_11),(9,pp 1)] [(0,rF [aI 0,aI 0,aI 0,aI 0,aI 0,.str [],aI 0,aI 0,aI 0,.str [],.str [],.str [],.str [],aI 0,aI 0,aI 0,aI 0,.str [],.str [],sM Zaf.c [],sM Zac.c []]),(1,rF [aI c_12,aI c_13,aI c_14,aI c_15,aI c_16,.str c_17,aI c_18,aI c_19,aI c_20,.str c_21,.str c_22,.str c_23,.str c_24,aI c_25,aI c_26,aI c_27,aI c_28,.str c_29,.str c_30,sM Zaf.c c_31,sM Zac.c c_32])] 2 (fun h=>?_) fun h=>?_
 ·(conv=>whnf);left;(conv=>whnf);left;refine bS h (fun h=>?_) fun h=>?_
  ·(conv=>whnf);left;(conv=>whnf);refine cR h ZhA fun y_33 h=>?_;cases h;exact eW [(0,2),(1,76)]
  (conv=>whnf);left;refine bS h (fun h=>?_) fun h=>?_
  ·(conv=>whnf);left;(conv=>whnf);refine cR h Zh8 fun y_34 h=>?_;cases h;exact eW [(0,2),(1,76)]
  (conv=>whnf);left;refine bS h (fun h=>?_) fun h=>?_
  ·(conv=>whnf);refine aX ?_;cases h;exact eW [(0,2),(1,76)]
  (conv=>whnf);refine cG [3] h ZcU fun y_35 h=>?_;(conv=>whnf);refine gX h fun h=>?_;(conv=>whnf);refine oB h fun y_36 h=>?_;(conv=>whnf);refine aX ?_;cases h;exact eW [(0,2),(1,76)]
 exact qK
theorem Zgr {a have_ r_ s r} (h:Zbj F a have_ r_ s=some r):FZ ml 19 [] [.agg (Zag.c a),.agg (Zaa.c have_),.agg (Zam.c r_),.agg (Zaa.c s)] (.tup [.agg (Zaa.c r.1),aI r.2]) []:=by
 refine fK Tryz.func19 ?_
 unfold Zbj at h
 (conv=>whnf);left;(conv=>whnf);left;(conv=>whnf);left;(conv=>whnf);left;(conv=>whnf);left;(conv=>whnf);left;(conv=>whnf);refine cR h Zdx fun y_0 h=>?_;(conv=>whnf);left;(conv=>whnf);left;refine bS h (fun h=>qK) fun h=>?_;(iterate 68 ((conv=>whnf);first|refine oL ?_|refine gX h fun h=>?_|refine aX ?_));(conv=>whnf);refine bS h (fun h=>?_) fun h=>?_
 ·(iterate 20 ((conv=>whnf);first|refine oL ?_|refine gX h fun h=>?_|refine aX ?_));(conv=>whnf);refine jN h fun t93_1=>jM [(5,pp 0),(6,pp 1),(8,pp 2),(11,pp 3),(14,pp 4),(15,.mapo 5),(93,.bool t93_1)] [(0,rF (Zaa.c have_)),(1,rF (Zam.c r_)),(2,rF zr3),(3,rF (Zae.c y_0.2.1)),(4,rF [aI have_.Id,aI have_.Epoch,aI have_.State,.str have_.From,.str have_.To,sM Zaf.c have_.Jobs,sM Zac.c have_.Seen,aI 0]),(5,.mapo false [(aI 2,.mapo 6),(aI 3,.mapo 7),(aI 4,.mapo 8),(aI 5,.mapo 9),(aI 6,.mapo 10)]),(6,.mapo true [(aI 0,.agg [aI s.Id,aI s.Epoch,aI s.State,.str s.From,.str s.To,sM Zaf.c s.Jobs,sM Zac.c s.Seen,aI 0]),(aI 171,.agg [aI a.Plan.Shard,aI a.Plan.Epoch,aI 0,.str [],.str [],.esl,.esl,aI 0])]),(7,.mapo true [(aI 0,.agg [aI 0,aI 0,aI 0,.str [],.str [],.esl,.esl,aI 9])]),(8,.mapo true [(aI 0,.agg [aI have_.Id,aI have_.Epoch,aI have_.State,.str have_.From,.str have_.To,sM Zaf.c have_.Jobs,sM Zac.c have_.Seen,aI 1]),(aI 3,.agg [aI have_.Id,aI have_.Epoch,aI have_.State,.str have_.From,.str have_.To,sM Zaf.c have_.Jobs,sM Zac.c have_.Seen,aI (@Neg.neg Int Int.instNegInt (1:Int))]),(aI 1,.agg [aI have_.Id,aI have_.Epoch,aI have_.State,.str have_.From,.str have_.To,sM Zaf.c have_.Jobs,sM Zac.c have_.Seen,aI (@Neg.neg Int Int.instNegInt (1:Int))]),(aI 4,.agg [aI have_.Id,aI have_.Epoch,aI have_.State,.str have_.From,.str have_.To,sM Zaf.c have_.Jobs,sM Zac.c have_.Seen,aI (@Neg.neg Int Int.instNegInt (1:Int))]),(aI 171,.agg [aI have_.Id,aI have_.Epoch,aI have_.State,.str have_.From,.str have_.To,sM Zaf.c have_.Jobs,sM Zac.c have_.Seen,aI (@Neg.neg Int Int.instNegInt (1:Int))])]),(9,.mapo true [(aI 0,.agg [aI 0,aI 0,aI 0,.str [],.str [],.esl,.esl,aI 2])]),(10,.mapo true [(aI 0,.agg [aI a.Plan.Shard,aI a.Plan.Epoch,aI 4,.str [],.str [],.esl,.esl,aI 0]),(aI 171,.agg [aI a.Plan.Shard,aI a.Plan.Epoch,aI 4,.str [],.str [],.esl,.esl,aI 0])])] 11 (fun h=>qE [(0,16),(1,24),(2,40),(3,112),(4,200),(5,224),(6,232),(7,280),(8,328),(9,472),(10,776)]) fun h=>?_;(conv=>whnf);left;refine bS h (fun h=>qK) fun h=>?_;(conv=>whnf);left;refine bS h (fun h=>?_) fun h=>?_
  ·(conv=>whnf);refine aX ?_;(conv=>whnf);left;refine bT h fun h=>?_;(conv=>whnf);refine bT h fun h=>?_;(conv=>whnf);refine bT h fun h=>?_;(conv=>whnf);refine bT h fun h=>?_;(conv=>whnf);refine bT h fun h=>?_;(conv=>whnf);left;(conv=>whnf);left;cases h
  exact qK
 (conv=>whnf);refine jN h fun t93_2=>jM [(5,pp 0),(6,pp 1),(8,pp 2),(11,pp 3),(14,pp 4),(15,.mapo 5),(93,.bool t93_2)] [(0,rF (Zaa.c have_)),(1,rF (Zam.c r_)),(2,rF zr3),(3,rF (Zae.c y_0.2.1)),(4,rF [aI have_.Id,aI have_.Epoch,aI have_.State,.str have_.From,.str have_.To,sM Zaf.c have_.Jobs,sM Zac.c have_.Seen,aI 0]),(5,.mapo false [(aI 2,.mapo 6),(aI 3,.mapo 7),(aI 4,.mapo 8),(aI 5,.mapo 9),(aI 6,.mapo 10)]),(6,.mapo true [(aI 0,.agg [aI s.Id,aI s.Epoch,aI s.State,.str s.From,.str s.To,sM Zaf.c s.Jobs,sM Zac.c s.Seen,aI 0])]),(7,.mapo true [(aI 0,.agg [aI 0,aI 0,aI 0,.str [],.str [],.esl,.esl,aI 9])]),(8,.mapo true [(aI 0,.agg [aI have_.Id,aI have_.Epoch,aI have_.State,.str have_.From,.str have_.To,sM Zaf.c have_.Jobs,sM Zac.c have_.Seen,aI 1]),(aI 3,.agg [aI have_.Id,aI have_.Epoch,aI have_.State,.str have_.From,.str have_.To,sM Zaf.c have_.Jobs,sM Zac.c have_.Seen,aI (@Neg.neg Int Int.instNegInt (1:Int))]),(aI 1,.agg [aI have_.Id,aI have_.Epoch,aI have_.State,.str have_.From,.str have_.To,sM Zaf.c have_.Jobs,sM Zac.c have_.Seen,aI (@Neg.neg Int Int.instNegInt (1:Int))]),(aI 4,.agg [aI have_.Id,aI have_.Epoch,aI have_.State,.str have_.From,.str have_.To,sM Zaf.c have_.Jobs,sM Zac.c have_.Seen,aI (@Neg.neg Int Int.instNegInt (1:Int))]),(aI 171,.agg [aI have_.Id,aI have_.Epoch,aI have_.State,.str have_.From,.str have_.To,sM Zaf.c have_.Jobs,sM Zac.c have_.Seen,aI (@Neg.neg Int Int.instNegInt (1:Int))])]),(9,.mapo true [(aI 0,.agg [aI 0,aI 0,aI 0,.str [],.str [],.esl,.esl,aI 2])]),(10,.mapo true [(aI 0,.agg [aI have_.Id,aI have_.Epoch,aI have_.State,.str have_.From,.str have_.To,sM Zaf.c have_.Jobs,sM Zac.c have_.Seen,aI 3]),(aI 171,.agg [aI have_.Id,aI have_.Epoch,aI have_.State,.str have_.From,.str have_.To,sM Zaf.c have_.Jobs,sM Zac.c have_.Seen,aI 3])])] 11 (fun h=>qE [(0,16),(1,24),(2,40),(3,112),(4,200),(5,224),(6,232),(7,280),(8,328),(9,472),(10,520)]) fun h=>?_;(conv=>whnf);left;refine bS h (fun h=>qK) fun h=>?_;(conv=>whnf);left;refine bS h (fun h=>?_) fun h=>?_
 ·(conv=>whnf);refine aX ?_;(conv=>whnf);left;refine bT h fun h=>?_;(conv=>whnf);refine bT h fun h=>?_;(conv=>whnf);refine bT h fun h=>?_;(conv=>whnf);refine bT h fun h=>?_;(conv=>whnf);refine bT h fun h=>?_;(conv=>whnf);left;(conv=>whnf);left;cases h
 exact qK
theorem ZeV {a r} (h:ZcT F a=some r):FZ ml 26 [] [.agg (Zag.c a)] (.agg [aI r.1,aI r.2.1,.osw 0 5,aI r.2.2.1,aI r.2.2.2.1,aI r.2.2.2.2.1,aI r.2.2.2.2.2.1,aI r.2.2.2.2.2.2.1,aI r.2.2.2.2.2.2.2.1,aI r.2.2.2.2.2.2.2.2.1,.str r.2.2.2.2.2.2.2.2.2.1]) [(0,rT Zab.c r.2.2.2.2.2.2.2.2.2.2)]:=by
 refine fG Tryz.func26 ?_
 unfold ZcT at h
 (conv=>whnf);left;(conv=>whnf);left;(conv=>whnf);left;(conv=>whnf);exact cR h Zb6 fun y_0 h=>qG [(0,40)]
theorem Zgm {r} (h:Zdz F=some r):FZ ml 6 [] [] (.bool r) []:=by
 refine fA Tryz.func6 ?_
 unfold Zdz at h
 (conv=>whnf);left;(conv=>whnf);refine cR h Zhs fun y_0 h=>?_;(conv=>whnf);left;(conv=>whnf);left;(conv=>whnf);left;(conv=>whnf);refine cR h Zgy fun y_1 h=>?_;(conv=>whnf);left;(conv=>whnf);left;(conv=>whnf);left;(conv=>whnf);refine cR h (fun h=>aW (Zdx h)) fun y_2 h=>?_;(conv=>whnf);left;(conv=>whnf);left;(conv=>whnf);left;(conv=>whnf);left;(conv=>whnf);left;(conv=>whnf);refine cR h (fun h=>aW (Zgr h)) fun y_3 h=>?_;(conv=>whnf);left;(conv=>whnf);left;(conv=>whnf);refine cR h Zdx fun y_4 h=>?_;(conv=>whnf);left;(conv=>whnf);left;(conv=>whnf);left;(conv=>whnf);exact cR h (fun h=>aW (Zdx h)) fun y_5 h=>qR
theorem Ze2 {s r} (h:Zd0 F s=some r):FZ ml 53 [] [.str s] (.bool r) []:=by
 refine fA Tryz.func53 ?_
 unfold Zd0 at h
 (conv=>whnf);left;refine bS h (fun h=>qR) fun h=>?_;(conv=>whnf);left;(conv=>whnf);exact cL h Zd4 fun y_0 h=>qR
theorem ZfN {s r} (h:Zcx F s=some r):FZ ml 127 [] [.str s,.fn 128 []] (.sl (List.map cStr r)) []:=by
 unfold Zcx at h
 obtain ⟨hg,h⟩:=grd_e h
 cases h
 exact Zot (t:=9) (by kernel_rfl) ZeU ZmL (fun s w a b=>Tryz.strings_FieldsFunc_runes 128 #[] (enters_of Tryz.func128 (by kernel_rfl) rfl) ZeU s w a b) s hg.1 hg.2 rfl
theorem Zhw {s sep r} (h:strings_Split F s sep=some r):FZ ml 144 [] [.str s,.str sep] (.sl (List.map cStr r)) []:=by
 unfold strings_Split at h
 obtain ⟨hg,h⟩:=grd_e h
 cases h
 exact Zpt (g:=2) (t:=9) (by kernel_rfl) rfl (fun s sep w a b c=>Tryz.strings_Split s sep ml.ml w a b c) s sep hg.1 hg.2
theorem Zgn {s sep r} (h:strings_Cut F s sep=some r):FZ ml 158 [] [.str s,.str sep] (.tup [.str r.1,.str r.2.1,.bool r.2.2]) []:=by
 unfold strings_Cut at h
 obtain ⟨hg,h⟩:=grd_e h
 cases h
 exact Zre (g:=2) (by kernel_rfl) rfl (fun s sep w a b=>Tryz.strings_Cut s sep ml.ml w a b) s sep hg
theorem ZhS {s cs r} (h:ZeZ F s cs=some r):FZ ml 171 [] [.str s,.str cs] (.str r) []:=by
 unfold ZeZ at h
 obtain ⟨hg,h⟩:=grd_e h
 cases h
 exact ZqE (by kernel_rfl) (fun s cs w a b c=>Tryz.strings_Trim_ascii s cs w a b c) s cs hg.1 hg.2.1 hg.2.2
theorem Zhx {s r} (h:Ze0 F s=some r):FZ ml 172 [] [.str s] (.tup [.int .i64 r,.con .nilIface]) []:=by
 unfold Ze0 at h
 split at h
 ·rename_i v hv
  obtain ⟨hg,h⟩:=grd_e h
  cases h
  exact ZqI (by kernel_rfl) (fun s v w a b=>(Tryz.strconv_Atoi_ok s a v b w).mono fun e w' hh=>⟨hh.1,hh.2.imp id fun ⟨t,ht⟩=>⟨t,_,ht⟩⟩) s _ hg hv
 cases h
theorem Ze8 {s r} (h:Zc3 F s=some r):FZ ml 159 [] [.str s] (.tup [aI r.1,.bool r.2]) []:=by
 refine fA Tryz.func159 ?_
 unfold Zc3 at h
 (conv=>whnf);refine jN h fun t18_1=>jM [(0,.str s),(18,.bool t18_1)] [] 0 (fun h=>?_) fun h=>?_
 ·(conv=>whnf);left;refine bS h (fun h=>qE []) fun h=>?_;(conv=>whnf);refine bS h (fun h=>qE []) fun h=>?_;(conv=>whnf);left;(conv=>whnf);exact cL h ZhS fun y_2 h=>qE []
 (conv=>whnf);left;refine bS h (fun h=>qR) fun h=>?_;(conv=>whnf);left;(conv=>whnf);exact cR h (fun h=>Zba (Zhx h) rfl) fun y_3 h=>qR
theorem Zku {s f r} (h:ZeP F s f=some r):FZ ml 145 [] [.str s,.agg (Zd7.c f)] (.tup [.agg (Zb8.c r.1),.bool r.2]) []:=by
 refine fA Tryz.func145 ?_
 unfold ZeP at h
 (conv=>whnf);left;(conv=>whnf);left;(conv=>whnf);left;(conv=>whnf);refine cL h Zgn fun y_0 h=>?_;(conv=>whnf);refine jN h fun ⟨step_2,ok_3⟩=>jM [(0,.str y_0.1),(3,pp 0),(4,pp 1),(7,.bool y_0.2.2),(8,aI step_2),(9,.bool ok_3)] [(0,rF (Zd7.c f)),(1,rF [aI 0,aI 0,aI 0])] 2 (fun h=>?_) fun h=>?_
 ·(conv=>whnf);left;refine bS h (fun h=>?_) fun h=>?_
  ·(conv=>whnf);left;(conv=>whnf);exact cL h Ze8 fun y_4 h=>qE [(0,8),(1,16)]
  exact qE [(0,8),(1,16)]
 (conv=>whnf);left;refine bS h (fun h=>qR) fun h=>?_;(conv=>whnf);left;(conv=>whnf);refine cL h Zgn fun y_5 h=>?_;(conv=>whnf);left;(conv=>whnf);refine cL h Ze8 fun y_6 h=>?_;(conv=>whnf);refine jN h fun ⟨to__8,so_9⟩=>jM [(4,pp 0),(7,.bool y_0.2.2),(8,aI step_2),(9,.bool ok_3),(12,.bool y_5.2.2),(13,aI y_6.1),(14,.bool y_6.2),(15,aI to__8),(16,.bool so_9)] [(0,rF [aI 0,aI 0,aI 0])] 1 (fun h=>?_) fun h=>?_
 ·(conv=>whnf);left;refine bS h (fun h=>?_) fun h=>?_
  ·(conv=>whnf);left;(conv=>whnf);exact cL h Ze8 fun y_10 h=>qE [(0,1)]
  exact qE [(0,1)]
 exact qR
theorem ZdQ {least most r} (h:ZdP F least most=some r):FZ ml 131 [] [aI least,aI most] (.int IntKind.u64 r) []:=by
 refine fA Tryz.func131 ?_
 unfold ZdP at h
 exact qR
theorem Zjp {s n r} (h:ZdT F s n=some r):FZ ml 129 [] [.str s,aI n] (.tup [.int IntKind.u64 r.1,aI r.2]) []:=by
 refine fA Tryz.func129 ?_
 unfold ZdT at h
 (conv=>whnf);refine jN h fun ⟨c_0,c_1⟩=>jM [(0,.str s),(1,aI n),(6,AV.int IntKind.u64 (0:Int)),(7,aI 0),(8,pp 0)] [(0,rF [aI c_0,aI c_1])] 1 (fun h=>?_) fun h=>?_
 ·(conv=>whnf);left;(conv=>whnf);refine gX h fun h=>?_;(conv=>whnf);refine gX h fun h=>?_;(conv=>whnf);refine Or.inr ?_;(conv=>whnf);refine bS h (fun h=>qE [(0,64)]) fun h=>?_;(conv=>whnf);refine bS h (fun h=>qE [(0,64)]) fun h=>?_;(conv=>whnf);refine bS h (fun h=>qE [(0,64)]) fun h=>?_;(conv=>whnf);refine bS h (fun h=>qE [(0,64)]) fun h=>?_;(conv=>whnf);refine bS h (fun h=>qE [(0,64)]) fun h=>?_;exact trivial
 (conv=>whnf);left;(conv=>whnf);refine cR h Zhw fun y_2 h=>?_;(conv=>whnf);refine jS h fun o11 ⟨bits_19,e_20⟩=>jT [(1,aI n),(6,AV.int IntKind.u64 bits_19),(7,aI (e_20))] [] 0 (fun h k11 e=>?_) fun h=>?_
 ·(conv=>whnf);left;(conv=>whnf);refine lI (fun n' x'=>Zby F n c_0 c_1 y_2 n' x'.1 x'.2.1 x'.2.2) (fun x'=>[(1,aI n),(6,AV.int IntKind.u64 x'.1),(7,aI x'.2.1),(8,pp 0),(18,sM cStr y_2),(19,aI (@Nat.cast Int instNatCastInt (List.length (List.map cStr y_2)))),(20,aI x'.2.2)]) (fun x'=>[(0,rF [aI c_0,aI c_1])]) 1 ((0:Int),(0:Int),(0:Int)) [(0,0)] h ?_;rintro n_29 ⟨bits_30,e_31,t20_32⟩ h;dsimp only at h;rw [Zby.eq_2] at h;(conv=>whnf);left;refine bS h (fun h=>?_) fun h=>?_
  ·(conv=>whnf);refine jS h fun o21 ⟨bits_39,e_40⟩=>jT [(1,aI n),(6,AV.int IntKind.u64 bits_39),(7,aI (e_40)),(8,pp 0),(18,sM cStr y_2),(19,aI (@Nat.cast Int instNatCastInt (List.length (List.map cStr y_2)))),(20,aI t20_32)] [(0,rF [aI c_0,aI c_1])] 1 (fun h k21 e=>?_) fun h=>?_
   ·(conv=>whnf);left;(conv=>whnf);refine gX h fun h=>?_;(conv=>whnf);refine oB h fun y_41 h=>?_;(conv=>whnf);left;(conv=>whnf);refine cL h Zku fun y_42 h=>?_;(conv=>whnf);left;(conv=>whnf);left;refine bS h (fun h=>?_) fun h=>?_
    ·cases h;cases k21;cases k11;exact rfl
    (conv=>whnf);refine jN h fun t55_43=>jM [(1,aI n),(6,AV.int IntKind.u64 bits_30),(7,aI e_31),(8,pp 0),(10,.str y_41),(11,pp 1),(18,sM cStr y_2),(19,aI (@Nat.cast Int instNatCastInt (List.length (List.map cStr y_2)))),(20,aI t20_32),(55,.bool t55_43)] [(0,rF [aI c_0,aI c_1]),(1,rF (Zb8.c y_42.1))] 2 (fun h=>qE [(0,0),(1,81)]) fun h=>?_;(conv=>whnf);left;refine bS h (fun h=>qE [(0,0)]) fun h=>?_;(conv=>whnf);refine jN h fun t61_44=>jM [(1,aI n),(6,AV.int IntKind.u64 bits_30),(7,aI e_31),(8,pp 0),(11,pp 1),(18,sM cStr y_2),(19,aI (@Nat.cast Int instNatCastInt (List.length (List.map cStr y_2)))),(20,aI t20_32),(61,.bool t61_44)] [(0,rF [aI c_0,aI c_1]),(1,rF (Zb8.c y_42.1))] 2 (fun h=>qE [(0,0),(1,1)]) fun h=>?_;(conv=>whnf);refine jN h fun c_45=>jM [(1,aI n),(6,AV.int IntKind.u64 bits_30),(7,aI e_31),(8,pp 0),(11,pp 1),(18,sM cStr y_2),(19,aI (@Nat.cast Int instNatCastInt (List.length (List.map cStr y_2)))),(20,aI t20_32)] [(0,rF [aI c_0,aI c_1]),(1,rF [aI y_42.1.from_,aI c_45,aI y_42.1.step])] 2 (fun h=>qE [(0,0),(1,1)]) fun h=>?_;(conv=>whnf);refine jN h fun bits_46=>jM [(1,aI n),(6,AV.int IntKind.u64 bits_46),(7,aI e_31),(8,pp 0),(18,sM cStr y_2),(19,aI (@Nat.cast Int instNatCastInt (List.length (List.map cStr y_2)))),(20,aI t20_32)] [(0,rF [aI c_0,aI c_1])] 1 (fun h=>?_) fun h=>?_
    ·(conv=>whnf);left;(conv=>whnf);refine lI (fun n' x'=>ZbP F y_42 c_45 n' x'.1 x'.2) (fun x'=>[(1,aI n),(6,AV.int IntKind.u64 x'.1),(7,aI e_31),(8,pp 0),(11,pp 1),(13,aI x'.2),(18,sM cStr y_2),(19,aI (@Nat.cast Int instNatCastInt (List.length (List.map cStr y_2)))),(20,aI t20_32)]) (fun x'=>[(0,rF [aI c_0,aI c_1]),(1,rF [aI y_42.1.from_,aI c_45,aI y_42.1.step])]) 2 (bits_30,y_42.1.from_) [(0,0),(1,1)] h ?_;rintro n_47 ⟨bits_48,k_49⟩ h;dsimp only at h;rw [ZbP.eq_2] at h;(conv=>whnf);left;refine bS h (fun h=>?_) fun h=>?_
     ·(conv=>whnf);left;(conv=>whnf);refine gX h fun h=>?_;exact rE (n_47,(@ibits BinOp.or IntKind.u64 bits_48 (IntKind.wrap IntKind.u64 ((1:Int) * ((2:Int) ^ (min (Int.toNat k_49) 64))))),(IntKind.wrap IntKind.i64 (k_49+y_42.1.step))) [(0,0),(1,1)] h
     exact qE [(0,0)]
    exact qE [(0,0)]
   exact rE (n_29,bits_39,e_40,(IntKind.wrap IntKind.i64 (t20_32+(1:Int)))) [(0,0)] h
  exact qE []
 (conv=>whnf);refine jN h fun t84_50=>jM [(6,AV.int IntKind.u64 bits_19),(7,aI e_20),(84,.bool t84_50)] [] 0 (fun h=>qE []) fun h=>?_;(conv=>whnf);refine jN h fun bits_52=>jM [(6,AV.int IntKind.u64 bits_52),(7,aI e_20)] [] 0 (fun h=>?_) fun h=>?_
 ·(conv=>whnf);left;refine bS h (fun h=>?_) fun h=>?_
  ·(conv=>whnf);left;(conv=>whnf);exact cL h ZdQ fun y_53 h=>qE []
  exact qE []
 exact qR
theorem Zjr {text r} (h:ZcS F text=some r):FZ ml 105 [] [.str text] (.tup [.agg (ZbI.c r.1),aI r.2.1,aI r.2.2]) []:=by
 refine fA Tryz.func105 ?_
 unfold ZcS at h
 (conv=>whnf);left;(conv=>whnf);left;refine bS h (fun h=>qR) fun h=>?_;(conv=>whnf);left;(conv=>whnf);refine cR h ZfN fun y_0 h=>?_;(conv=>whnf);left;refine bS h (fun h=>qR) fun h=>?_;(conv=>whnf);left;(conv=>whnf);refine jS h fun o4 ⟨c_33,c_34,c_35,c_36,c_37⟩=>jT [(2,pp 0),(5,sM cStr y_0),(6,pp 1)] [(0,rF [AV.int IntKind.u64 (0:Int),AV.int IntKind.u64 (0:Int),AV.int IntKind.u64 (0:Int),AV.int IntKind.u64 (0:Int),AV.int IntKind.u64 (0:Int),.bool false,.bool false]),(1,rF [AV.int IntKind.u64 c_33,AV.int IntKind.u64 c_34,AV.int IntKind.u64 c_35,AV.int IntKind.u64 c_36,AV.int IntKind.u64 c_37])] 2 (fun h k4 e=>?_) fun h=>?_
 ·(conv=>whnf);left;(conv=>whnf);refine lI (fun n' ⟨t23_53,c_54,c_55,c_56,c_57,c_58⟩=>ZbQ F y_0 n' t23_53 c_54 c_55 c_56 c_57 c_58) (fun ⟨t23_53,c_54,c_55,c_56,c_57,c_58⟩=>[(2,pp 0),(5,sM cStr y_0),(6,pp 1),(21,sM cStr y_0),(22,aI (@Nat.cast Int instNatCastInt (List.length (List.map cStr y_0)))),(23,aI t23_53)]) (fun ⟨t23_53,c_54,c_55,c_56,c_57,c_58⟩=>[(0,rF [AV.int IntKind.u64 (0:Int),AV.int IntKind.u64 (0:Int),AV.int IntKind.u64 (0:Int),AV.int IntKind.u64 (0:Int),AV.int IntKind.u64 (0:Int),.bool false,.bool false]),(1,rF [AV.int IntKind.u64 c_54,AV.int IntKind.u64 c_55,AV.int IntKind.u64 c_56,AV.int IntKind.u64 c_57,AV.int IntKind.u64 c_58])]) 2 ((0:Int),(0:Int),(0:Int),(0:Int),(0:Int),(0:Int)) [(0,8),(1,104)] h ?_;rintro n_52 ⟨t23_53,c_54,c_55,c_56,c_57,c_58⟩ h;dsimp only at h;rw [ZbQ.eq_2] at h;(conv=>whnf);left;refine bS h (fun h=>?_) fun h=>?_
  ·(conv=>whnf);left;(conv=>whnf);refine gX h fun h=>?_;(conv=>whnf);refine oB h fun y_66 h=>?_;(conv=>whnf);left;(conv=>whnf);refine cL h Zjp fun y_67 h=>?_;(conv=>whnf);left;refine bS h (fun h=>?_) fun h=>?_
   ·(conv=>whnf);left;cases h;cases k4;exact rfl
   (conv=>whnf);refine jN h fun ⟨c_68,c_69,c_70,c_71,c_72⟩=>jM [(2,pp 0),(5,sM cStr y_0),(6,pp 1),(21,sM cStr y_0),(22,aI (@Nat.cast Int instNatCastInt (List.length (List.map cStr y_0)))),(23,aI t23_53)] [(0,rF [AV.int IntKind.u64 (0:Int),AV.int IntKind.u64 (0:Int),AV.int IntKind.u64 (0:Int),AV.int IntKind.u64 (0:Int),AV.int IntKind.u64 (0:Int),.bool false,.bool false]),(1,rF [AV.int IntKind.u64 c_68,AV.int IntKind.u64 c_69,AV.int IntKind.u64 c_70,AV.int IntKind.u64 c_71,AV.int IntKind.u64 c_72])] 2 (fun h=>?_) fun h=>?_
   ·(conv=>whnf);left;(conv=>whnf);refine gX h fun h=>?_;(conv=>whnf);refine gX h fun h=>?_;(conv=>whnf);refine Or.inr ?_;(conv=>whnf);refine bS h (fun h=>qE [(0,0),(1,1)]) fun h=>?_;(conv=>whnf);refine bS h (fun h=>qE [(0,0),(1,1)]) fun h=>?_;(conv=>whnf);refine bS h (fun h=>qE [(0,0),(1,1)]) fun h=>?_;(conv=>whnf);refine bS h (fun h=>qE [(0,0),(1,1)]) fun h=>?_;(conv=>whnf);refine bS h (fun h=>qE [(0,0),(1,1)]) fun h=>?_;exact trivial
   exact rE (n_52,(IntKind.wrap IntKind.i64 (t23_53+(1:Int))),c_68,c_69,c_70,c_71,c_72) [(0,0),(1,1)] h
  exact qE [(0,0),(1,1)]
 (iterate 16 ((conv=>whnf);first|refine oL ?_|refine aX ?_));(conv=>whnf);refine oB h fun y_73 h=>?_;(conv=>whnf);refine aX ?_;(conv=>whnf);refine oB h fun y_74 h=>?_;exact qR
theorem ZcV {r_ r} (h:Zfd F r_=some r):FZ ml 146 [] [.agg (ZcK.c r_)] (.bool r) []:=by
 refine fA Tryz.func146 ?_
 unfold Zfd at h
 exact qR
theorem ZgJ {z r} (h:ZfL F z=some (Sum.inl r)):FZ ml 130 [] [.agg (ZbT.c z)] (.tup [AV.con (Value.pointer none),aI r]) []:=by
 refine fG Tryz.func130 ?_
 unfold ZfL at h
 (conv=>whnf);left;(conv=>whnf);left;(conv=>whnf);left;(conv=>whnf);refine jN h fun t23_0=>jM [(1,pp 0),(4,pp 1),(23,.bool t23_0)] [(0,rF (ZbT.c z)),(1,rF [aI 0,aI 0,aI 0,aI 0])] 2 (fun h=>qE [(0,8),(1,40)]) fun h=>?_;(conv=>whnf);left;refine bS h (fun h=>qG []) fun h=>?_;(conv=>whnf);refine jN h fun t64_5=>jM [(1,pp 0),(64,.bool t64_5)] [(0,rF (ZbT.c z))] 1 (fun h=>?_) fun h=>?_
 ·(conv=>whnf);left;refine bS h (fun h=>?_) fun h=>?_
  ·(conv=>whnf);refine aX ?_;(conv=>whnf);refine bS h (fun h=>qE [(0,0)]) fun h=>?_;(conv=>whnf);refine aX ?_;(conv=>whnf);refine bS h (fun h=>qE [(0,0)]) fun h=>?_;(conv=>whnf);refine bS h (fun h=>?_) fun h=>?_
   ·(conv=>whnf);left;(conv=>whnf);refine cL h ZcV fun y_6 h=>?_;(conv=>whnf);refine bS h (fun h=>qE [(0,0)]) fun h=>?_;(conv=>whnf);left;(conv=>whnf);exact cL h ZcV fun y_7 h=>qE [(0,0)]
   exact qE [(0,0)]
  (conv=>whnf);refine bS h (fun h=>?_) fun h=>?_
  ·(conv=>whnf);left;(conv=>whnf);refine cL h ZcV fun y_8 h=>?_;(conv=>whnf);refine bS h (fun h=>qE [(0,0)]) fun h=>?_;(conv=>whnf);left;(conv=>whnf);exact cL h ZcV fun y_9 h=>qE [(0,0)]
  exact qE [(0,0)]
 exact qG []
theorem ZgI {z r} (h:ZfL F z=some (Sum.inr r)):FZ ml 130 [] [.agg (ZbT.c z)] (.tup [pp 0,aI r.1]) [(0,rF (Zcv.c r.2))]:=by
 refine fG Tryz.func130 ?_
 unfold ZfL at h
 (conv=>whnf);left;(conv=>whnf);left;(conv=>whnf);left;(conv=>whnf);refine jN h fun t23_0=>jM [(1,pp 0),(4,pp 1),(23,.bool t23_0)] [(0,rF (ZbT.c z)),(1,rF [aI 0,aI 0,aI 0,aI 0])] 2 (fun h=>qE [(0,8),(1,40)]) fun h=>?_;(conv=>whnf);left;refine bS h (fun h=>?_) fun h=>?_
 ·cases h
 (conv=>whnf);refine jN h fun t64_5=>jM [(1,pp 0),(64,.bool t64_5)] [(0,rF (ZbT.c z))] 1 (fun h=>?_) fun h=>?_
 ·(conv=>whnf);left;refine bS h (fun h=>?_) fun h=>?_
  ·(conv=>whnf);refine aX ?_;(conv=>whnf);refine bS h (fun h=>qE [(0,0)]) fun h=>?_;(conv=>whnf);refine aX ?_;(conv=>whnf);refine bS h (fun h=>qE [(0,0)]) fun h=>?_;(conv=>whnf);refine bS h (fun h=>?_) fun h=>?_
   ·(conv=>whnf);left;(conv=>whnf);refine cL h ZcV fun y_6 h=>?_;(conv=>whnf);refine bS h (fun h=>qE [(0,0)]) fun h=>?_;(conv=>whnf);left;(conv=>whnf);exact cL h ZcV fun y_7 h=>qE [(0,0)]
   exact qE [(0,0)]
  (conv=>whnf);refine bS h (fun h=>?_) fun h=>?_
  ·(conv=>whnf);left;(conv=>whnf);refine cL h ZcV fun y_8 h=>?_;(conv=>whnf);refine bS h (fun h=>qE [(0,0)]) fun h=>?_;(conv=>whnf);left;(conv=>whnf);exact cL h ZcV fun y_9 h=>qE [(0,0)]
  exact qE [(0,0)]
 (conv=>whnf);left;refine bS h (fun h=>?_) fun h=>?_
 ·cases h
 (conv=>whnf);left;(conv=>whnf);left;cases h;exact gW [(0,17)]
end Go.T
