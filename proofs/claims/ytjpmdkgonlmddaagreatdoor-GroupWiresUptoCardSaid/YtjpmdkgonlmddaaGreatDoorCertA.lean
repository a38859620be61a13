/-
  CertGw: the program's functions compute them. Printed by a program.
-/
import Derived.Test.YtjpmdkgonlmddaaGreatDoorSem
import Derived.Test.YtjpmdkgonlmddaaGreatDoorProg
import Derived.KernelRfl
import Derived.Test.YtjpmdkgonlmddaaGreatDoorLib
import Derived.Test.YtjpmdkgonlmddaaGreatDoorAbM
set_option linter.unusedVariables false
set_option maxRecDepth 200000
set_option maxHeartbeats 4000000
namespace Go.T
open Go Go.Ab Go.Proofs
theorem mixed:Tryz.prog.follows .mixedOrders=true:=by kernel_rfl
abbrev FZ (ml:Gv):=FC Tryz.prog (GM ml)
def zr0:List AV:=[aI 0,.esl,aI 0,aI 0,aI 0,aI 0,aI 0,aI 0,.esl,.str [],aI 0,aI 0,aI 0,.esl,.esl,.esl]
variable {ml:Gv} {F:Nat}
theorem Zcr {conf r} (h:Zc5 F conf=some r):FZ ml 37 [] [sM (cInt IntKind.i64) conf] (.bool r) []:=by
 refine fA Tryz.func37 ?_
 unfold Zc5 at h
 (conv=>whnf);refine jN h fun t18_1=>jM [(0,sM (cInt IntKind.i64) conf),(18,.bool t18_1)] [] 0 (fun h=>?_) fun h=>?_
 ·(conv=>whnf);left;refine bS h (fun h=>qE []) fun h=>?_;(conv=>whnf);refine bS h (fun h=>qE []) fun h=>?_;(conv=>whnf);refine aX ?_;(conv=>whnf);refine oB h fun y_2 h=>?_;exact qE []
 (conv=>whnf);left;refine bS h (fun h=>qR) fun h=>?_;(conv=>whnf);refine aX ?_;(conv=>whnf);refine aX ?_;(conv=>whnf);refine gS h fun h=>?_;(conv=>whnf);refine gS h fun h=>?_;(conv=>whnf);refine jS h fun o1 vu=>jT [] [] 0 (fun h k1 e=>?_) fun h=>?_
 ·(conv=>whnf);left;(conv=>whnf);refine lI (fun n' x'=>Zdf F conf n' x') (fun x'=>[(0,sM (cInt IntKind.i64) conf),(20,sM (cInt IntKind.i64) (List.drop (Int.toNat (1:Int)) conf)),(21,aI (@Nat.cast Int instNatCastInt (List.length (@cut (@List AV) (some (Operand.const (Value.int IntKind.i64 (1:Int)))) none (List.map (cInt IntKind.i64) conf) (Int.toNat (1:Int)) (List.length (List.map (cInt IntKind.i64) conf)))))),(22,aI x')]) (fun x'=>[]) 0 (0:Int) [] h ?_;rintro n_15 t22_16 h;rw [Zdf.eq_2] at h;(conv=>whnf);left;refine bS h (fun h=>?_) fun h=>?_
  ·(conv=>whnf);left;(conv=>whnf);refine gX h fun h=>?_;(conv=>whnf);refine oB h fun y_19 h=>?_;(conv=>whnf);refine gX h fun h=>?_;(conv=>whnf);refine oB h fun y_20 h=>?_;(conv=>whnf);left;refine bS h (fun h=>?_) fun h=>?_
   ·cases h;cases k1;exact rfl
   exact rE (n_15,(IntKind.wrap IntKind.i64 (t22_16+(1:Int)))) [] h
  exact qE []
 exact qR
theorem Zat {s r} (h:Zaw F s=some r):FZ ml 38 [] [(.sl (List.map (cInt IntKind.i64) s))] (.osw 0 1) [(0,.rows true (List.map (cInt IntKind.i64) r))]:=by
 unfold Zaw at h
 obtain ⟨hg,h⟩:=grd_e h
 cases h
 refine ZeC 2000 Tryz.func38 rfl (by kernel_rfl) mixed (by show 1≤8;decide) (by decide) rfl ?_
 refine oL ?_
 refine And.intro (fun hp=>?_) ?_
 ·conv=>whnf
  exact Zdl [(0,128)] rfl (by rw [hp];rfl) rfl
 refine oL ?_
 refine And.intro (Zal.map (fun _=>rfl)) ?_
 refine And.intro Zal.nil ?_
 refine And.intro (show 0+(List.map (cInt IntKind.i64) s).length≤LIM by simpa using hg) ?_
 conv=>whnf
 exact gI [(0,192)]
theorem ZgT {r} (h:Ziw F=some r):FZ ml 39 [] [] (pp 0) [(0,rF [.osw 1 4,aI r.1,.mapo 2]),(1,rT Zag.c r.2.1),(2,AO.mapo true (encM (fun (k_11:Zae)=>(AV.agg (Zae.c k_11))) (fun (k_11:Int)=>(AV.int IntKind.i64 k_11)) r.2.2))]:=by
 refine fG Tryz.func39 ?_
 unfold Ziw at h
 (conv=>whnf);left;(conv=>whnf);refine Or.inr (Zfb 0 4 _ rfl rfl ?_);(conv=>whnf);left;cases h;exact gE [(0,128),(1,96),(2,64)]
theorem ZhB {r} (h:ZjJ F=some r):FZ ml 40 [] [] (AV.ptr 0 0 0) [(0,(AO.rows true [(@crowB r)]))]:=by
 unfold ZjJ at h
 cases h
 exact ZmO
theorem ZgW {r} (h:ZiE F=some r):FZ ml 41 [] [] (AV.ptr 0 0 0) [(0,(AO.rows false [[(AV.mapo 1),(AV.osw 2 2),aI r.1]])),(1,(AO.fmap 1 (@encF (@List UInt8) Int (fun (k_11:(@List UInt8))=>(AV.str k_11)) (cInt IntKind.u8) r.2) none)),(2,(AO.rows true []))]:=by
 refine ZnH (os:=[(0,(AO.rows false [[(AV.mapo 1),AV.esl,aI r.1]])),(1,(AO.fmap 1 (@encF (@List UInt8) Int (fun (k_11:(@List UInt8))=>(AV.str k_11)) (cInt IntKind.u8) r.2) none))]) 0 0 1 2 ?_ (by show 0≤W;decide) rfl rfl rfl rfl (Zdl [(0,0),(1,1),(2,32)] rfl rfl rfl)
 refine ZeC 2000 Tryz.func41 rfl (by kernel_rfl) mixed (by show 0≤4;decide) (by show 0≤W;decide) rfl ?_
 unfold ZiE at h
 conv=>whnf
 refine Or.inr ?_
 conv=>whnf
 refine ⟨Or.inl ⟨1,?_⟩⟩
 iterate 2 refine oL ?_
 conv=>whnf
 cases h
 exact gI [(0,128),(1,64)]
theorem ZcH {s v r} (h:Zbs F s v=some r):FZ ml 163 [] [sM (cInt IntKind.i64) s,aI v] (aI r) []:=by
 refine fA Tryz.func163 ?_
 unfold Zbs at h
 (conv=>whnf);refine jS h fun o0 vu=>jT [] [] 0 (fun h k0 e=>?_) fun h=>?_
 ·(conv=>whnf);left;(conv=>whnf);refine lI (fun n' x'=>Zbd F s v n' x') (fun x'=>[(0,sM (cInt IntKind.i64) s),(1,aI v),(7,aI (@Nat.cast Int instNatCastInt (List.length (List.map (cInt IntKind.i64) s)))),(8,aI x')]) (fun x'=>[]) 0 (0:Int) [] h ?_;rintro n_6 t8_7 h;rw [Zbd.eq_2] at h;(conv=>whnf);left;refine bS h (fun h=>?_) fun h=>?_
  ·(conv=>whnf);left;(conv=>whnf);refine gX h fun h=>?_;(conv=>whnf);refine oB h fun y_9 h=>?_;(conv=>whnf);left;refine bS h (fun h=>?_) fun h=>?_
   ·cases h;cases k0;exact rfl
   exact rE (n_6,(IntKind.wrap IntKind.i64 (t8_7+(1:Int)))) [] h
  exact qE []
 exact qR
theorem Zch {s v r} (h:Zbf F s v=some r):FZ ml 130 [] [sM (cInt IntKind.i64) s,aI v] (.bool r) []:=by
 refine fA Tryz.func130 ?_
 unfold Zbf at h
 (conv=>whnf);left;(conv=>whnf);exact cL h ZcH fun y_0 h=>qR
theorem ZdX {n b r} (h:ZdP F n b=some r):FZ ml 129 [(0,rF (Zaf.c b))] [aI n,pp 0] (.bool r) [(0,rF (Zaf.c b))]:=by
 refine fG Tryz.func129 ?_
 unfold ZdP at h
 (conv=>whnf);left;refine bS h (fun h=>qG [(0,0)]) fun h=>?_;(conv=>whnf);left;(conv=>whnf);exact cL h Zch fun y_0 h=>qG [(0,0)]
theorem Zda {t r} (h:ZdC F t=some r):FZ ml 172 [] [.agg (Zai.c t)] (aI r) []:=by
 refine fA Tryz.func172 ?_
 unfold ZdC at h
 exact qR
theorem Zfw {term entries r} (h:Zex F term entries=some r):FZ ml 173 [] [aI term,sM Zaa.c entries] (.bool r) []:=by
 refine fA Tryz.func173 ?_
 unfold Zex at h
 (conv=>whnf);refine jS h fun o4 vu=>jT [] [] 0 (fun h k4 e=>?_) fun h=>?_
 ·(conv=>whnf);left;(conv=>whnf);refine lI (fun n' x'=>Zdb F entries n' x'.1 x'.2) (fun x'=>[(0,aI x'.1),(7,sM Zaa.c entries),(8,aI (@Nat.cast Int instNatCastInt (List.length (List.map Zaa.c entries)))),(9,aI x'.2)]) (fun x'=>[]) 0 (term,(0:Int)) [] h ?_;rintro n_12 ⟨term_13,t9_14⟩ h;dsimp only at h;rw [Zdb.eq_2] at h;(conv=>whnf);left;refine bS h (fun h=>?_) fun h=>?_
  ·(conv=>whnf);left;(conv=>whnf);refine gX h fun h=>?_;(conv=>whnf);refine oB h fun y_17 h=>?_;(conv=>whnf);left;(conv=>whnf);refine jN h fun t28_18=>jM [(6,pp 0),(7,sM Zaa.c entries),(8,aI (@Nat.cast Int instNatCastInt (List.length (List.map Zaa.c entries)))),(9,aI t9_14),(28,.bool t28_18)] [(0,rF (Zaa.c y_17))] 1 (fun h=>qE [(0,96)]) fun h=>?_;(conv=>whnf);left;refine bS h (fun h=>?_) fun h=>?_
   ·cases h;cases k4;exact rfl
   exact rE (n_12,y_17.Term,(IntKind.wrap IntKind.i64 (t9_14+(1:Int)))) [] h
  exact qE []
 exact qR
theorem ZcP {t r} (h:ZcW F t=some r):FZ ml 131 [] [.agg (Zai.c t)] (.bool r) []:=by
 refine fA Tryz.func131 ?_
 unfold ZcW at h
 (conv=>whnf);left;(conv=>whnf);left;refine bS h (fun h=>?_) fun h=>?_
 ·(conv=>whnf);refine bS h (fun h=>?_) fun h=>?_
  ·(conv=>whnf);refine bS h (fun h=>?_) fun h=>?_
   ·(conv=>whnf);refine bS h (fun h=>?_) fun h=>?_
    ·(conv=>whnf);refine bS h (fun h=>?_) fun h=>?_
     ·(conv=>whnf);refine bS h (fun h=>?_) fun h=>?_
      ·(conv=>whnf);left;(conv=>whnf);refine cL h Zda fun y_0 h=>?_;(conv=>whnf);refine bS h (fun h=>?_) fun h=>?_
       ·(conv=>whnf);left;(conv=>whnf);exact cL h Zfw fun y_1 h=>qR
       exact qR
      exact qR
     (conv=>whnf);refine bS h (fun h=>?_) fun h=>?_
     ·(conv=>whnf);refine bS h (fun h=>?_) fun h=>?_
      ·(conv=>whnf);left;(conv=>whnf);refine cL h Zda fun y_2 h=>?_;(conv=>whnf);refine bS h (fun h=>?_) fun h=>?_
       ·(conv=>whnf);left;(conv=>whnf);exact cL h Zfw fun y_3 h=>qR
       exact qR
      exact qR
     exact qR
    exact qR
   exact qR
  exact qR
 exact qR
theorem Zgb {t n r} (h:ZfM F t n=some r):FZ ml 174 [] [.agg (Zai.c t),aI n] (aI r) []:=by
 refine fA Tryz.func174 ?_
 unfold ZfM at h
 (conv=>whnf);left;(conv=>whnf);left;refine bS h (fun h=>qR) fun h=>?_;(conv=>whnf);refine gX h fun h=>?_;(conv=>whnf);refine oB h fun y_0 h=>?_;exact qR
theorem Zcz {t r} (h:Zea F t=some r):FZ ml 132 [] [.agg (Zai.c t)] (.tup [aI r.1,aI r.2]) []:=by
 refine fA Tryz.func132 ?_
 unfold Zea at h
 (conv=>whnf);left;(conv=>whnf);left;(conv=>whnf);refine cL h ZcP fun y_0 h=>?_;(conv=>whnf);left;refine bS h (fun h=>qR) fun h=>?_;(conv=>whnf);left;(conv=>whnf);refine cL h Zda fun y_1 h=>?_;(conv=>whnf);left;(conv=>whnf);refine cL h Zda fun y_2 h=>?_;(conv=>whnf);left;(conv=>whnf);exact cL h Zgb fun y_3 h=>qR
theorem Zio {r_ r} (h:Zgy F r_=some r):FZ ml 134 [] [.agg (Zaf.c r_)] (.bool r) []:=by
 refine fA Tryz.func134 ?_
 unfold Zgy at h
 (conv=>whnf);left;(conv=>whnf);refine jN h fun t36_0=>jM [(1,pp 0),(36,.bool t36_0)] [(0,rF (Zaf.c r_))] 1 (fun h=>qE [(0,32)]) fun h=>?_;(conv=>whnf);left;refine bS h (fun h=>qR) fun h=>?_;(conv=>whnf);left;(conv=>whnf);refine cL h Zcz fun y_1 h=>?_;(conv=>whnf);refine jS h fun o5 vu=>jT [] [] 0 (fun h k5 e=>?_) fun h=>?_
 ·(conv=>whnf);left;(conv=>whnf);refine lI (fun n' x'=>Zd5 F r_ y_1 n' x') (fun x'=>[(1,pp 0),(3,aI y_1.1),(44,sM (cInt IntKind.i64) r_.Match),(45,aI (@Nat.cast Int instNatCastInt (List.length (List.map (cInt IntKind.i64) r_.Match)))),(46,aI x')]) (fun x'=>[(0,rF (Zaf.c r_))]) 1 (0:Int) [(0,0)] h ?_;rintro n_26 t46_27 h;rw [Zd5.eq_2] at h;(conv=>whnf);left;refine bS h (fun h=>?_) fun h=>?_
  ·(conv=>whnf);left;(conv=>whnf);refine gX h fun h=>?_;(conv=>whnf);refine oB h fun y_32 h=>?_;(conv=>whnf);refine jN h fun t76_35=>jM [(1,pp 0),(3,aI y_1.1),(44,sM (cInt IntKind.i64) r_.Match),(45,aI (@Nat.cast Int instNatCastInt (List.length (List.map (cInt IntKind.i64) r_.Match)))),(46,aI t46_27),(76,.bool t76_35)] [(0,rF (Zaf.c r_))] 1 (fun h=>?_) fun h=>?_
   ·(conv=>whnf);left;refine bS h (fun h=>qE [(0,0)]) fun h=>?_;(conv=>whnf);refine bS h (fun h=>qE [(0,0)]) fun h=>?_;(conv=>whnf);refine gX h fun h=>?_;(conv=>whnf);refine oB h fun y_36 h=>?_;(conv=>whnf);refine bS h (fun h=>qE [(0,0)]) fun h=>?_;(conv=>whnf);refine gX h fun h=>?_;(conv=>whnf);refine oB h fun y_37 h=>?_;exact qE [(0,0)]
   (conv=>whnf);left;refine bS h (fun h=>?_) fun h=>?_
   ·cases h;cases k5;exact rfl
   exact rE (n_26,(IntKind.wrap IntKind.i64 (t46_27+(1:Int)))) [(0,0)] h
  exact qE []
 exact qR
theorem Zd6 {r_ r} (h:Zeb F r_=some r):FZ ml 87 [] [.agg (Zaf.c r_)] (.bool r) []:=by
 refine fA Tryz.func87 ?_
 unfold Zeb at h
 (conv=>whnf);left;(conv=>whnf);refine jN h fun t52_5=>jM [(1,pp 0),(52,.bool t52_5)] [(0,rF (Zaf.c r_))] 1 (fun h=>?_) fun h=>?_
 ·(conv=>whnf);left;(conv=>whnf);left;(conv=>whnf);refine cL h Zcr fun y_6 h=>?_;(conv=>whnf);refine bS h (fun h=>qE [(0,32)]) fun h=>?_;(conv=>whnf);refine bS h (fun h=>qE [(0,32)]) fun h=>?_;(conv=>whnf);refine cH [32] h ZdX fun y_7 h=>?_;(conv=>whnf);refine bS h (fun h=>qE [(0,32)]) fun h=>?_;(conv=>whnf);refine bS h (fun h=>qE [(0,32)]) fun h=>?_;(conv=>whnf);refine bS h (fun h=>qE [(0,32)]) fun h=>?_;(conv=>whnf);refine cH [32] h ZdX fun y_8 h=>?_;(conv=>whnf);refine bS h (fun h=>qE [(0,32)]) fun h=>?_;(conv=>whnf);refine cH [32] h ZdX fun y_9 h=>?_;(conv=>whnf);refine bS h (fun h=>qE [(0,32)]) fun h=>?_;(conv=>whnf);left;(conv=>whnf);exact cL h ZcP fun y_10 h=>qE [(0,32)]
 (conv=>whnf);left;refine bS h (fun h=>qR) fun h=>?_;(conv=>whnf);left;(conv=>whnf);refine cL h Zcz fun y_11 h=>?_;(conv=>whnf);refine jN h fun t102_12=>jM [(1,pp 0),(102,.bool t102_12)] [(0,rF (Zaf.c r_))] 1 (fun h=>qE [(0,0)]) fun h=>?_;(conv=>whnf);left;refine bS h (fun h=>qR) fun h=>?_;(conv=>whnf);refine jN h fun t126_13=>jM [(1,pp 0),(126,.bool t126_13)] [(0,rF (Zaf.c r_))] 1 (fun h=>qE [(0,0)]) fun h=>?_;(conv=>whnf);left;refine bS h (fun h=>qR) fun h=>?_;(conv=>whnf);left;(conv=>whnf);left;refine bS h (fun h=>qR) fun h=>?_;(conv=>whnf);left;refine bS h (fun h=>?_) fun h=>?_
 ·cases h
 (conv=>whnf);left;refine bS h (fun h=>?_) fun h=>?_
 ·(conv=>whnf);left;(conv=>whnf);exact cL h Zio fun y_15 h=>qR
 exact qR
theorem Zf1 {id conf r} (h:Ziq F id conf=some r):FZ ml 66 [] [aI id,sM (cInt IntKind.i64) conf] (.tup [.agg (Zaf.c r.1),aI r.2]) []:=by
 refine fK Tryz.func66 ?_
 unfold Ziq at h
 (conv=>whnf);left;(conv=>whnf);left;(conv=>whnf);refine cR h (fun h=>Zav (Zat h) rfl) fun y_0 h=>?_;(conv=>whnf);left;(conv=>whnf);left;(conv=>whnf);left;(conv=>whnf);exact cL h (fun h=>aW (Zd6 h)) fun y_1 h=>qK
theorem Zdz {c fs l r} (h:Zdu F c fs l=some r):FZ ml 88 [(0,(AO.rows false [[(AV.mapo 1),(AV.osw 2 2),aI c]])),(1,(AO.fmap 1 (@encF (@List UInt8) Int (fun (k_12:(@List UInt8))=>(AV.str k_12)) (cInt IntKind.u8) fs) none)),(2,(AO.rows true (List.map Zab.c l)))] [(AV.ptr 0 0 0)] (AV.sl (List.map cStr r)) [(0,(AO.rows false [[(AV.mapo 1),(AV.osw 2 2),aI c]])),(1,(AO.fmap 1 (@encF (@List UInt8) Int (fun (k_12:(@List UInt8))=>(AV.str k_12)) (cInt IntKind.u8) fs) none)),(2,(AO.rows true (List.map Zab.c l)))]:=by
 unfold Zdu at h
 obtain ⟨hg,h⟩:=grd_e h
 cases h
 exact Zmn fs _ _ hg rfl (by show 3≤W;decide)
theorem ZeD {name r} (h:ZfK F name=some r):FZ ml 89 [] [AV.str name] (aI r) []:=by
 unfold ZfK at h
 obtain ⟨hg,h⟩:=grd_e h
 cases h
 exact Zlt name hg
theorem Zgi {x r} (h:Zej F x=some r):FZ ml 189 [] [AV.int IntKind.u64 x] (aI r) []:=by
 refine fA Tryz.func189 ?_
 unfold Zej at h
 (conv=>whnf);refine jN h fun ⟨x_0,n_1⟩=>jM [(0,AV.int IntKind.u64 x_0),(2,aI n_1)] [] 0 (fun h=>qE []) fun h=>?_;(conv=>whnf);refine jN h fun ⟨x_2,n_3⟩=>jM [(0,AV.int IntKind.u64 x_2),(2,aI n_3)] [] 0 (fun h=>qE []) fun h=>?_;(conv=>whnf);refine jN h fun ⟨x_4,n_5⟩=>jM [(0,AV.int IntKind.u64 x_4),(2,aI n_5)] [] 0 (fun h=>qE []) fun h=>?_;(conv=>whnf);refine gX h fun h=>?_;obtain ⟨y_6,hy,h⟩:=ZaL h;refine opt_i y_6 hy ?_;exact qR
theorem Zg3 {x r} (h:ZeZ F x=some r):FZ ml 139 [] [AV.int IntKind.u64 x] (aI r) []:=by
 refine fA Tryz.func139 ?_
 unfold ZeZ at h
 (conv=>whnf);left;(conv=>whnf);left;(conv=>whnf);exact cL h Zgi fun y_0 h=>qR
theorem Zcg {l r} (h:ZbQ F l=some r):FZ ml 90 [(0,(AO.rows true (List.map (cInt IntKind.i64) l)))] [(AV.osw 0 1)] (AV.tup []) [(0,(AO.rows true (List.map (cInt IntKind.i64) r)))]:=by
 unfold ZbQ at h
 obtain ⟨hg,h⟩:=grd_e h
 cases h
 exact Zm9 l hg
theorem Zb4 {s r} (h:ZbH F s=some r):FZ ml 91 [] [(AV.sl (List.map (cInt IntKind.i64) s))] (AV.fn 140 [(AV.rp [(AV.sl (List.map (cInt IntKind.i64) r))] 0)]) []:=by
 unfold ZbH at h
 cases h
 exact Znz s
theorem ZdV {i r} (h:strconv_Itoa F i=some r):FZ ml 92 [] [aI i] (AV.str r) []:=by
 unfold strconv_Itoa at h
 obtain ⟨hg,h⟩:=grd_e h
 cases h
 exact ZnJ (g:=2) (by kernel_rfl) rfl (by kernel_rfl) (fun n a b w c=>Tryz.strconv_Itoa n a b w c) i hg.1 hg.2
theorem Zdp {n l r} (h:Zcu F n l=some r):FZ ml 48 [(0,rT (cInt IntKind.u8) l)] [.osw 0 1,AV.int IntKind.u64 n] (.osw 1 1) [(1,rT (cInt IntKind.u8) r)]:=by
 refine fG Tryz.func48 ?_
 unfold Zcu at h
 (conv=>whnf);refine jN h fun ⟨n_0,l_1⟩=>jM [(0,.osw 1 1),(1,AV.int IntKind.u64 n_0)] [(1,rT (cInt IntKind.u8) l_1)] 2 (fun h=>?_) fun h=>?_
 ·(conv=>whnf);left;(conv=>whnf);refine lI (fun n' x'=>Zbx F n' x'.1 x'.2) (fun x'=>[(0,.osw 1 1),(1,AV.int IntKind.u64 x'.1)]) (fun x'=>[(1,rT (cInt IntKind.u8) x'.2)]) 2 (n,l) [(1,0)] h ?_;rintro n_2 ⟨n_3,l_4⟩ h;dsimp only at h;rw [Zbx.eq_2] at h;(conv=>whnf);left;refine bS h (fun h=>?_) fun h=>?_
  ·(conv=>whnf);left;(conv=>whnf);left;(conv=>whnf);refine aX ?_;(conv=>whnf);refine aX ?_;(conv=>whnf);refine gS h fun h=>?_;(conv=>whnf);refine aX ?_;exact rE (n_2,(@Int.fdiv n_3 ((2:Int) ^ (min (Int.toNat (7:Int)) 64))),(l_4++((@ibits BinOp.or IntKind.u8 (IntKind.wrap IntKind.u8 n_3) (128:Int))::[]))) [(0,0),(1,226)] h
  exact qE [(0,0),(1,1)]
 (conv=>whnf);left;(conv=>whnf);refine aX ?_;(conv=>whnf);refine aX ?_;(conv=>whnf);refine gS h fun h=>?_;cases h;exact gE [(0,0),(1,130)]
theorem Zep {list r} (h:ZcX F list=some r):FZ ml 31 [] [sM Zac.c list] (.tup [.osw 0 1,aI r.1]) [(0,rT (cInt IntKind.u8) r.2)]:=by
 refine fG Tryz.func31 ?_
 unfold ZcX at h
 (conv=>whnf);refine jS h fun o6 l_14=>jT [(4,.osw 0 1)] [(0,rT (cInt IntKind.u8) l_14)] 1 (fun h k6 e=>?_) fun h=>?_
 ·(conv=>whnf);left;(conv=>whnf);refine lI (fun n' x'=>ZbT F list n' x'.1 x'.2) (fun x'=>[(4,.osw 0 1),(7,sM Zac.c list),(8,aI (@Nat.cast Int instNatCastInt (List.length (List.map Zac.c list)))),(9,aI x'.1)]) (fun x'=>[(0,rT (cInt IntKind.u8) x'.2)]) 1 ((0:Int),[]) [(0,96)] h ?_;rintro n_22 ⟨t9_23,l_24⟩ h;dsimp only at h;rw [ZbT.eq_2] at h;(conv=>whnf);left;refine bS h (fun h=>?_) fun h=>?_
  ·(conv=>whnf);refine jS h fun o12 l_31=>jT [(4,.osw 0 1),(7,sM Zac.c list),(8,aI (@Nat.cast Int instNatCastInt (List.length (List.map Zac.c list)))),(9,aI t9_23)] [(0,rT (cInt IntKind.u8) l_31)] 1 (fun h k12 e=>?_) fun h=>?_
   ·(conv=>whnf);left;(conv=>whnf);refine gX h fun h=>?_;(conv=>whnf);refine oB h fun y_32 h=>?_;(conv=>whnf);left;(conv=>whnf);left;(conv=>whnf);refine jN h fun t13_33=>jM [(4,.osw 0 1),(6,pp 1),(7,sM Zac.c list),(8,aI (@Nat.cast Int instNatCastInt (List.length (List.map Zac.c list)))),(9,aI t9_23),(13,.bool t13_33)] [(0,rT (cInt IntKind.u8) l_24),(1,rF (Zac.c y_32))] 2 (fun h=>qE [(0,0),(1,97)]) fun h=>?_;(conv=>whnf);left;refine bS h (fun h=>?_) fun h=>?_
    ·(conv=>whnf);exact cG [0] h Zdp fun y_34 h=>qE [(0,131)]
    (conv=>whnf);left;refine bS h (fun h=>?_) fun h=>?_
    ·(conv=>whnf);refine aX ?_;(conv=>whnf);refine aX ?_;(conv=>whnf);exact cG [0] h Zdp fun y_35 h=>qE [(0,451)]
    (conv=>whnf);refine jN h fun t42_36=>jM [(4,.osw 0 1),(6,pp 1),(7,sM Zac.c list),(8,aI (@Nat.cast Int instNatCastInt (List.length (List.map Zac.c list)))),(9,aI t9_23),(42,.bool t42_36)] [(0,rT (cInt IntKind.u8) l_24),(1,rF (Zac.c y_32))] 2 (fun h=>qE [(0,0),(1,1)]) fun h=>?_;(conv=>whnf);left;refine bS h (fun h=>?_) fun h=>?_
    ·(conv=>whnf);refine cG [0] h Zdp fun y_37 h=>?_;(conv=>whnf);refine aX ?_;(conv=>whnf);refine aX ?_;(conv=>whnf);refine gS h fun h=>?_;(conv=>whnf);refine aX ?_;cases h;cases e;exact eE [(0,258)]
    cases h;cases k12;cases k6;exact gE [(0,2)]
   exact rE (n_22,(IntKind.wrap IntKind.i64 (t9_23+(1:Int))),l_31) [(0,0)] h
  exact qE [(0,0)]
 exact qG [(0,0)]
theorem ZhV {r} (h:Zid F=some r):FZ ml 40 [] [] (AV.ptr 0 0 0) [(0,(AO.rows true [(@crow (0:Int) (0:Int) (0:Int) tab0)]))]:=by
 exact ZmO
theorem ZfV {l r} (h:Zd2 F l=some r):FZ ml 191 [(0,(AO.rows true [(@crow (0:Int) (0:Int) (0:Int) tab0)])),(1,(AO.rows true (List.map (cInt IntKind.u8) l)))] [(AV.ptr 0 0 0),(AV.osw 1 1)] (AV.int IntKind.u32 r) [(1,(AO.rows true (List.map (cInt IntKind.u8) l)))]:=by
 unfold Zd2 at h
 obtain ⟨hg,h⟩:=grd_e h
 cases h
 exact Zm8 l hg
theorem ZhW {b r} (h:ZgM F b=some r):FZ ml 200 [] [sM (cInt IntKind.u8) b] (.tup [.osw 0 1,aI r.1]) [(0,rT (cInt IntKind.u8) r.2)]:=by
 refine fG Tryz.func200 ?_
 unfold ZgM at h
 (conv=>whnf);left;refine bS h (fun h=>?_) fun h=>?_
 ·cases h;exact gE [(0,192)]
 (conv=>whnf);left;(conv=>whnf);obtain ⟨y_0,hy,h⟩:=ZaL h;refine ⟨_,_,(Zn5 0 1 (Zdp hy) rfl),Or.inr ⟨[],rfl,?_⟩⟩;(conv=>whnf);refine aX ?_;(conv=>whnf);refine aX ?_;(conv=>whnf);refine gS h fun h=>?_;(conv=>whnf);left;(conv=>whnf);refine cR h ZhV fun y_1 h=>?_;(conv=>whnf);refine cG [416,352] h ZfV fun y_2 h=>?_;(iterate 4 ((conv=>whnf);first|refine oL ?_|refine aX ?_));(conv=>whnf);refine And.intro (Zal.cons rfl (Zal.cons rfl (Zal.cons rfl (Zal.cons rfl Zal.nil)))) ?_;(conv=>whnf);refine aX ?_;(conv=>whnf);refine gS h fun h=>?_;cases h;exact gE [(0,960)]
theorem Zf9 {rec r} (h:ZfL F rec=some r):FZ ml 171 [] [sM (cInt IntKind.u8) rec] (.tup [sM (cInt IntKind.u8) r.1,aI r.2]) []:=by
 refine fA Tryz.func171 ?_
 unfold ZfL at h
 (conv=>whnf);left;(conv=>whnf);exact cR h (fun h=>Zav (ZhW h) rfl) fun y_0 h=>qR
theorem ZhN {recs r} (h:Zgt F recs=some r):FZ ml 146 [] [sM (cSl (cInt IntKind.u8)) recs] (.tup [.osw 0 1,aI r.1]) [(0,rT (cSl (cInt IntKind.u8)) r.2)]:=by
 refine fG Tryz.func146 ?_
 unfold Zgt at h
 (conv=>whnf);left;(conv=>whnf);left;(conv=>whnf);left;obtain ⟨y_0,hy,h⟩:=ZaL h;refine ⟨_,_,(Zc3 (cons2 (congrArg AV.sl rQ) rfl) (Zav (Zep hy) rfl)),Or.inr ⟨[192],rfl,?_⟩⟩;(conv=>whnf);left;(conv=>whnf);refine aX ?_;(conv=>whnf);refine aX ?_;(conv=>whnf);refine gS h fun h=>?_;(conv=>whnf);refine jS h fun o0 l_9=>jT [(6,.osw 0 1)] [(0,rT (cSl (cInt IntKind.u8)) l_9)] 1 (fun h k0 e=>?_) fun h=>?_
 ·(conv=>whnf);left;(conv=>whnf);refine lI (fun n' x'=>Zd4 F recs y_0 n' x'.1 x'.2) (fun x'=>[(6,.osw 0 1),(22,.osw 1 1),(23,aI (@Nat.cast Int instNatCastInt (List.length (((List.take (@GetElem.getElem (@Array TypeInfo) Nat TypeInfo (fun (xs_13:(@Array TypeInfo))=>(fun (i_13:Nat)=>(i_13<(@Array.size TypeInfo xs_13)))) (@Array.instGetElemNatLtSize TypeInfo) Proofs.Tryz.prog.toTables.types 80 (@Nat.le_of_ble_eq_true (Nat.succ 80) (@Array.size TypeInfo Proofs.Tryz.prog.toTables.types) (@rfl Bool true))).size ((AV.sl (List.map (cInt IntKind.u8) y_0.2))::[]))::[])++(List.map (cSl (cInt IntKind.u8)) recs))))),(24,aI x'.1)]) (fun x'=>[(0,rT (cSl (cInt IntKind.u8)) x'.2),(1,rT (cSl (cInt IntKind.u8)) ((y_0.2::[])++recs))]) 2 ((0:Int),[]) [(0,416),(1,544)] h ?_;rintro n_16 ⟨t24_17,l_18⟩ h;dsimp only at h;rw [Zd4.eq_2] at h;(conv=>whnf);left;refine bS h (fun h=>?_) fun h=>?_
  ·(conv=>whnf);left;(conv=>whnf);refine gX h fun h=>?_;(conv=>whnf);refine oB h fun y_22 h=>?_;(conv=>whnf);refine oB h fun y_23 h=>?_;(conv=>whnf);left;(conv=>whnf);refine cR h Zf9 fun y_24 h=>?_;(conv=>whnf);left;refine bS h (fun h=>?_) fun h=>?_
   ·cases h;cases k0;exact gE [(0,450)]
   (conv=>whnf);left;(conv=>whnf);refine aX ?_;(conv=>whnf);refine aX ?_;(conv=>whnf);refine gS h fun h=>?_;exact rE (n_16,(IntKind.wrap IntKind.i64 (t24_17+(1:Int))),(l_18++(y_24.1::[]))) [(0,514),(1,1)] h
  exact qE [(0,0)]
 exact qG [(0,0)]
theorem ZiD {name r} (h:ZgL F name=some r):FZ ml 194 [] [.str name] (.bool r) []:=by
 refine fA Tryz.func194 ?_
 unfold ZgL at h
 (conv=>whnf);refine gX h fun h=>?_;(conv=>whnf);refine jS h fun o4 vu=>jT [(0,.str name)] [] 0 (fun h k4 e=>?_) fun h=>?_
 ·(conv=>whnf);left;(conv=>whnf);refine lI (fun n' x'=>Zd7 F name n' x') (fun x'=>[(0,.str name),(6,.osw 0 1),(7,aI (@Nat.cast Int instNatCastInt (List.length (@enc8 name)))),(8,aI x')]) (fun x'=>[(0,rT (cInt IntKind.u8) (List.map (fun (b_13:UInt8)=>(((UInt8.toNat b_13):Nat):Int)) name))]) 1 (0:Int) [(0,96)] h ?_;rintro n_18 t8_19 h;rw [Zd7.eq_2] at h;(conv=>whnf);left;refine bS h (fun h=>?_) fun h=>?_
  ·(conv=>whnf);left;(conv=>whnf);refine gX h fun h=>?_;(conv=>whnf);refine oB h fun y_23 h=>?_;(conv=>whnf);refine oB h fun y_24 h=>?_;(conv=>whnf);refine jN h fun t33_25=>jM [(0,.str name),(6,.osw 0 1),(7,aI (@Nat.cast Int instNatCastInt (List.length (@enc8 name)))),(8,aI t8_19),(33,.bool t33_25)] [(0,rT (cInt IntKind.u8) (List.map (fun (b_13:UInt8)=>(((UInt8.toNat b_13):Nat):Int)) name))] 1 (fun h=>qE [(0,0)]) fun h=>?_;(conv=>whnf);left;refine bS h (fun h=>?_) fun h=>?_
   ·cases h;cases k4;exact rfl
   exact rE (n_18,(IntKind.wrap IntKind.i64 (t8_19+(1:Int)))) [(0,0)] h
  exact qE []
 exact qR
theorem Zdv {name b c fs l r} (h:Zcf F name b c fs l=some r):FZ ml 147 [(0,(AO.rows false [[(AV.mapo 1),(AV.osw 2 2),aI c]])),(1,(AO.fmap 1 (@encF (@List UInt8) Int (fun (k_13:(@List UInt8))=>(AV.str k_13)) (cInt IntKind.u8) fs) none)),(2,(AO.rows true (List.map Zab.c l)))] [(AV.ptr 0 0 0),AV.str name,(AV.sl (List.map (cInt IntKind.u8) b))] (aI r.1) [(0,(AO.rows false [[(AV.mapo 1),(AV.osw 3 2),aI r.2.1]])),(1,(AO.fmap 1 (@encF (@List UInt8) Int (fun (k_13:(@List UInt8))=>(AV.str k_13)) (cInt IntKind.u8) r.2.2.1) none)),(3,(AO.rows true (List.map Zab.c r.2.2.2)))]:=by
 refine ZeC 2000 Tryz.func147 rfl (by kernel_rfl) mixed (by show 3≤75;decide) (by show 3≤W;decide) rfl ?_
 unfold Zcf at h
 iterate 2 refine oL ?_
 conv=>whnf
 obtain ⟨y_1,hy,h⟩:=ZaL h
 refine ⟨_,_,(ZiD hy),Or.inl ⟨rfl,rfl,?_⟩⟩
 refine oL ?_
 conv=>whnf
 refine bC h ?_ ?_<;>intro hb h
 ·conv=>whnf
  cases h
  exact gI [(0,0),(1,1),(3,2)]
 refine ⟨by kernel_rfl,?_⟩
 conv=>whnf
 refine both (b:=(Option.isSome (mget name fs))) (fun hb=>?_) (fun hb=>?_)
 ·replace h:=ZgY h hb
  refine ZkJ (ek:=(fun (k_13:(@List UInt8))=>(AV.str k_13))) (en:=(cInt IntKind.u8)) fs name rfl rfl (Zhr Tryz.underlying9) hb ?_
  iterate 2 refine oL ?_
  conv=>whnf
  refine brn_i (fun hb=>?_) (fun hb=>?_)
  ·replace h:=ZgY h (by first | exact hb | (simp;done) | simpa using hb | simpa [chunk] using hb | (simp [chunk] at hb ⊢;omega))
   conv=>whnf
   cases h
   obtain ⟨kk,hkk⟩:=(Ziv (ek:=(fun (k_13:(@List UInt8))=>(AV.str k_13))) (en:=(cInt IntKind.u8)) (q:=name) (L:=fs) (by assumption)).2
   refine Zfh (.step _ 1 1 _ _ 448 kk _ _ rfl rfl hkk (fun row hr=>by obtain ⟨y,_,rfl⟩:=List.mem_map.1 hr;rfl) rfl (.refl _)) ?_
   exact gI [(0,0),(1,1),(3,2)]
  replace h:=ZgZ h (by first | exact hb | (simp;done) | simpa using hb | simpa [chunk] using hb | (simp [chunk] at hb ⊢;omega))
  refine And.intro (Zal.map (fun _=>rfl)) ?_
  refine And.intro (Zal.map (fun _=>rfl)) ?_
  obtain ⟨hg,h⟩:=grd_e h
  refine And.intro (by first | exact hg | (simp;done) | simpa using hg | simpa [chunk] using hg | (simp [chunk] at hg ⊢;omega)) ?_
  refine ⟨by kernel_rfl,?_⟩
  conv=>whnf
  obtain ⟨hg,h⟩:=grd_e h
  refine ZmU (ek:=(fun (k_13:(@List UInt8))=>(AV.str k_13))) (en:=(cInt IntKind.u8)) fs name ((Option.getD (mget name fs) [])++b) 1504 rfl rfl (Zhr Tryz.underlying9) (.inr ⟨by assumption,rfl⟩) hg rfl _ rfl (by first | (simp;done) | rfl | (rw [List.map_append];rfl)) (fun _=>rfl) rfl ?_
  refine ⟨by kernel_rfl,?_⟩
  iterate 2 refine oL ?_
  refine And.intro (Zal.cons rfl Zal.nil) ?_
  refine And.intro (Zal.map (fun _=>rfl)) ?_
  obtain ⟨hg,h⟩:=grd_e h
  refine And.intro (by first | exact hg | (simp;done) | simpa using hg | simpa [chunk] using hg | (simp [chunk] at hg ⊢;omega)) ?_
  refine oL ?_
  conv=>whnf
  cases h
  exact Zdl [(0,0),(1,1),(2,2),(3,2208)] rfl (cons2 rfl (cons2 rfl (cons2 (congrArg (fun X=>some (AO.rows true X)) (by first | (simp;done) | rfl | (rw [List.map_append];rfl) | (simp [outR];done) | (simp only [outR,Sum.elim_inr,id,List.map_append,List.map_map];rfl))) rfl))) rfl
 replace h:=ZgZ h hb
 refine ZkL (ek:=(fun (k_13:(@List UInt8))=>(AV.str k_13))) (en:=(cInt IntKind.u8)) fs name .esl rfl rfl (Zhr Tryz.underlying9) hb ⟨80,.esl,by kernel_rfl,by kernel_rfl,.refl _⟩ ?_
 conv=>whnf
 obtain ⟨t44_2,h0,k0⟩:=ZaL h
 refine Or.inr (Zix True [(0,(AV.ptr 0 0 0)),(1,AV.str name),(2,(AV.sl (List.map (cInt IntKind.u8) b))),(7,AV.esl),(44,AV.bool t44_2)] [(0,(AO.rows false [[(AV.mapo 1),(AV.osw 2 2),aI c]])),(1,(AO.fmap 1 (@encF (@List UInt8) Int (fun (k_13:(@List UInt8))=>(AV.str k_13)) (cInt IntKind.u8) fs) none)),(2,(AO.rows true (List.map Zab.c l)))] 3 ?_ (fun _=>?_))
 ·refine oL ?_
  conv=>whnf
  refine bC h0 ?_ ?_<;>intro hb h0
  ·conv=>whnf
   cases h0
   exact eI [(0,0),(1,1),(2,2)]
  conv=>whnf
  cases h0
  exact eI [(0,0),(1,1),(2,2)]
 refine oL ?_
 conv=>whnf
 refine bC k0 ?_ ?_<;>intro hb k0
 ·conv=>whnf
  cases k0
  exact gI [(0,0),(1,1),(3,2)]
 refine And.intro (Zal.map (fun _=>rfl)) ?_
 obtain ⟨hg,k0⟩:=grd_e k0
 refine And.intro (by first | exact hg | (simp;done) | simpa using hg | simpa [chunk] using hg | (simp [chunk] at hg ⊢;omega)) ?_
 refine ⟨by kernel_rfl,?_⟩
 conv=>whnf
 obtain ⟨hg,k0⟩:=grd_e k0
 refine ZmU (ek:=(fun (k_13:(@List UInt8))=>(AV.str k_13))) (en:=(cInt IntKind.u8)) fs name b 227 rfl rfl (Zhr Tryz.underlying9) (.inl rfl) hg rfl _ rfl (by first | (simp;done) | rfl | (rw [List.map_append];rfl)) (fun _=>rfl) rfl ?_
 refine ⟨by kernel_rfl,?_⟩
 iterate 2 refine oL ?_
 refine And.intro (Zal.cons rfl Zal.nil) ?_
 refine And.intro (Zal.map (fun _=>rfl)) ?_
 obtain ⟨hg,k0⟩:=grd_e k0
 refine And.intro (by first | exact hg | (simp;done) | simpa using hg | simpa [chunk] using hg | (simp [chunk] at hg ⊢;omega)) ?_
 refine oL ?_
 conv=>whnf
 cases k0
 exact Zdl [(0,0),(1,1),(2,2),(3,931)] rfl (cons2 rfl (cons2 rfl (cons2 (congrArg (fun X=>some (AO.rows true X)) (by first | (simp;done) | rfl | (rw [List.map_append];rfl) | (simp [outR];done) | (simp only [outR,Sum.elim_inr,id,List.map_append,List.map_map];rfl))) rfl))) rfl
theorem Zfs {name c fs l r} (h:Zdt F name c fs l=some r):FZ ml 142 [(0,rF [.mapo 1,.osw 2 2,aI c]),(1,AO.fmap 1 (@encF (@List UInt8) Int (fun (k_13:(@List UInt8))=>(AV.str k_13)) (cInt IntKind.u8) fs) none),(2,rT Zab.c l)] [pp 0,.str name] (aI r) [(0,rF [.mapo 1,.osw 2 2,aI c]),(1,AO.fmap 1 (@encF (@List UInt8) Int (fun (k_13:(@List UInt8))=>(AV.str k_13)) (cInt IntKind.u8) fs) none),(2,rT Zab.c l)]:=by
 refine fG Tryz.func142 ?_
 unfold Zdt at h
 (conv=>whnf);left;(conv=>whnf);refine aX ?_;(conv=>whnf);refine ZkK (ek:=(fun (k_13:(@List UInt8))=>(AV.str k_13))) (en:=(cInt IntKind.u8)) fs name rfl rfl (Zhr Tryz.underlying9) ⟨80,.esl,by kernel_rfl,by kernel_rfl⟩ ?_;exact qG [(0,0),(1,1),(2,2)]
theorem ZeR {w a1 r} (h:Zcx F w a1=some r):FZ ml 193 [] [.agg (Zab.c w),AV.rp (@cStr a1) 0] (.bool r) []:=by
 refine fA Tryz.func193 ?_
 unfold Zcx at h
 exact qR
theorem Zb2 {s f0 r} (h:ZaI F s f0=some r):FZ ml 226 [] [sM Zab.c s,AV.fn 193 ((AV.rp (@cStr f0) 0)::[])] (aI r) []:=by
 refine fA Tryz.func226 ?_
 unfold ZaI at h
 (conv=>whnf);refine jS h fun o0 vu=>jT [] [] 0 (fun h k0 e=>?_) fun h=>?_
 ·(conv=>whnf);left;(conv=>whnf);refine lI (fun n' x'=>Zao F s f0 n' x') (fun x'=>[(0,sM Zab.c s),(1,AV.fn 193 ((AV.rp ((AV.str f0)::[]) 0)::[])),(7,aI (@Nat.cast Int instNatCastInt (List.length (List.map Zab.c s)))),(8,aI x')]) (fun x'=>[]) 0 (0:Int) [] h ?_;rintro n_12 t8_13 h;rw [Zao.eq_2] at h;(conv=>whnf);left;refine bS h (fun h=>?_) fun h=>?_
  ·(conv=>whnf);left;(conv=>whnf);refine gX h fun h=>?_;(conv=>whnf);refine oB h fun y_16 h=>?_;(conv=>whnf);left;(conv=>whnf);refine cL h ZeR fun y_17 h=>?_;(conv=>whnf);left;refine bS h (fun h=>?_) fun h=>?_
   ·cases h;cases k0;exact rfl
   exact rE (n_12,(IntKind.wrap IntKind.i64 (t8_13+(1:Int)))) [] h
  exact qE []
 exact qR
theorem Zd9 {w b r} (h:Zb1 F w b=some r):FZ ml 193 [(0,rF (@cStr b))] [.agg (Zab.c w),pp 0] (.bool r) [(0,rF (@cStr b))]:=by
 refine fG Tryz.func193 ?_
 unfold Zb1 at h
 exact qG [(0,0)]
theorem ZbG {l b r} (h:ZaA F l b=some r):FZ ml 192 [(0,rT Zab.c l),(1,rF (@cStr b))] [.osw 0 2,AV.fn 193 ((AV.ptr 1 0 0)::[])] (.osw 2 2) [(1,rF (@cStr b)),(2,rT Zab.c r)]:=by
 refine fG Tryz.func192 ?_
 unfold ZaA at h
 (conv=>whnf);left;(conv=>whnf);refine cL h Zb2 fun y_0 h=>?_;(conv=>whnf);left;refine bS h (fun h=>qG [(1,1),(2,0)]) fun h=>?_;(conv=>whnf);refine jN h fun ⟨i_15,l_16⟩=>jM [(0,.osw 0 2),(5,aI i_15)] [(0,rT Zab.c l_16),(1,rF [.str b])] 2 (fun h=>?_) fun h=>?_
 ·(conv=>whnf);left;(conv=>whnf);refine lI (fun n' x'=>Zam F b n' x'.1 x'.2.1 x'.2.2) (fun x'=>[(0,.osw 0 2),(1,AV.fn 193 ((AV.ptr 1 0 0)::[])),(5,aI x'.1),(6,aI x'.2.1)]) (fun x'=>[(0,rT Zab.c x'.2.2),(1,rF [.str b])]) 2 (y_0,(IntKind.wrap IntKind.i64 (y_0+(1:Int))),l) [(0,0),(1,1)] h ?_;rintro n_24 ⟨i_25,j_26,l_27⟩ h;dsimp only at h;rw [Zam.eq_2] at h;(conv=>whnf);left;refine bS h (fun h=>?_) fun h=>?_
  ·(conv=>whnf);refine jN h fun ⟨i_33,l_34⟩=>jM [(0,.osw 0 2),(1,AV.fn 193 ((AV.ptr 1 0 0)::[])),(5,aI i_33),(6,aI j_26)] [(0,rT Zab.c l_34),(1,rF [.str b])] 2 (fun h=>?_) fun h=>?_
   ·(conv=>whnf);left;(conv=>whnf);refine gX h fun h=>?_;(conv=>whnf);refine oB h fun y_35 h=>?_;(conv=>whnf);refine oB h fun y_36 h=>?_;(conv=>whnf);left;(conv=>whnf);refine cH [1] h Zd9 fun y_37 h=>?_;(conv=>whnf);left;refine bS h (fun h=>?_) fun h=>?_
    ·(conv=>whnf);refine gX h fun h=>?_;(conv=>whnf);refine oB h fun y_38 h=>?_;(conv=>whnf);refine oB h fun y_39 h=>?_;cases h;exact eE [(0,0),(1,1)]
    exact qE [(0,0),(1,1)]
   exact rE (n_24,i_33,(IntKind.wrap IntKind.i64 (j_26+(1:Int))),l_34) [(0,0),(1,1)] h
  exact qE [(0,0),(1,1)]
 (conv=>whnf);refine aX ?_;(conv=>whnf);left;(conv=>whnf);refine gX h fun h=>?_;(conv=>whnf);refine gS h fun h=>?_;(conv=>whnf);refine gS h fun h=>?_;(conv=>whnf);refine aX ?_;(conv=>whnf);refine gS h fun h=>?_;(conv=>whnf);refine And.intro (Zal.append (Zal.take (Zal.map (fun _=>rfl))) (Zal.append (Zal.replicate rfl) (Zal.drop (Zal.map (fun _=>rfl))))) ?_;(conv=>whnf);refine Or.inr ?_;(conv=>whnf);refine ⟨_,_,rfl,rfl,rfl,rfl,?_⟩;(conv=>whnf);refine gX h fun h=>?_;(conv=>whnf);refine gS h fun h=>?_;cases h;exact gE [(0,0),(1,1),(2,194)]
theorem Zff {name c fs l r} (h:Zc2 F name c fs l=some r):FZ ml 145 [(0,rF [.mapo 1,.osw 2 2,aI c]),(1,AO.fmap 1 (@encF (@List UInt8) Int (fun (k_13:(@List UInt8))=>(AV.str k_13)) (cInt IntKind.u8) fs) none),(2,rT Zab.c l)] [pp 0,.str name] (.tup []) [(0,rF [.mapo 1,.osw 3 2,aI r.1]),(1,AO.fmap 1 (@encF (@List UInt8) Int (fun (k_13:(@List UInt8))=>(AV.str k_13)) (cInt IntKind.u8) fs) none),(3,rT Zab.c r.2)]:=by
 refine fG Tryz.func145 ?_
 unfold Zc2 at h
 (conv=>whnf);left;(conv=>whnf);exact cG [2,32] h ZbG fun y_0 h=>qG [(0,0),(1,1),(2,2),(3,258)]
theorem ZdT {name c fs l r} (h:ZcF F name c fs l=some r):FZ ml 148 [(0,rF [.mapo 1,.osw 2 2,aI c]),(1,AO.fmap 1 (@encF (@List UInt8) Int (fun (k_13:(@List UInt8))=>(AV.str k_13)) (cInt IntKind.u8) fs) none),(2,rT Zab.c l)] [pp 0,.str name] (aI r.1) [(0,rF [.mapo 1,.osw 3 2,aI r.2.1]),(1,AO.fmap 1 (@encF (@List UInt8) Int (fun (k_13:(@List UInt8))=>(AV.str k_13)) (cInt IntKind.u8) fs) none),(3,rT Zab.c r.2.2)]:=by
 refine fG Tryz.func148 ?_
 unfold ZcF at h
 (conv=>whnf);refine cH [0,1,2] h Zfs fun y_0 h=>?_;(conv=>whnf);refine jN h fun ⟨c_4,l_5⟩=>jM [(5,aI y_0)] [(0,rF [.mapo 1,.osw 3 2,aI c_4]),(1,AO.fmap 1 (@encF (@List UInt8) Int (fun (k_13:(@List UInt8))=>(AV.str k_13)) (cInt IntKind.u8) fs) none),(3,rT Zab.c l_5)] 4 (fun h=>?_) fun h=>?_
 ·(conv=>whnf);left;refine bS h (fun h=>?_) fun h=>?_
  ·(conv=>whnf);exact cG [0,1,2] h Zff fun y_6 h=>qE [(0,0),(1,1),(2,2),(3,323)]
  exact qE [(0,0),(1,1),(3,2)]
 exact qG [(0,0),(1,1),(2,2),(3,3)]
theorem Zd3 {recs c cq2 cq3 cq4 fs l r} (h:Zd0 F recs c cq2 cq3 cq4 fs l=some r):FZ ml 96 [(0,rF [pp 1,.str c,aI cq2,aI cq3]),(1,rF [.mapo 2,.osw 3 2,aI cq4]),(2,AO.fmap 1 (@encF (@List UInt8) Int (fun (k_13:(@List UInt8))=>(AV.str k_13)) (cInt IntKind.u8) fs) none),(3,rT Zab.c l)] [pp 0,sM (cSl (cInt IntKind.u8)) recs] (aI r.1) [(0,rF [pp 1,.str r.2.1,aI r.2.2.1,aI r.2.2.2.1]),(1,rF [.mapo 2,.osw 4 2,aI r.2.2.2.2.1]),(2,AO.fmap 1 (@encF (@List UInt8) Int (fun (k_13:(@List UInt8))=>(AV.str k_13)) (cInt IntKind.u8) r.2.2.2.2.2.1) none),(4,rT Zab.c r.2.2.2.2.2.2)]:=by
 refine fG Tryz.func96 ?_
 unfold Zd0 at h
 (conv=>whnf);left;(conv=>whnf);left;(conv=>whnf);left;(conv=>whnf);refine cR h (fun h=>Zav (ZhN h) rfl) fun y_0 h=>?_;(conv=>whnf);left;refine bS h (fun h=>qG [(0,0),(1,1),(2,2),(4,3)]) fun h=>?_;(conv=>whnf);left;(conv=>whnf);refine cR h (fun h=>Zav (ZdV h) rfl) fun y_1 h=>?_;(conv=>whnf);refine gX h fun h=>?_;(conv=>whnf);left;(conv=>whnf);refine cR h (fun h=>Zav (ZeD h) rfl) fun y_2 h=>?_;(conv=>whnf);left;refine bS h (fun h=>qG [(0,0),(1,1),(2,2),(4,3)]) fun h=>?_;(conv=>whnf);refine jS h fun o0 ⟨c_11,fs_12,l_13⟩=>jT [(0,pp 0),(1,sM (cSl (cInt IntKind.u8)) recs),(7,.str (([108,111,103,45]:List UInt8)++y_1))] [(0,rF [pp 1,.str c,aI (IntKind.wrap IntKind.i64 (cq2+(1:Int))),aI cq3]),(1,rF [.mapo 2,.osw 4 2,aI (c_11)]),(2,AO.fmap 1 (@encF (@List UInt8) Int (fun (k_13:(@List UInt8))=>(AV.str k_13)) (cInt IntKind.u8) fs_12) none),(4,rT Zab.c l_13)] 5 (fun h k0 e=>?_) fun h=>?_
 ·(conv=>whnf);left;(conv=>whnf);refine lI (fun n' ⟨t46_19,c_20,fs_21,l_22⟩=>Zcb F c cq2 cq3 y_0 y_1 n' t46_19 c_20 fs_21 l_22) (fun ⟨t46_19,c_20,fs_21,l_22⟩=>[(0,pp 0),(1,sM (cSl (cInt IntKind.u8)) recs),(7,.str (([108,111,103,45]:List UInt8)++y_1)),(44,sM (cSl (cInt IntKind.u8)) y_0.2),(45,aI (@Nat.cast Int instNatCastInt (List.length (List.map (cSl (cInt IntKind.u8)) y_0.2)))),(46,aI t46_19)]) (fun ⟨t46_19,c_20,fs_21,l_22⟩=>[(0,rF [pp 1,.str c,aI (IntKind.wrap IntKind.i64 (cq2+(1:Int))),aI cq3]),(1,rF [.mapo 2,.osw 4 2,aI c_20]),(2,AO.fmap 1 (@encF (@List UInt8) Int (fun (k_13:(@List UInt8))=>(AV.str k_13)) (cInt IntKind.u8) fs_21) none),(4,rT Zab.c l_22)]) 5 ((0:Int),cq4,fs,l) [(0,0),(1,1),(2,2),(4,3)] h ?_;rintro n_18 ⟨t46_19,c_20,fs_21,l_22⟩ h;dsimp only at h;rw [Zcb.eq_2] at h;(conv=>whnf);left;refine bS h (fun h=>?_) fun h=>?_
  ·(conv=>whnf);left;(conv=>whnf);refine gX h fun h=>?_;(conv=>whnf);refine oB h fun y_25 h=>?_;(conv=>whnf);refine cG [1,2,4] h Zdv fun y_26 h=>?_;(conv=>whnf);left;refine bS h (fun h=>?_) fun h=>?_
   ·cases h;cases k0;exact gI [(0,0),(1,1),(2,2),(3,3),(4,328)]
   exact rE (n_18,(IntKind.wrap IntKind.i64 (t46_19+(1:Int))),y_26.2.1,y_26.2.2.1,y_26.2.2.2) [(0,0),(1,1),(2,2),(3,3),(4,328)] h
  exact qE [(0,0),(1,1),(2,2),(3,3),(4,4)]
 (conv=>whnf);refine cG [1,2,4] h ZdT fun y_27 h=>?_;(conv=>whnf);left;refine bS h (fun h=>?_) fun h=>?_
 ·cases h
 exact qG [(0,0),(1,1),(2,2),(3,3),(4,168)]
theorem Zfv {c fs l r} (h:Zga F c fs l=some (Sum.inl r)):FZ ml 67 [(0,rF [.mapo 1,.osw 2 2,aI c]),(1,AO.fmap 1 (@encF (@List UInt8) Int (fun (k_13:(@List UInt8))=>(AV.str k_13)) (cInt IntKind.u8) fs) none),(2,rT Zab.c l)] [pp 0] (.tup [AV.con (Value.pointer none),.osw 3 1,aI r.1]) [(0,rF [.mapo 1,.osw 4 2,aI r.2.1]),(1,AO.fmap 1 (@encF (@List UInt8) Int (fun (k_13:(@List UInt8))=>(AV.str k_13)) (cInt IntKind.u8) r.2.2.1) none),(3,rT (cSl (cInt IntKind.u8)) r.2.2.2.1),(4,rT Zab.c r.2.2.2.2)]:=by
 refine fG Tryz.func67 ?_
 unfold Zga at h
 (conv=>whnf);left;(conv=>whnf);left;(conv=>whnf);refine cH [0,1,2] h Zdz fun y_0 h=>?_;(conv=>whnf);refine jN h fun l_7=>jM [(1,pp 3),(5,.osw 4 1)] [(0,rF [.mapo 1,.osw 2 2,aI c]),(1,AO.fmap 1 (@encF (@List UInt8) Int (fun (k_13:(@List UInt8))=>(AV.str k_13)) (cInt IntKind.u8) fs) none),(2,rT Zab.c l),(3,rF [pp 0]),(4,rT (cInt IntKind.i64) l_7)] 5 (fun h=>?_) fun h=>?_
 ·(conv=>whnf);left;(conv=>whnf);refine lI (fun n' x'=>ZdB F y_0 n' x'.1 x'.2) (fun x'=>[(1,pp 3),(5,.osw 4 1),(24,sM cStr y_0),(25,aI (@Nat.cast Int instNatCastInt (List.length (List.map cStr y_0)))),(26,aI x'.1)]) (fun x'=>[(0,rF [.mapo 1,.osw 2 2,aI c]),(1,AO.fmap 1 (@encF (@List UInt8) Int (fun (k_13:(@List UInt8))=>(AV.str k_13)) (cInt IntKind.u8) fs) none),(2,rT Zab.c l),(3,rF [pp 0]),(4,rT (cInt IntKind.i64) x'.2)]) 5 ((0:Int),[]) [(0,0),(1,1),(2,2),(3,32),(4,224)] h ?_;rintro n_11 ⟨t26_12,l_13⟩ h;dsimp only at h;rw [ZdB.eq_2] at h;(conv=>whnf);left;refine bS h (fun h=>?_) fun h=>?_
  ·(conv=>whnf);refine jN h fun l_16=>jM [(1,pp 3),(5,.osw 4 1),(24,sM cStr y_0),(25,aI (@Nat.cast Int instNatCastInt (List.length (List.map cStr y_0)))),(26,aI t26_12)] [(0,rF [.mapo 1,.osw 2 2,aI c]),(1,AO.fmap 1 (@encF (@List UInt8) Int (fun (k_13:(@List UInt8))=>(AV.str k_13)) (cInt IntKind.u8) fs) none),(2,rT Zab.c l),(3,rF [pp 0]),(4,rT (cInt IntKind.i64) l_16)] 5 (fun h=>?_) fun h=>?_
   ·(conv=>whnf);left;(conv=>whnf);refine gX h fun h=>?_;(conv=>whnf);refine oB h fun y_17 h=>?_;(conv=>whnf);left;(conv=>whnf);refine cR h (fun h=>Zav (ZeD h) rfl) fun y_18 h=>?_;(conv=>whnf);left;refine bS h (fun h=>?_) fun h=>?_
    ·(conv=>whnf);left;(conv=>whnf);refine aX ?_;(conv=>whnf);refine aX ?_;(conv=>whnf);refine gS h fun h=>?_;cases h;exact eE [(0,0),(1,1),(2,2),(3,3),(4,389)]
    exact qE [(0,0),(1,1),(2,2),(3,3),(4,4)]
   exact rE (n_11,(IntKind.wrap IntKind.i64 (t26_12+(1:Int))),l_16) [(0,0),(1,1),(2,2),(3,3),(4,4)] h
  exact qE [(0,0),(1,1),(2,2),(3,3),(4,4)]
 (conv=>whnf);refine cG [4] h Zcg fun y_19 h=>?_;(conv=>whnf);left;(conv=>whnf);left;(conv=>whnf);left;(conv=>whnf);left;(conv=>whnf);left;(conv=>whnf);left;obtain ⟨y_20,hy,h⟩:=ZaL h;refine ⟨_,_,(Zav (Zb4 hy) rfl),Or.inr ⟨[4],rfl,?_⟩⟩;(conv=>whnf);left;(conv=>whnf);refine aX ?_;obtain ⟨o3,h3,h⟩:=ZaL h;(conv=>whnf);refine ZjY 140 y_20 46 47 13 (α:=Unit) ((1,(AV.ptr 3 0 0))::((9,(AV.ptr 4 0 0))::((10,(AV.ptr 5 0 0))::((11,(AV.ptr 6 0 0))::[])))) (fun xq=>((0,(AO.rows false (((AV.mapo 1)::((AV.osw 2 2)::((AV.int IntKind.i64 c)::[])))::[])))::((1,(AO.fmap 1 (@encF (@List UInt8) Int (fun (k_13:(@List UInt8))=>(AV.str k_13)) (cInt IntKind.u8) fs) none))::((2,(AO.rows true (List.map Zab.c l)))::((3,(AO.rows false (((AV.ptr 0 0 0)::[])::[])))::((4,(AO.rows false (((AV.ptr 7 0 0)::[])::[])))::((5,(AO.rows false ((AV.esl::[])::[])))::((6,(AO.rows false (((AV.bool false)::[])::[])))::((7,(AO.rows false (((AV.ptr 0 0 0)::((AV.str ([]:List UInt8))::((AV.int IntKind.i64 (0:Int))::((AV.int IntKind.i64 (0:Int))::[]))))::[])))::[]))))))))) 8 (fun kq xq=>Zbz F (List.drop kq (List.reverse y_20))=some o3) () [(0,0),(1,1),(2,2),(3,3),(4,165),(5,229),(6,261),(7,133)] Zl3 rfl rfl rfl h3 (.of_eq rfl) (.of_eq rfl) rfl (fun kq z_22 xq hk hI=>?_) (fun xq hI=>?_)
 ·replace hI:Zbz F (List.drop kq (List.reverse y_20))=some o3:=hI;rw [Zg8 hk,Zbz.eq_2] at hI;clear h;have h:=hI;clear hI;(conv=>whnf);left;(conv=>whnf);left;(conv=>whnf);refine cR h (fun h=>Zav (ZdV h) rfl) fun y_24 h=>?_;(conv=>whnf);refine gX h fun h=>?_;(conv=>whnf);refine aX ?_;cases h
 replace hI:Zbz F (List.drop (List.length y_20) (List.reverse y_20))=some o3:=hI;rw [Zkm,Zbz.eq_1] at hI;cases hI;(conv=>whnf);left;obtain ⟨y_26,hy,h⟩:=ZaL h;refine Or.inr (ZiI [7,0,1,2] (Zd3 hy) rfl rfl (WkOs.cons (WkO.eq (Option.some.inj rfl)) (WkOs.cons (WkO.eq (Option.some.inj rfl)) (WkOs.cons (WkO.eq (Option.some.inj rfl)) (WkOs.cons (WkO.eq (Option.some.inj rfl)) WkOs.nil)))) (WkL.cons (Wk.eq rfl) (WkL.cons Wk.esl WkL.nil)) ?_);(conv=>whnf);left;refine bS h (fun h=>?_) fun h=>?_
 ·cases h;exact gE [(0,0),(1,1),(2,2),(3,328),(4,140)]
 (conv=>whnf);refine aX ?_;cases h
end Go.T
