import Derived.Test.YtjpmdkgonlmddaaGreatDoorCertA
set_option linter.unusedVariables false
set_option maxRecDepth 200000
set_option maxHeartbeats 4000000
namespace Go.T
open Go Go.Ab Go.Proofs
variable {ml:Gv} {F:Nat}
theorem Zfu {c fs l r} (h:Zga F c fs l=some (Sum.inr r)):FZ ml 67 [(0,rF [.mapo 1,.osw 2 2,aI c]),(1,AO.fmap 1 (@encF (@List UInt8) Int (fun (k_13:(@List UInt8))=>(AV.str k_13)) (cInt IntKind.u8) fs) none),(2,rT Zab.c l)] [pp 0] (.tup [pp 3,sM (cSl (cInt IntKind.u8)) r.1,aI r.2.1]) [(0,rF [.mapo 1,.osw 4 2,aI r.2.2.1]),(1,AO.fmap 1 (@encF (@List UInt8) Int (fun (k_13:(@List UInt8))=>(AV.str k_13)) (cInt IntKind.u8) r.2.2.2.1) none),(3,rF [pp 0,.str r.2.2.2.2.1,aI r.2.2.2.2.2.1,aI r.2.2.2.2.2.2.1]),(4,rT Zab.c r.2.2.2.2.2.2.2)]:=by
 refine fG Tryz.func67 ?_
 unfold Zga at h
 (conv=>whnf);left;(conv=>whnf);left;(conv=>whnf);refine cH [0,1,2] h Zdz fun y_0 h=>?_;(conv=>whnf);refine jN h fun l_7=>jM [(1,pp 3),(5,.osw 4 1)] [(0,rF [.mapo 1,.osw 2 2,aI c]),(1,AO.fmap 1 (@encF (@List UInt8) Int (fun (k_13:(@List UInt8))=>(AV.str k_13)) (cInt IntKind.u8) fs) none),(2,rT Zab.c l),(3,rF [pp 0]),(4,rT (cInt IntKind.i64) l_7)] 5 (fun h=>?_) fun h=>?_
 ·(conv=>whnf);left;(conv=>whnf);refine lI (fun n' x'=>ZdB F y_0 n' x'.1 x'.2) (fun x'=>[(1,pp 3),(5,.osw 4 1),(24,sM cStr y_0),(25,aI (@Nat.cast Int instNatCastInt (List.length (List.map cStr y_0)))),(26,aI x'.1)]) (fun x'=>[(0,rF [.mapo 1,.osw 2 2,aI c]),(1,AO.fmap 1 (@encF (@List UInt8) Int (fun (k_13:(@List UInt8))=>(AV.str k_13)) (cInt IntKind.u8) fs) none),(2,rT Zab.c l),(3,rF [pp 0]),(4,rT (cInt IntKind.i64) x'.2)]) 5 ((0:Int),[]) [(0,0),(1,1),(2,2),(3,32),(4,224)] h ?_;rintro n_11 ⟨t26_12,l_13⟩ h;dsimp only at h;rw [ZdB.eq_2] at h;(conv=>whnf);left;refine bS h (fun h=>?_) fun h=>?_
  ·(conv=>whnf);refine jN h fun l_16=>jM [(1,pp 3),(5,.osw 4 1),(24,sM cStr y_0),(25,aI (@Nat.cast Int instNatCastInt (List.length (List.map cStr y_0)))),(26,aI t26_12)] [(0,rF [.mapo 1,.osw 2 2,aI c]),(1,AO.fmap 1 (@encF (@List UInt8) Int (fun (k_13:(@List UInt8))=>(AV.str k_13)) (cInt IntKind.u8) fs) none),(2,rT Zab.c l),(3,rF [pp 0]),(4,rT (cInt IntKind.i64) l_16)] 5 (fun h=>?_) fun h=>?_
   ·(conv=>whnf);left;(conv=>whnf);refine gX h fun h=>?_;(conv=>whnf);refine oB h fun y_17 h=>?_;(conv=>whnf);left;(conv=>whnf);refine cR h (fun h=>Zav (ZeD h) rfl) fun y_18 h=>?_;(conv=>whnf);left;refine bS h (fun h=>?_) fun h=>?_
    ·(conv=>whnf);left;(conv=>whnf);refine aX ?_;(conv=>whnf);refine aX ?_;(conv=>whnf);refine gS h fun h=>?_;cases h;exact eE [(0,0),(1,1),(2,2),(3,3),(4,389)]
    exact qE [(0,0),(1,1),(2,2),(3,3),(4,4)]
   exact rE (n_11,(IntKind.wrap IntKind.i64 (t26_12+(1:Int))),l_16) [(0,0),(1,1),(2,2),(3,3),(4,4)] h
  exact qE [(0,0),(1,1),(2,2),(3,3),(4,4)]
 (conv=>whnf);refine cG [4] h Zcg fun y_19 h=>?_;(conv=>whnf);left;(conv=>whnf);left;(conv=>whnf);left;(conv=>whnf);left;(conv=>whnf);left;(conv=>whnf);left;obtain ⟨y_20,hy,h⟩:=ZaL h;refine ⟨_,_,(Zav (Zb4 hy) rfl),Or.inr ⟨[4],rfl,?_⟩⟩;(conv=>whnf);left;(conv=>whnf);refine aX ?_;obtain ⟨o3,h3,h⟩:=ZaL h;(conv=>whnf);refine ZjY 140 y_20 46 47 13 (α:=Unit) ((1,(AV.ptr 3 0 0))::((9,(AV.ptr 4 0 0))::((10,(AV.ptr 5 0 0))::((11,(AV.ptr 6 0 0))::[])))) (fun xq=>((0,(AO.rows false (((AV.mapo 1)::((AV.osw 2 2)::((AV.int IntKind.i64 c)::[])))::[])))::((1,(AO.fmap 1 (@encF (@List UInt8) Int (fun (k_13:(@List UInt8))=>(AV.str k_13)) (cInt IntKind.u8) fs) none))::((2,(AO.rows true (List.map Zab.c l)))::((3,(AO.rows false (((AV.ptr 0 0 0)::[])::[])))::((4,(AO.rows false (((AV.ptr 7 0 0)::[])::[])))::((5,(AO.rows false ((AV.esl::[])::[])))::((6,(AO.rows false (((AV.bool false)::[])::[])))::((7,(AO.rows false (((AV.ptr 0 0 0)::((AV.str ([]:List UInt8))::((AV.int IntKind.i64 (0:Int))::((AV.int IntKind.i64 (0:Int))::[]))))::[])))::[]))))))))) 8 (fun kq xq=>Zbz F (List.drop kq (List.reverse y_20))=some o3) () [(0,0),(1,1),(2,2),(3,3),(4,165),(5,229),(6,261),(7,133)] Zl3 rfl rfl rfl h3 (.of_eq rfl) (.of_eq rfl) rfl (fun kq z_22 xq hk hI=>?_) (fun xq hI=>?_)
 ·replace hI:Zbz F (List.drop kq (List.reverse y_20))=some o3:=hI;rw [Zg8 hk,Zbz.eq_2] at hI;clear h;have h:=hI;clear hI;(conv=>whnf);left;(conv=>whnf);left;(conv=>whnf);refine cR h (fun h=>Zav (ZdV h) rfl) fun y_24 h=>?_;(conv=>whnf);refine gX h fun h=>?_;(conv=>whnf);refine aX ?_;cases h
 replace hI:Zbz F (List.drop (List.length y_20) (List.reverse y_20))=some o3:=hI;rw [Zkm,Zbz.eq_1] at hI;cases hI;(conv=>whnf);left;obtain ⟨y_26,hy,h⟩:=ZaL h;refine Or.inr (ZiI [7,0,1,2] (Zd3 hy) rfl rfl (WkOs.cons (WkO.eq (Option.some.inj rfl)) (WkOs.cons (WkO.eq (Option.some.inj rfl)) (WkOs.cons (WkO.eq (Option.some.inj rfl)) (WkOs.cons (WkO.eq (Option.some.inj rfl)) WkOs.nil)))) (WkL.cons (Wk.eq rfl) (WkL.cons Wk.esl WkL.nil)) ?_);(conv=>whnf);left;refine bS h (fun h=>?_) fun h=>?_
 ·cases h
 (conv=>whnf);refine aX ?_;cases h;exact gW [(0,0),(1,1),(2,2),(3,7),(4,140)]
theorem ZaR {s r} (h:ZaB F s=some r):FZ ml 150 [] [(.sl (List.map (cInt IntKind.i64) s))] (.osw 0 1) [(0,.rows true (List.map (cInt IntKind.i64) r))]:=by
 unfold ZaB at h
 obtain ⟨hg,h⟩:=grd_e h
 cases h
 refine ZeC 2000 Tryz.func150 rfl (by kernel_rfl) mixed (by show 1≤8;decide) (by decide) rfl ?_
 refine oL ?_
 refine And.intro (fun hp=>?_) ?_
 ·conv=>whnf
  exact Zdl [(0,128)] rfl (by rw [hp];rfl) rfl
 refine oL ?_
 refine And.intro (Zal.map (fun _=>rfl)) ?_
 refine And.intro Zal.nil ?_
 refine And.intro (show 0+(List.map (cInt IntKind.i64) s).length≤LIM by simpa using hg) ?_
 conv=>whnf
 exact gI [(0,192)]
theorem Zbi {s r} (h:ZaG F s=some r):FZ ml 44 [] [(.sl (List.map Zaa.c s))] (.osw 0 2) [(0,.rows true (List.map Zaa.c r))]:=by
 unfold ZaG at h
 obtain ⟨hg,h⟩:=grd_e h
 cases h
 refine ZeC 2000 Tryz.func44 rfl (by kernel_rfl) mixed (by show 1≤8;decide) (by decide) rfl ?_
 refine oL ?_
 refine And.intro (fun hp=>?_) ?_
 ·conv=>whnf
  exact Zdl [(0,128)] rfl (by rw [hp];rfl) rfl
 refine oL ?_
 refine And.intro (Zal.map (fun _=>rfl)) ?_
 refine And.intro Zal.nil ?_
 refine And.intro (show 0+(List.map Zaa.c s).length≤LIM by simpa using hg) ?_
 conv=>whnf
 exact gI [(0,192)]
theorem ZhT {r_ r} (h:Zf0 F r_=some r):FZ ml 99 [] [.agg (Zaf.c r_)] (.agg (Zaf.c r)) []:=by
 refine fA Tryz.func99 ?_
 unfold Zf0 at h
 (conv=>whnf);left;(conv=>whnf);left;(conv=>whnf);left;(conv=>whnf);refine cR h (fun h=>Zav (Zat h) rfl) fun y_0 h=>?_;(conv=>whnf);left;(conv=>whnf);refine cR h (fun h=>Zav (Zat h) rfl) fun y_1 h=>?_;(conv=>whnf);left;(conv=>whnf);refine cR h (fun h=>Zav (ZaR h) rfl) fun y_2 h=>?_;(conv=>whnf);left;(conv=>whnf);refine cR h (fun h=>Zav (ZaR h) rfl) fun y_3 h=>?_;(conv=>whnf);refine aX ?_;(conv=>whnf);left;(conv=>whnf);exact cR h (fun h=>Zav (Zbi h) rfl) fun y_4 h=>qR
theorem ZbA {r_ r} (h:ZdO F r_=some r):FZ ml 69 [] [.agg (Zaf.c r_)] (.agg (Zaf.c r)) []:=by
 refine fK Tryz.func69 ?_
 unfold ZdO at h
 (conv=>whnf);left;(conv=>whnf);left;(conv=>whnf);left;(conv=>whnf);exact cR h ZhT fun y_0 h=>qK
theorem ZhQ {id conf c fs l r} (h:ZdD F id conf c fs l=some (Sum.inl r)):FZ ml 52 [(0,rF [.mapo 1,.osw 2 2,aI c]),(1,AO.fmap 1 (@encF (@List UInt8) Int (fun (k_13:(@List UInt8))=>(AV.str k_13)) (cInt IntKind.u8) fs) none),(2,rT Zab.c l)] [pp 0,aI id,sM (cInt IntKind.i64) conf] (.tup [AV.con (Value.pointer none),.agg (Zaf.c r.1),aI r.2.1]) [(0,rF [.mapo 1,.osw 3 2,aI r.2.2.1]),(1,AO.fmap 1 (@encF (@List UInt8) Int (fun (k_13:(@List UInt8))=>(AV.str k_13)) (cInt IntKind.u8) r.2.2.2.1) none),(3,rT Zab.c r.2.2.2.2)]:=by
 refine fG Tryz.func52 ?_
 unfold ZdD at h
 (conv=>whnf);left;(conv=>whnf);left;(conv=>whnf);refine cR h Zf1 fun y_0 h=>?_;(conv=>whnf);left;(conv=>whnf);left;(conv=>whnf);left;refine bS h (fun h=>?_) fun h=>?_
 ·(conv=>whnf);left;cases h;exact gW [(0,0),(1,1),(3,2)]
 obtain ⟨y_1,hy,h⟩:=ZaL h;rcases y_1 with y_1 | y_1
 ·replace h:=Zfj h;(conv=>whnf);refine cg [0,1,2] (Zfv hy) ?_;(conv=>whnf);left;refine bS h (fun h=>?_) fun h=>?_
  ·(conv=>whnf);left;cases h;exact gW [(0,0),(1,1),(2,2),(3,644)]
  (conv=>whnf);refine jN h fun o0=>jM [(7,pp 3),(9,pp 4),(11,AV.con (Value.pointer none))] [(0,rF [.mapo 1,.osw 5 2,aI y_1.2.1]),(1,AO.fmap 1 (@encF (@List UInt8) Int (fun (k_13:(@List UInt8))=>(AV.str k_13)) (cInt IntKind.u8) y_1.2.2.1) none),(3,rF zr0),(4,rF (Zaf.c y_0.1)),(5,rT Zab.c y_1.2.2.2.2)] 6 (fun h=>?_) fun h=>?_
  ·(conv=>whnf);left;(conv=>whnf);refine lI (fun n' (_:Unit)=>Zb7 F y_1 n') (fun _=>[(7,pp 3),(9,pp 4),(11,AV.con (Value.pointer none)),(40,.osw 5 1),(41,aI (@Nat.cast Int instNatCastInt (List.length (List.map (cSl (cInt IntKind.u8)) y_1.2.2.2.1)))),(42,aI 0)]) (fun _=>[(0,rF [.mapo 1,.osw 6 2,aI y_1.2.1]),(1,AO.fmap 1 (@encF (@List UInt8) Int (fun (k_13:(@List UInt8))=>(AV.str k_13)) (cInt IntKind.u8) y_1.2.2.1) none),(3,rF zr0),(4,rF (Zaf.c y_0.1)),(5,rT (cSl (cInt IntKind.u8)) y_1.2.2.2.1),(6,rT Zab.c y_1.2.2.2.2)]) 7 () [(0,0),(1,1),(2,2),(3,64),(4,320),(5,643),(6,644)] h ?_;rintro n_10 - h;rw [Zb7.eq_2] at h;(conv=>whnf);left;refine bS h (fun h=>?_) fun h=>?_
   ·(conv=>whnf);left;(conv=>whnf);refine aX ?_;(conv=>whnf);refine oB h fun y_13 h=>?_;(conv=>whnf);refine oB h fun y_14 h=>?_;cases h
   exact qE [(0,0),(1,1),(2,2),(3,3),(4,4),(5,6)]
  (conv=>whnf);left;(conv=>whnf);left;(conv=>whnf);left;(conv=>whnf);refine cR h ZbA fun y_15 h=>?_;(conv=>whnf);refine aX ?_;cases h
 replace h:=Zfi h;(conv=>whnf);refine cg [0,1,2] (Zfu hy) ?_;(conv=>whnf);left;refine bS h (fun h=>?_) fun h=>?_
 ·(conv=>whnf);left;cases h;exact gW [(0,0),(1,1),(2,2),(3,644)]
 (conv=>whnf);refine jN h fun o1=>jM [(7,pp 3),(9,pp 4),(11,pp 5)] [(0,rF [.mapo 1,.osw 6 2,aI y_1.2.2.1]),(1,AO.fmap 1 (@encF (@List UInt8) Int (fun (k_13:(@List UInt8))=>(AV.str k_13)) (cInt IntKind.u8) y_1.2.2.2.1) none),(3,rF zr0),(4,rF (Zaf.c y_0.1)),(5,rF [pp 0,.str y_1.2.2.2.2.1,aI y_1.2.2.2.2.2.1,aI y_1.2.2.2.2.2.2.1]),(6,rT Zab.c y_1.2.2.2.2.2.2.2)] 7 (fun h=>?_) fun h=>?_
 ·(conv=>whnf);left;(conv=>whnf);refine lI (fun n' (_:Unit)=>Zb6 F y_1 n') (fun _=>[(7,pp 3),(9,pp 4),(11,pp 5),(40,sM (cSl (cInt IntKind.u8)) y_1.1),(41,aI (@Nat.cast Int instNatCastInt (List.length (List.map (cSl (cInt IntKind.u8)) y_1.1)))),(42,aI 0)]) (fun _=>[(0,rF [.mapo 1,.osw 6 2,aI y_1.2.2.1]),(1,AO.fmap 1 (@encF (@List UInt8) Int (fun (k_13:(@List UInt8))=>(AV.str k_13)) (cInt IntKind.u8) y_1.2.2.2.1) none),(3,rF zr0),(4,rF (Zaf.c y_0.1)),(5,rF [pp 0,.str y_1.2.2.2.2.1,aI y_1.2.2.2.2.2.1,aI y_1.2.2.2.2.2.2.1]),(6,rT Zab.c y_1.2.2.2.2.2.2.2)]) 7 () [(0,0),(1,1),(2,2),(3,64),(4,320),(5,643),(6,644)] h ?_;rintro n_20 - h;rw [Zb6.eq_2] at h;(conv=>whnf);left;refine bS h (fun h=>?_) fun h=>?_
  ·(conv=>whnf);left;(conv=>whnf);refine aX ?_;(conv=>whnf);refine oB h fun y_22 h=>?_;cases h
  exact qE [(0,0),(1,1),(2,2),(3,3),(4,4),(5,5),(6,6)]
 (conv=>whnf);left;(conv=>whnf);left;(conv=>whnf);left;(conv=>whnf);refine cR h ZbA fun y_23 h=>?_;(conv=>whnf);refine aX ?_;cases h
theorem ZhP {id conf c fs l r} (h:ZdD F id conf c fs l=some (Sum.inr (Sum.inl r))):FZ ml 52 [(0,rF [.mapo 1,.osw 2 2,aI c]),(1,AO.fmap 1 (@encF (@List UInt8) Int (fun (k_13:(@List UInt8))=>(AV.str k_13)) (cInt IntKind.u8) fs) none),(2,rT Zab.c l)] [pp 0,aI id,sM (cInt IntKind.i64) conf] (.tup [pp 3,.agg (Zaf.c r.1),aI r.2.1]) [(0,rF [.mapo 1,.osw 4 2,aI r.2.2.1]),(1,AO.fmap 1 (@encF (@List UInt8) Int (fun (k_13:(@List UInt8))=>(AV.str k_13)) (cInt IntKind.u8) r.2.2.2.1) none),(3,rF [AV.con (Value.pointer none),aI r.2.2.2.2.1,sM (cInt IntKind.i64) r.2.2.2.2.2.1,aI r.2.2.2.2.2.2.1,aI r.2.2.2.2.2.2.2.1,aI r.2.2.2.2.2.2.2.2.1,aI r.2.2.2.2.2.2.2.2.2.1,aI r.2.2.2.2.2.2.2.2.2.2.1,aI r.2.2.2.2.2.2.2.2.2.2.2.1,sM Zaa.c r.2.2.2.2.2.2.2.2.2.2.2.2.1,.str r.2.2.2.2.2.2.2.2.2.2.2.2.2.1,aI r.2.2.2.2.2.2.2.2.2.2.2.2.2.2.1,aI r.2.2.2.2.2.2.2.2.2.2.2.2.2.2.2.1,aI r.2.2.2.2.2.2.2.2.2.2.2.2.2.2.2.2.1,sM (cInt IntKind.i64) r.2.2.2.2.2.2.2.2.2.2.2.2.2.2.2.2.2.1,sM (cInt IntKind.i64) r.2.2.2.2.2.2.2.2.2.2.2.2.2.2.2.2.2.2.1,sM (cInt IntKind.i64) r.2.2.2.2.2.2.2.2.2.2.2.2.2.2.2.2.2.2.2.1]),(4,rT Zab.c r.2.2.2.2.2.2.2.2.2.2.2.2.2.2.2.2.2.2.2.2)]:=by
 refine fG Tryz.func52 ?_
 unfold ZdD at h
 (conv=>whnf);left;(conv=>whnf);left;(conv=>whnf);refine cR h Zf1 fun y_0 h=>?_;(conv=>whnf);left;(conv=>whnf);left;(conv=>whnf);left;refine bS h (fun h=>?_) fun h=>?_
 ·(conv=>whnf);left;cases h
 obtain ⟨y_1,hy,h⟩:=ZaL h;rcases y_1 with y_1 | y_1
 ·replace h:=Zfj h;(conv=>whnf);refine cg [0,1,2] (Zfv hy) ?_;(conv=>whnf);left;refine bS h (fun h=>?_) fun h=>?_
  ·(conv=>whnf);left;cases h
  (conv=>whnf);refine jN h fun o0=>jM [(7,pp 3),(9,pp 4),(11,AV.con (Value.pointer none))] [(0,rF [.mapo 1,.osw 5 2,aI y_1.2.1]),(1,AO.fmap 1 (@encF (@List UInt8) Int (fun (k_13:(@List UInt8))=>(AV.str k_13)) (cInt IntKind.u8) y_1.2.2.1) none),(3,rF zr0),(4,rF (Zaf.c y_0.1)),(5,rT Zab.c y_1.2.2.2.2)] 6 (fun h=>?_) fun h=>?_
  ·(conv=>whnf);left;(conv=>whnf);refine lI (fun n' (_:Unit)=>Zb7 F y_1 n') (fun _=>[(7,pp 3),(9,pp 4),(11,AV.con (Value.pointer none)),(40,.osw 5 1),(41,aI (@Nat.cast Int instNatCastInt (List.length (List.map (cSl (cInt IntKind.u8)) y_1.2.2.2.1)))),(42,aI 0)]) (fun _=>[(0,rF [.mapo 1,.osw 6 2,aI y_1.2.1]),(1,AO.fmap 1 (@encF (@List UInt8) Int (fun (k_13:(@List UInt8))=>(AV.str k_13)) (cInt IntKind.u8) y_1.2.2.1) none),(3,rF zr0),(4,rF (Zaf.c y_0.1)),(5,rT (cSl (cInt IntKind.u8)) y_1.2.2.2.1),(6,rT Zab.c y_1.2.2.2.2)]) 7 () [(0,0),(1,1),(2,2),(3,64),(4,320),(5,643),(6,644)] h ?_;rintro n_10 - h;rw [Zb7.eq_2] at h;(conv=>whnf);left;refine bS h (fun h=>?_) fun h=>?_
   ·(conv=>whnf);left;(conv=>whnf);refine aX ?_;(conv=>whnf);refine oB h fun y_13 h=>?_;(conv=>whnf);refine oB h fun y_14 h=>?_;cases h
   exact qE [(0,0),(1,1),(2,2),(3,3),(4,4),(5,6)]
  (conv=>whnf);left;(conv=>whnf);left;(conv=>whnf);left;(conv=>whnf);refine cR h ZbA fun y_15 h=>?_;(conv=>whnf);refine aX ?_;(conv=>whnf);obtain rfl:=Sum.inl.inj (Sum.inr.inj (Option.some.inj h));exact gI [(0,0),(1,1),(2,2),(3,102),(4,5)]
 replace h:=Zfi h;(conv=>whnf);refine cg [0,1,2] (Zfu hy) ?_;(conv=>whnf);left;refine bS h (fun h=>?_) fun h=>?_
 ·(conv=>whnf);left;cases h
 (conv=>whnf);refine jN h fun o1=>jM [(7,pp 3),(9,pp 4),(11,pp 5)] [(0,rF [.mapo 1,.osw 6 2,aI y_1.2.2.1]),(1,AO.fmap 1 (@encF (@List UInt8) Int (fun (k_13:(@List UInt8))=>(AV.str k_13)) (cInt IntKind.u8) y_1.2.2.2.1) none),(3,rF zr0),(4,rF (Zaf.c y_0.1)),(5,rF [pp 0,.str y_1.2.2.2.2.1,aI y_1.2.2.2.2.2.1,aI y_1.2.2.2.2.2.2.1]),(6,rT Zab.c y_1.2.2.2.2.2.2.2)] 7 (fun h=>?_) fun h=>?_
 ·(conv=>whnf);left;(conv=>whnf);refine lI (fun n' (_:Unit)=>Zb6 F y_1 n') (fun _=>[(7,pp 3),(9,pp 4),(11,pp 5),(40,sM (cSl (cInt IntKind.u8)) y_1.1),(41,aI (@Nat.cast Int instNatCastInt (List.length (List.map (cSl (cInt IntKind.u8)) y_1.1)))),(42,aI 0)]) (fun _=>[(0,rF [.mapo 1,.osw 6 2,aI y_1.2.2.1]),(1,AO.fmap 1 (@encF (@List UInt8) Int (fun (k_13:(@List UInt8))=>(AV.str k_13)) (cInt IntKind.u8) y_1.2.2.2.1) none),(3,rF zr0),(4,rF (Zaf.c y_0.1)),(5,rF [pp 0,.str y_1.2.2.2.2.1,aI y_1.2.2.2.2.2.1,aI y_1.2.2.2.2.2.2.1]),(6,rT Zab.c y_1.2.2.2.2.2.2.2)]) 7 () [(0,0),(1,1),(2,2),(3,64),(4,320),(5,643),(6,644)] h ?_;rintro n_20 - h;rw [Zb6.eq_2] at h;(conv=>whnf);left;refine bS h (fun h=>?_) fun h=>?_
  ·(conv=>whnf);left;(conv=>whnf);refine aX ?_;(conv=>whnf);refine oB h fun y_22 h=>?_;cases h
  exact qE [(0,0),(1,1),(2,2),(3,3),(4,4),(5,5),(6,6)]
 (conv=>whnf);left;(conv=>whnf);left;(conv=>whnf);left;(conv=>whnf);refine cR h ZbA fun y_23 h=>?_;(conv=>whnf);refine aX ?_;cases h
theorem ZhO {id conf c fs l r} (h:ZdD F id conf c fs l=some (Sum.inr (Sum.inr r))):FZ ml 52 [(0,rF [.mapo 1,.osw 2 2,aI c]),(1,AO.fmap 1 (@encF (@List UInt8) Int (fun (k_13:(@List UInt8))=>(AV.str k_13)) (cInt IntKind.u8) fs) none),(2,rT Zab.c l)] [pp 0,aI id,sM (cInt IntKind.i64) conf] (.tup [pp 3,.agg (Zaf.c r.1),aI r.2.1]) [(0,rF [.mapo 1,.osw 4 2,aI r.2.2.1]),(1,AO.fmap 1 (@encF (@List UInt8) Int (fun (k_13:(@List UInt8))=>(AV.str k_13)) (cInt IntKind.u8) r.2.2.2.1) none),(3,rF [pp 5,aI r.2.2.2.2.1,sM (cInt IntKind.i64) r.2.2.2.2.2.1,aI r.2.2.2.2.2.2.1,aI r.2.2.2.2.2.2.2.1,aI r.2.2.2.2.2.2.2.2.1,aI r.2.2.2.2.2.2.2.2.2.1,aI r.2.2.2.2.2.2.2.2.2.2.1,aI r.2.2.2.2.2.2.2.2.2.2.2.1,sM Zaa.c r.2.2.2.2.2.2.2.2.2.2.2.2.1,.str r.2.2.2.2.2.2.2.2.2.2.2.2.2.1,aI r.2.2.2.2.2.2.2.2.2.2.2.2.2.2.1,aI r.2.2.2.2.2.2.2.2.2.2.2.2.2.2.2.1,aI r.2.2.2.2.2.2.2.2.2.2.2.2.2.2.2.2.1,sM (cInt IntKind.i64) r.2.2.2.2.2.2.2.2.2.2.2.2.2.2.2.2.2.1,sM (cInt IntKind.i64) r.2.2.2.2.2.2.2.2.2.2.2.2.2.2.2.2.2.2.1,sM (cInt IntKind.i64) r.2.2.2.2.2.2.2.2.2.2.2.2.2.2.2.2.2.2.2.1]),(4,rT Zab.c r.2.2.2.2.2.2.2.2.2.2.2.2.2.2.2.2.2.2.2.2.1),(5,rF [pp 0,.str r.2.2.2.2.2.2.2.2.2.2.2.2.2.2.2.2.2.2.2.2.2.1,aI r.2.2.2.2.2.2.2.2.2.2.2.2.2.2.2.2.2.2.2.2.2.2.1,aI r.2.2.2.2.2.2.2.2.2.2.2.2.2.2.2.2.2.2.2.2.2.2.2])]:=by
 refine fG Tryz.func52 ?_
 unfold ZdD at h
 (conv=>whnf);left;(conv=>whnf);left;(conv=>whnf);refine cR h Zf1 fun y_0 h=>?_;(conv=>whnf);left;(conv=>whnf);left;(conv=>whnf);left;refine bS h (fun h=>?_) fun h=>?_
 ·(conv=>whnf);left;cases h
 obtain ⟨y_1,hy,h⟩:=ZaL h;rcases y_1 with y_1 | y_1
 ·replace h:=Zfj h;(conv=>whnf);refine cg [0,1,2] (Zfv hy) ?_;(conv=>whnf);left;refine bS h (fun h=>?_) fun h=>?_
  ·(conv=>whnf);left;cases h
  (conv=>whnf);refine jN h fun o0=>jM [(7,pp 3),(9,pp 4),(11,AV.con (Value.pointer none))] [(0,rF [.mapo 1,.osw 5 2,aI y_1.2.1]),(1,AO.fmap 1 (@encF (@List UInt8) Int (fun (k_13:(@List UInt8))=>(AV.str k_13)) (cInt IntKind.u8) y_1.2.2.1) none),(3,rF zr0),(4,rF (Zaf.c y_0.1)),(5,rT Zab.c y_1.2.2.2.2)] 6 (fun h=>?_) fun h=>?_
  ·(conv=>whnf);left;(conv=>whnf);refine lI (fun n' (_:Unit)=>Zb7 F y_1 n') (fun _=>[(7,pp 3),(9,pp 4),(11,AV.con (Value.pointer none)),(40,.osw 5 1),(41,aI (@Nat.cast Int instNatCastInt (List.length (List.map (cSl (cInt IntKind.u8)) y_1.2.2.2.1)))),(42,aI 0)]) (fun _=>[(0,rF [.mapo 1,.osw 6 2,aI y_1.2.1]),(1,AO.fmap 1 (@encF (@List UInt8) Int (fun (k_13:(@List UInt8))=>(AV.str k_13)) (cInt IntKind.u8) y_1.2.2.1) none),(3,rF zr0),(4,rF (Zaf.c y_0.1)),(5,rT (cSl (cInt IntKind.u8)) y_1.2.2.2.1),(6,rT Zab.c y_1.2.2.2.2)]) 7 () [(0,0),(1,1),(2,2),(3,64),(4,320),(5,643),(6,644)] h ?_;rintro n_10 - h;rw [Zb7.eq_2] at h;(conv=>whnf);left;refine bS h (fun h=>?_) fun h=>?_
   ·(conv=>whnf);left;(conv=>whnf);refine aX ?_;(conv=>whnf);refine oB h fun y_13 h=>?_;(conv=>whnf);refine oB h fun y_14 h=>?_;cases h
   exact qE [(0,0),(1,1),(2,2),(3,3),(4,4),(5,6)]
  (conv=>whnf);left;(conv=>whnf);left;(conv=>whnf);left;(conv=>whnf);refine cR h ZbA fun y_15 h=>?_;(conv=>whnf);refine aX ?_;cases h
 replace h:=Zfi h;(conv=>whnf);refine cg [0,1,2] (Zfu hy) ?_;(conv=>whnf);left;refine bS h (fun h=>?_) fun h=>?_
 ·(conv=>whnf);left;cases h
 (conv=>whnf);refine jN h fun o1=>jM [(7,pp 3),(9,pp 4),(11,pp 5)] [(0,rF [.mapo 1,.osw 6 2,aI y_1.2.2.1]),(1,AO.fmap 1 (@encF (@List UInt8) Int (fun (k_13:(@List UInt8))=>(AV.str k_13)) (cInt IntKind.u8) y_1.2.2.2.1) none),(3,rF zr0),(4,rF (Zaf.c y_0.1)),(5,rF [pp 0,.str y_1.2.2.2.2.1,aI y_1.2.2.2.2.2.1,aI y_1.2.2.2.2.2.2.1]),(6,rT Zab.c y_1.2.2.2.2.2.2.2)] 7 (fun h=>?_) fun h=>?_
 ·(conv=>whnf);left;(conv=>whnf);refine lI (fun n' (_:Unit)=>Zb6 F y_1 n') (fun _=>[(7,pp 3),(9,pp 4),(11,pp 5),(40,sM (cSl (cInt IntKind.u8)) y_1.1),(41,aI (@Nat.cast Int instNatCastInt (List.length (List.map (cSl (cInt IntKind.u8)) y_1.1)))),(42,aI 0)]) (fun _=>[(0,rF [.mapo 1,.osw 6 2,aI y_1.2.2.1]),(1,AO.fmap 1 (@encF (@List UInt8) Int (fun (k_13:(@List UInt8))=>(AV.str k_13)) (cInt IntKind.u8) y_1.2.2.2.1) none),(3,rF zr0),(4,rF (Zaf.c y_0.1)),(5,rF [pp 0,.str y_1.2.2.2.2.1,aI y_1.2.2.2.2.2.1,aI y_1.2.2.2.2.2.2.1]),(6,rT Zab.c y_1.2.2.2.2.2.2.2)]) 7 () [(0,0),(1,1),(2,2),(3,64),(4,320),(5,643),(6,644)] h ?_;rintro n_20 - h;rw [Zb6.eq_2] at h;(conv=>whnf);left;refine bS h (fun h=>?_) fun h=>?_
  ·(conv=>whnf);left;(conv=>whnf);refine aX ?_;(conv=>whnf);refine oB h fun y_22 h=>?_;cases h
  exact qE [(0,0),(1,1),(2,2),(3,3),(4,4),(5,5),(6,6)]
 (conv=>whnf);left;(conv=>whnf);left;(conv=>whnf);left;(conv=>whnf);refine cR h ZbA fun y_23 h=>?_;(conv=>whnf);refine aX ?_;(conv=>whnf);obtain rfl:=Sum.inr.inj (Sum.inr.inj (Option.some.inj h));exact gI [(0,0),(1,1),(2,2),(3,103),(4,6),(5,5)]
theorem Zjn {b r} (h:Zdo F b=some r):FZ ml 65 [] [sM (cInt IntKind.u8) b] (.tup [.int IntKind.u64 r.1,aI r.2.1,aI r.2.2]) []:=by
 refine fA Tryz.func65 ?_
 unfold Zdo at h
 (conv=>whnf);refine jS h fun o2 vu=>jT [] [] 0 (fun h k2 e=>?_) fun h=>?_
 ·(conv=>whnf);left;(conv=>whnf);refine lI (fun n' x'=>Zbc F b n' x'.1 x'.2) (fun x'=>[(5,AV.int IntKind.u64 x'.1),(8,sM (cInt IntKind.u8) b),(9,aI (@Nat.cast Int instNatCastInt (List.length (List.map (cInt IntKind.u8) b)))),(10,aI x'.2)]) (fun x'=>[]) 0 ((0:Int),(0:Int)) [] h ?_;rintro n_10 ⟨n_11,t10_12⟩ h;dsimp only at h;rw [Zbc.eq_2] at h;(conv=>whnf);left;refine bS h (fun h=>?_) fun h=>?_
  ·(conv=>whnf);left;(conv=>whnf);refine gX h fun h=>?_;(conv=>whnf);refine oB h fun y_15 h=>?_;(conv=>whnf);refine jN h fun t28_16=>jM [(5,AV.int IntKind.u64 n_11),(6,aI t10_12),(7,AV.int IntKind.u8 y_15),(8,sM (cInt IntKind.u8) b),(9,aI (@Nat.cast Int instNatCastInt (List.length (List.map (cInt IntKind.u8) b)))),(10,aI t10_12),(28,.bool t28_16)] [] 0 (fun h=>qE []) fun h=>?_;(conv=>whnf);left;refine bS h (fun h=>?_) fun h=>?_
   ·cases h;cases k2;exact rfl
   (conv=>whnf);refine gX h fun h=>?_;(conv=>whnf);left;refine bS h (fun h=>?_) fun h=>?_
   ·cases h;cases k2;exact rfl
   exact rE (n_10,(@ibits BinOp.or IntKind.u64 n_11 (IntKind.wrap IntKind.u64 ((IntKind.wrap IntKind.u64 (@ibits BinOp.and IntKind.u8 y_15 (127:Int))) * ((2:Int) ^ (min (Int.toNat (IntKind.wrap IntKind.i64 ((7:Int) * t10_12))) 64))))),(IntKind.wrap IntKind.i64 (t10_12+(1:Int)))) [] h
  exact qE []
 exact qR
theorem ZiF {kind b r} (h:ZdG F kind b=some r):FZ ml 49 [] [aI kind,sM (cInt IntKind.u8) b] (.tup [.agg (Zac.c r.1),aI r.2.1,aI r.2.2]) []:=by
 refine fA Tryz.func49 ?_
 unfold ZdG at h
 (conv=>whnf);left;(conv=>whnf);left;(conv=>whnf);left;(conv=>whnf);refine jN h fun t22_0=>jM [(0,aI kind),(1,sM (cInt IntKind.u8) b),(4,pp 0),(7,pp 1),(22,.bool t22_0)] [(0,rF [aI 0,aI 0,.str []]),(1,rF [aI kind,aI 0,.str []])] 2 (fun h=>qE [(0,32),(1,192)]) fun h=>?_;(conv=>whnf);left;refine bS h (fun h=>qR) fun h=>?_;(conv=>whnf);left;(conv=>whnf);refine cL h Zjn fun y_1 h=>?_;(conv=>whnf);left;refine bS h (fun h=>qR) fun h=>?_;(conv=>whnf);refine jS h fun o1 ⟨size_2,c_3,c_4⟩=>jT [(4,pp 0),(7,pp 1),(9,aI (size_2))] [(0,rF [aI 0,aI 0,.str []]),(1,rF [aI kind,aI (c_3),.str c_4])] 2 (fun h k1 e=>?_) fun h=>?_
 ·(conv=>whnf);left;(conv=>whnf);left;refine bS h (fun h=>?_) fun h=>?_
  ·(conv=>whnf);refine aX ?_;(conv=>whnf);left;refine bS h (fun h=>?_) fun h=>?_
   ·cases h;cases k1;exact rfl
   exact qE [(0,0),(1,1)]
  (conv=>whnf);left;refine bS h (fun h=>qE [(0,0),(1,1)]) fun h=>?_;(conv=>whnf);left;refine bS h (fun h=>?_) fun h=>?_
  ·cases h;cases k1;exact rfl
  (conv=>whnf);left;refine bS h (fun h=>?_) fun h=>?_
  ·cases h;cases k1;exact rfl
  (iterate 4 ((conv=>whnf);first|refine oL ?_|refine gX h fun h=>?_|refine aX ?_));(conv=>whnf);refine gS h fun h=>?_;(conv=>whnf);obtain ⟨hg,h⟩:=ZiJ h;refine ⟨_,Zgq rQ hg,?_⟩;exact qE [(0,0),(1,1)]
 exact qR
theorem ZfI {kinds b r} (h:ZcY F kinds b=some r):FZ ml 33 [] [(AV.sl (List.map (cInt IntKind.i64) kinds)),(AV.sl (List.map (cInt IntKind.u8) b))] (AV.tup [(AV.osw 0 3),aI r.1]) [(0,(AO.rows true (List.map Zac.c r.2)))]:=by
 refine ZeC 2000 Tryz.func33 rfl (by kernel_rfl) mixed (by show 2≤40;decide) (by show 0≤W;decide) rfl ?_
 unfold ZcY at h
 conv=>whnf
 obtain ⟨o0,h0,k0⟩:=ZaL h
 refine Or.inr (Zix (o0=Sum.inr (outR o0)) [(1,(AV.sl (List.map (cInt IntKind.u8) (outR o0).1))),(6,(AV.osw 0 3))] [(0,(AO.rows true (List.map Zac.c (outR o0).2)))] 1 ?_ (fun hR=>?_))
 ·refine oL ?_
  conv=>whnf
  refine ZgB (α:=(Nat×(List Int)×Int×(List Zac))) (fun xq=>[(1,(AV.sl (List.map (cInt IntKind.u8) xq.2.1))),(6,(AV.osw 0 3)),(12,(AV.sl (List.map (cInt IntKind.i64) kinds))),(13,(aI (@Nat.cast Int instNatCastInt (List.length (List.map (cInt IntKind.i64) kinds))))),(14,aI xq.2.2.1)]) (fun xq=>[(0,(AO.rows true (List.map Zac.c xq.2.2.2)))]) 1 (fun xq=>Za8 F kinds xq.1 xq.2.1 xq.2.2.1 xq.2.2.2=some o0) (fun xq=>xq.1) (F,b,(0:Int),[]) [(0,96)] h0 rfl (cons2 (congrArg (fun X=>some (AO.rows true X)) (by first | (simp;done) | rfl | (rw [List.map_append];rfl) | (simp [outR];done) | (simp only [outR,Sum.elim_inr,id,List.map_append,List.map_map];rfl))) rfl) rfl ?_
  rintro ⟨n_14,b_15,t14_16,l_17⟩ h0
  replace h0:Za8 F kinds n_14 b_15 t14_16 l_17=some o0:=h0
  cases n_14 with
  | zero=>rw [Za8.eq_1] at h0;cases h0
  | succ n_14 =>
   rw [Za8.eq_2] at h0
   refine oL ?_
   conv=>whnf
   refine brn_i (fun hb=>?_) (fun hb=>?_)
   ·replace h0:=ZgY h0 (by first | exact hb | (simp;done) | simpa using hb | simpa [chunk] using hb | (simp [chunk] at hb ⊢;omega))
    refine oL ?_
    obtain ⟨hg,h0⟩:=grd_e h0
    refine ⟨hg,?_⟩
    conv=>whnf
    obtain ⟨y_20,hy,h0⟩:=ZaL h0
    refine opt_i ((cInt IntKind.i64) y_20) (getE rfl hy) ?_
    refine oL ?_
    conv=>whnf
    obtain ⟨y_21,hy,h0⟩:=ZaL h0
    refine ⟨_,_,(ZiF hy),Or.inl ⟨rfl,rfl,?_⟩⟩
    iterate 2 refine oL ?_
    conv=>whnf
    refine bC h0 ?_ ?_<;>intro hb h0
    ·conv=>whnf
     cases h0
     cases k0
     exact Zdl [(0,577)] rfl (cons2 (congrArg (fun X=>some (AO.rows true X)) (by first | (simp;done) | rfl | (rw [List.map_append];rfl) | (simp [outR];done) | (simp only [outR,Sum.elim_inr,id,List.map_append,List.map_map];rfl))) rfl) rfl
    refine oL ?_
    refine And.intro (Zal.cons rfl Zal.nil) ?_
    refine And.intro (Zal.map (fun _=>rfl)) ?_
    obtain ⟨hg,h0⟩:=grd_e h0
    refine And.intro (by first | exact hg | (simp;done) | simpa using hg | simpa [chunk] using hg | (simp [chunk] at hg ⊢;omega)) ?_
    refine And.intro (Zal.map (fun _=>rfl)) ?_
    obtain ⟨hg,h0⟩:=grd_e h0
    refine ⟨hg,?_⟩
    obtain ⟨hg,h0⟩:=grd_e h0
    refine And.intro (by first | exact hg | (simp;done) | simpa using hg | simpa [chunk] using hg | (simp [chunk] at hg ⊢;omega)) ?_
    obtain ⟨hg,h0⟩:=grd_e h0
    refine And.intro (by first | exact hg | (simp;done) | simpa using hg | simpa [chunk] using hg | (simp [chunk] at hg ⊢;omega)) ?_
    conv=>whnf
    exact Zgw (n_14,(List.drop (Int.toNat y_21.2.1) b_15),(IntKind.wrap IntKind.i64 (t14_16+(1:Int))),(l_17++[y_21.1])) [(0,641)] h0 (Nat.lt_succ_self _) (cons2 (congrArg AV.sl (by first | (simp;done) | rfl | (rw [List.map_append];rfl) | (simp [outR];done) | (simp only [outR,Sum.elim_inr,id,List.map_append,List.map_map];rfl))) rfl) (cons2 (congrArg (fun X=>some (AO.rows true X)) (by first | (simp;done) | rfl | (rw [List.map_append];rfl) | (simp [outR];done) | (simp only [outR,Sum.elim_inr,id,List.map_append,List.map_map];rfl))) rfl) rfl
   replace h0:=ZgZ h0 (by first | exact hb | (simp;done) | simpa using hb | simpa [chunk] using hb | (simp [chunk] at hb ⊢;omega))
   conv=>whnf
   cases h0
   exact eI [(0,0)]
 replace k0:=ZmW hR k0
 generalize outR o0=vu at k0 ⊢
 obtain ⟨b_8,l_9⟩:=vu
 refine oL ?_
 conv=>whnf
 refine brn_i (fun hb=>?_) (fun hb=>?_)
 ·replace k0:=ZgY k0 (by first | exact hb | (simp;done) | simpa using hb | simpa [chunk] using hb | (simp [chunk] at hb ⊢;omega))
  conv=>whnf
  cases k0
  exact Zdl [(0,97)] rfl (cons2 (congrArg (fun X=>some (AO.rows true X)) (by first | (simp;done) | rfl | (rw [List.map_append];rfl) | (simp [outR];done) | (simp only [outR,Sum.elim_inr,id,List.map_append,List.map_map];rfl))) rfl) rfl
 replace k0:=ZgZ k0 (by first | exact hb | (simp;done) | simpa using hb | simpa [chunk] using hb | (simp [chunk] at hb ⊢;omega))
 conv=>whnf
 cases k0
 exact gI [(0,0)]
theorem Zdj {s r} (h:Zc6 F s=some r):FZ ml 53 [] [.str s] (.tup [aI r.1,.int IntKind.u32 r.2]) []:=by
 refine fA Tryz.func53 ?_
 unfold Zc6 at h
 (conv=>whnf);left;(conv=>whnf);refine gX h fun h=>?_;(conv=>whnf);left;obtain ⟨y_0,hy,h⟩:=ZaL h;refine ⟨_,_,(Zc3 (cons2 (congrArg AV.sl rQ) (cons2 (congrArg AV.sl rQ) rfl)) (Zav (ZfI hy) rfl)),Or.inr ⟨[96,160],rfl,?_⟩⟩;(conv=>whnf);left;refine bS h (fun h=>qR) fun h=>?_;(conv=>whnf);refine aX ?_;(conv=>whnf);refine oB h fun y_1 h=>?_;(conv=>whnf);refine aX ?_;(conv=>whnf);refine oB h fun y_2 h=>?_;exact qR
theorem Zc9 {id c cq2 cq3 cq4 cq5 cq6 cq7 cq8 cq9 cq10 cq11 cq12 cq13 cq14 cq15 cq16 cq17 cq18 cq19 cq20 gs gk cq23 tb l lq26 lq27 lq28 cq29 lq30 m fs lq33 r} (h:ZcO F id c cq2 cq3 cq4 cq5 cq6 cq7 cq8 cq9 cq10 cq11 cq12 cq13 cq14 cq15 cq16 cq17 cq18 cq19 cq20 gs gk cq23 tb l lq26 lq27 lq28 cq29 lq30 m fs lq33=some r):FZ ml 42 [(0,rF [sM (cInt IntKind.i64) c,.mapo 2,pp 3,pp 4,.osw 5 2,.osw 6 1,.osw 7 1,.osw 8 2,.bool cq2]),(1,rF [pp 9,AV.con (Value.pointer none),aI cq3,sM (cInt IntKind.i64) cq4,aI cq5,aI cq6,aI cq7,aI cq8,aI cq9,aI cq10,sM Zaa.c cq11,.str cq12,aI cq13,aI cq14,aI cq15,sM (cInt IntKind.i64) cq16,sM (cInt IntKind.i64) cq17,sM (cInt IntKind.i64) cq18,.bool false,aI cq19,AV.int IntKind.u32 cq20]),(2,AO.gmap (@encG Int group_node (fun (k_13:Int)=>(AV.int IntKind.i64 k_13)) group_node.g gs) (some ((Option.getD (@mix Int group_node Int.instDecidableEq gk gs) 0),1))),(3,rF [.osw 10 4,aI cq23,.mapo 11]),(4,.rows true [(@crowB tb)]),(5,rT Zaa.c l),(6,rT (cInt IntKind.i64) lq26),(7,rT (cInt IntKind.u32) lq27),(8,rT Zah.c lq28),(9,rF [.mapo 12,.osw 13 2,aI cq29]),(10,rT Zag.c lq30),(11,AO.mapo true (encM (fun (k_13:Zae)=>(AV.agg (Zae.c k_13))) (fun (k_13:Int)=>(AV.int IntKind.i64 k_13)) m)),(12,AO.fmap 1 (@encF (@List UInt8) Int (fun (k_13:(@List UInt8))=>(AV.str k_13)) (cInt IntKind.u8) fs) none),(13,rT Zab.c lq33)] [pp 0,aI id,pp 1] (aI r.1) [(0,rF [sM (cInt IntKind.i64) c,.mapo 2,pp 3,pp 4,.osw 5 2,.osw 6 1,.osw 7 1,.osw 8 2,.bool cq2]),(2,AO.gmap (@encG Int group_node (fun (k_13:Int)=>(AV.int IntKind.i64 k_13)) group_node.g r.2) none),(3,rF [.osw 10 4,aI cq23,.mapo 11]),(4,.rows true [(@crowB tb)]),(5,rT Zaa.c l),(6,rT (cInt IntKind.i64) lq26),(7,rT (cInt IntKind.u32) lq27),(8,rT Zah.c lq28),(10,rT Zag.c lq30),(11,AO.mapo true (encM (fun (k_13:Zae)=>(AV.agg (Zae.c k_13))) (fun (k_13:Int)=>(AV.int IntKind.i64 k_13)) m))]:=by
 refine fG Tryz.func42 ?_
 unfold ZcO at h
 obtain ⟨y_0,hy,h⟩:=ZaL h;rcases y_0 with y_0 | y_0
 ·replace h:=Zfj h;(conv=>whnf);refine cg [9,12,13] (ZhQ hy) ?_;(conv=>whnf);left;(conv=>whnf);refine aX ?_;(conv=>whnf);left;refine bS h (fun h=>?_) fun h=>?_
  ·(conv=>whnf);obtain ⟨hg,h⟩:=isS_e h;cases h;refine Zfh (Zen (o:=2) (qo:=1) (ek:=(fun (k_13:Int)=>(AV.int IntKind.i64 k_13))) (gN:=group_node.g) gs gk (@Sum.inl group_nodeD group_nodeU (group_nodeD.mk y_0.2.2.2.1 y_0.2.2.2.2 y_0.2.2.1 (Zaf.mk cq3 cq4 cq5 cq6 cq7 cq8 (Zai.mk cq9 cq10 cq11) cq12 cq13 cq14 cq15 cq16 cq17 cq18) cq19 cq20)) [1,9,12,355] _ rfl (by assumption) rfl rfl (lkE_c _ rfl (WkO.eq rfl) (lkE_c _ rfl (WkO.eq rfl) (lkE_c _ rfl (WkO.eq rfl) (lkE_c _ rfl (WkO.eq rfl) lkE_n)))) rfl (.refl _)) ?_;exact gI [(0,0),(1,1),(2,2),(3,3),(4,4),(5,5),(6,6),(7,7),(8,8),(9,9),(10,10),(11,11),(12,12),(13,13)]
  (conv=>whnf);refine aX ?_;(conv=>whnf);left;(conv=>whnf);refine cL h Zdj fun y_1 h=>?_;cases h
 replace h:=Zfi h;rcases y_0 with y_0 | y_0
 ·replace h:=Zfj h;(conv=>whnf);refine cg [9,12,13] (ZhP hy) ?_;(conv=>whnf);left;(conv=>whnf);refine aX ?_;(conv=>whnf);left;refine bS h (fun h=>?_) fun h=>?_
  ·(conv=>whnf);obtain ⟨hg,h⟩:=isS_e h;cases h;refine Zfh (Zen (o:=2) (qo:=1) (ek:=(fun (k_13:Int)=>(AV.int IntKind.i64 k_13))) (gN:=group_node.g) gs gk (@Sum.inl group_nodeD group_nodeU (group_nodeD.mk y_0.2.2.2.1 y_0.2.2.2.2.2.2.2.2.2.2.2.2.2.2.2.2.2.2.2.2 y_0.2.2.1 (Zaf.mk cq3 cq4 cq5 cq6 cq7 cq8 (Zai.mk cq9 cq10 cq11) cq12 cq13 cq14 cq15 cq16 cq17 cq18) cq19 cq20)) [1,9,12,356] _ rfl (by assumption) rfl rfl (lkE_c _ rfl (WkO.eq rfl) (lkE_c _ rfl (WkO.eq rfl) (lkE_c _ rfl (WkO.eq rfl) (lkE_c _ rfl (WkO.eq rfl) lkE_n)))) rfl (.refl _)) ?_;exact gI [(0,0),(1,1),(2,2),(3,3),(4,4),(5,5),(6,6),(7,7),(8,8),(9,9),(10,10),(11,11),(12,12),(13,13)]
  (conv=>whnf);refine aX ?_;(conv=>whnf);left;(conv=>whnf);refine cL h Zdj fun y_2 h=>?_;cases h
 replace h:=Zfi h;(conv=>whnf);refine cg [9,12,13] (ZhO hy) ?_;(conv=>whnf);left;(conv=>whnf);refine aX ?_;(conv=>whnf);left;refine bS h (fun h=>?_) fun h=>?_
 ·(conv=>whnf);obtain ⟨hg,h⟩:=isS_e h;cases h;refine Zfh (Zen (o:=2) (qo:=1) (ek:=(fun (k_13:Int)=>(AV.int IntKind.i64 k_13))) (gN:=group_node.g) gs gk (@Sum.inl group_nodeD group_nodeU (group_nodeD.mk y_0.2.2.2.1 y_0.2.2.2.2.2.2.2.2.2.2.2.2.2.2.2.2.2.2.2.2.1 y_0.2.2.1 (Zaf.mk cq3 cq4 cq5 cq6 cq7 cq8 (Zai.mk cq9 cq10 cq11) cq12 cq13 cq14 cq15 cq16 cq17 cq18) cq19 cq20)) [1,9,12,356] _ rfl (by assumption) rfl rfl (lkE_c _ rfl (WkO.eq rfl) (lkE_c _ rfl (WkO.eq rfl) (lkE_c _ rfl (WkO.eq rfl) (lkE_c _ rfl (WkO.eq rfl) lkE_n)))) rfl (.refl _)) ?_;exact gI [(0,0),(1,1),(2,2),(3,3),(4,4),(5,5),(6,6),(7,7),(8,8),(9,9),(10,10),(11,11),(12,12),(13,13)]
 (conv=>whnf);refine aX ?_;(conv=>whnf);left;(conv=>whnf);refine cL h Zdj fun y_3 h=>?_;(conv=>whnf);obtain ⟨hg,h⟩:=isS_e h;cases h;refine Zfh (Zen (o:=2) (qo:=1) (ek:=(fun (k_13:Int)=>(AV.int IntKind.i64 k_13))) (gN:=group_node.g) gs gk (@Sum.inr group_nodeD group_nodeU (group_nodeU.mk y_0.2.2.2.1 y_0.2.2.2.2.2.2.2.2.2.2.2.2.2.2.2.2.2.2.2.2.1 y_0.2.2.1 y_0.2.2.2.2.2.2.2.2.2.2.2.2.2.2.2.2.2.2.2.2.2.1 y_0.2.2.2.2.2.2.2.2.2.2.2.2.2.2.2.2.2.2.2.2.2.2.1 y_0.2.2.2.2.2.2.2.2.2.2.2.2.2.2.2.2.2.2.2.2.2.2.2 (Zaf.mk y_0.2.2.2.2.1 y_0.2.2.2.2.2.1 y_0.2.2.2.2.2.2.1 y_0.2.2.2.2.2.2.2.1 y_0.2.2.2.2.2.2.2.2.1 y_0.2.2.2.2.2.2.2.2.2.1 (Zai.mk y_0.2.2.2.2.2.2.2.2.2.2.1 y_0.2.2.2.2.2.2.2.2.2.2.2.1 y_0.2.2.2.2.2.2.2.2.2.2.2.2.1) y_0.2.2.2.2.2.2.2.2.2.2.2.2.2.1 y_0.2.2.2.2.2.2.2.2.2.2.2.2.2.2.1 y_0.2.2.2.2.2.2.2.2.2.2.2.2.2.2.2.1 y_0.2.2.2.2.2.2.2.2.2.2.2.2.2.2.2.2.1 y_0.2.2.2.2.2.2.2.2.2.2.2.2.2.2.2.2.2.1 y_0.2.2.2.2.2.2.2.2.2.2.2.2.2.2.2.2.2.2.1 y_0.2.2.2.2.2.2.2.2.2.2.2.2.2.2.2.2.2.2.2.1) y_0.1 y_3.1 y_3.2)) [1,9,12,356,355,357] _ rfl (by assumption) rfl rfl (lkE_c _ rfl (WkO.eq rfl) (lkE_c _ rfl (WkO.eq rfl) (lkE_c _ rfl (WkO.eq rfl) (lkE_c _ rfl (WkO.eq rfl) (lkE_c _ rfl (WkO.eq rfl) (lkE_c _ rfl (WkO.eq rfl) lkE_n)))))) rfl (.refl _)) ?_;exact gI [(0,0),(1,1),(2,2),(3,3),(4,4),(5,5),(6,6),(7,7),(8,8),(9,9),(10,10),(11,11),(12,12),(13,13)]
theorem Ze3 {conf r} (h:Zem F conf=some (Sum.inl r)):FZ ml 15 [] [sM (cInt IntKind.i64) conf] (.tup [AV.con (Value.pointer none),aI r]) []:=by
 refine fG Tryz.func15 ?_
 unfold Zem at h
 (conv=>whnf);left;(conv=>whnf);refine cL h Zcr fun y_0 h=>?_;(conv=>whnf);left;refine bS h (fun h=>qG []) fun h=>?_;(conv=>whnf);left;(conv=>whnf);refine cR h (fun h=>Zav (Zat h) rfl) fun y_1 h=>?_;(conv=>whnf);refine Or.inr ?_;(conv=>whnf);refine ⟨Or.inr ?_⟩;(conv=>whnf);left;(conv=>whnf);refine cR h ZgT fun y_2 h=>?_;(conv=>whnf);left;(conv=>whnf);refine cR h ZhB fun y_3 h=>?_;(conv=>whnf);left;(conv=>whnf);left;(conv=>whnf);refine Or.inr (Zfb 4 2 _ rfl rfl ?_);(conv=>whnf);refine Or.inr (ZmZ 7 2 _ rfl rfl ?_);(conv=>whnf);refine jN h fun gs_16=>jM [(4,pp 0)] [(0,rF [sM (cInt IntKind.i64) y_1,.mapo 1,pp 2,pp 3,.osw 4 2,.osw 5 1,.osw 6 1,.osw 7 2,.bool false]),(1,AO.gmap (@encG Int group_node (fun (k_13:Int)=>(AV.int IntKind.i64 k_13)) group_node.g gs_16) none),(2,rF [.osw 8 4,aI y_2.1,.mapo 9]),(3,.rows true [(@crowB y_3)]),(4,rT Zaa.c []),(5,rT (cInt IntKind.i64) ((0:Int)::[])),(6,rT (cInt IntKind.u32) ((0:Int)::[])),(7,rT Zah.c []),(8,rT Zag.c y_2.2.1),(9,AO.mapo true (encM (fun (k_13:Zae)=>(AV.agg (Zae.c k_13))) (fun (k_13:Int)=>(AV.int IntKind.i64 k_13)) y_2.2.2))] 10 (fun h=>?_) fun h=>?_
 ·(conv=>whnf);left;(conv=>whnf);refine lI (fun n' x'=>Zc7 F conf y_1 y_2 y_3 n' x'.1 x'.2) (fun x'=>[(4,pp 0),(20,sM (cInt IntKind.i64) conf),(21,aI (@Nat.cast Int instNatCastInt (List.length (List.map (cInt IntKind.i64) conf)))),(22,aI x'.1)]) (fun x'=>[(0,rF [sM (cInt IntKind.i64) y_1,.mapo 1,pp 2,pp 3,.osw 4 2,.osw 5 1,.osw 6 1,.osw 7 2,.bool false]),(1,AO.gmap (@encG Int group_node (fun (k_13:Int)=>(AV.int IntKind.i64 k_13)) group_node.g x'.2) none),(2,rF [.osw 8 4,aI y_2.1,.mapo 9]),(3,.rows true [(@crowB y_3)]),(4,rT Zaa.c []),(5,rT (cInt IntKind.i64) ((0:Int)::[])),(6,rT (cInt IntKind.u32) ((0:Int)::[])),(7,rT Zah.c []),(8,rT Zag.c y_2.2.1),(9,AO.mapo true (encM (fun (k_13:Zae)=>(AV.agg (Zae.c k_13))) (fun (k_13:Int)=>(AV.int IntKind.i64 k_13)) y_2.2.2))]) 10 ((0:Int),[]) [(0,448),(1,256),(2,288),(3,320),(4,416),(5,352),(6,384),(7,449),(8,289),(9,290)] h ?_;rintro n_23 ⟨t22_24,gs_25⟩ h;dsimp only at h;rw [Zc7.eq_2] at h;(conv=>whnf);left;refine bS h (fun h=>?_) fun h=>?_
  ·(conv=>whnf);left;(conv=>whnf);refine gX h fun h=>?_;(conv=>whnf);refine oB h fun y_29 h=>?_;(conv=>whnf);left;(conv=>whnf);refine cR h ZgW fun y_30 h=>?_;(conv=>whnf);left;(conv=>whnf);left;(conv=>whnf);refine aX ?_;(conv=>whnf);obtain ⟨hg,h⟩:=isS_e h;refine ZmT (ek:=(fun (k_13:Int)=>(AV.int IntKind.i64 k_13))) (gN:=group_node.g) gs_25 y_29 (Sum.inl default) 202 rfl rfl (Zdi Tryz.underlying3) hg rfl ?_;obtain ⟨y_31,hy,h⟩:=ZaL h;refine Or.inr (ZiI [0,202,1,2,3,4,5,6,7,138,8,9,139,140] (Zc9 hy) rfl rfl (WkOs.cons (WkO.eq (Option.some.inj rfl)) (WkOs.cons (WkO.r (WkR.cons (WkL.cons (Wk.eq rfl) (WkL.cons (Wk.eq rfl) (WkL.cons (Wk.eq rfl) (WkL.cons Wk.esl (WkL.cons (Wk.eq rfl) (WkL.cons (Wk.eq rfl) (WkL.cons (Wk.eq rfl) (WkL.cons (Wk.eq rfl) (WkL.cons (Wk.eq rfl) (WkL.cons (Wk.eq rfl) (WkL.cons Wk.esl (WkL.cons (Wk.eq rfl) (WkL.cons (Wk.eq rfl) (WkL.cons (Wk.eq rfl) (WkL.cons (Wk.eq rfl) (WkL.cons Wk.esl (WkL.cons Wk.esl (WkL.cons Wk.esl (WkL.cons (Wk.eq rfl) (WkL.cons (Wk.eq rfl) (WkL.cons (Wk.eq rfl) WkL.nil))))))))))))))))))))) WkR.nil)) (WkOs.cons (WkO.eq (Option.some.inj rfl)) (WkOs.cons (WkO.eq (Option.some.inj rfl)) (WkOs.cons (WkO.eq (Option.some.inj rfl)) (WkOs.cons (WkO.eq (Option.some.inj rfl)) (WkOs.cons (WkO.eq (Option.some.inj rfl)) (WkOs.cons (WkO.eq (Option.some.inj rfl)) (WkOs.cons (WkO.eq (Option.some.inj rfl)) (WkOs.cons (WkO.eq (Option.some.inj rfl)) (WkOs.cons (WkO.eq (Option.some.inj rfl)) (WkOs.cons (WkO.eq (Option.some.inj rfl)) (WkOs.cons (WkO.eq (Option.some.inj rfl)) (WkOs.cons (WkO.eq (Option.some.inj (congrArg (fun X=>some (AO.rows true X)) rQ))) WkOs.nil)))))))))))))) (WkL.cons (Wk.eq rfl) (WkL.cons (Wk.eq rfl) (WkL.cons (Wk.eq rfl) WkL.nil))) ?_);exact rE (n_23,(IntKind.wrap IntKind.i64 (t22_24+(1:Int))),y_31.2) [(0,0),(1,1),(2,2),(3,3),(4,4),(5,5),(6,6),(7,7),(8,8),(9,9)] h
  exact qE [(0,0),(1,1),(2,2),(3,3),(4,4),(5,5),(6,6),(7,7),(8,8),(9,9)]
 cases h
theorem Ze2 {conf r} (h:Zem F conf=some (Sum.inr r)):FZ ml 15 [] [sM (cInt IntKind.i64) conf] (.tup [pp 0,aI r.1]) [(0,rF [sM (cInt IntKind.i64) r.2.1,.mapo 1,pp 2,pp 3,.osw 4 2,.osw 5 1,.osw 6 1,.osw 7 2,.bool r.2.2.1]),(1,AO.gmap (@encG Int group_node (fun (k_13:Int)=>(AV.int IntKind.i64 k_13)) group_node.g r.2.2.2.1) none),(2,rF [.osw 8 4,aI r.2.2.2.2.1,.mapo 9]),(3,.rows true [(@crowB r.2.2.2.2.2.1)]),(4,rT Zaa.c r.2.2.2.2.2.2.1),(5,rT (cInt IntKind.i64) r.2.2.2.2.2.2.2.1),(6,rT (cInt IntKind.u32) r.2.2.2.2.2.2.2.2.1),(7,rT Zah.c r.2.2.2.2.2.2.2.2.2.1),(8,rT Zag.c r.2.2.2.2.2.2.2.2.2.2.1),(9,AO.mapo true (encM (fun (k_13:Zae)=>(AV.agg (Zae.c k_13))) (fun (k_13:Int)=>(AV.int IntKind.i64 k_13)) r.2.2.2.2.2.2.2.2.2.2.2))]:=by
 refine fG Tryz.func15 ?_
 unfold Zem at h
 (conv=>whnf);left;(conv=>whnf);refine cL h Zcr fun y_0 h=>?_;(conv=>whnf);left;refine bS h (fun h=>?_) fun h=>?_
 ·cases h
 (conv=>whnf);left;(conv=>whnf);refine cR h (fun h=>Zav (Zat h) rfl) fun y_1 h=>?_;(conv=>whnf);refine Or.inr ?_;(conv=>whnf);refine ⟨Or.inr ?_⟩;(conv=>whnf);left;(conv=>whnf);refine cR h ZgT fun y_2 h=>?_;(conv=>whnf);left;(conv=>whnf);refine cR h ZhB fun y_3 h=>?_;(conv=>whnf);left;(conv=>whnf);left;(conv=>whnf);refine Or.inr (Zfb 4 2 _ rfl rfl ?_);(conv=>whnf);refine Or.inr (ZmZ 7 2 _ rfl rfl ?_);(conv=>whnf);refine jN h fun gs_16=>jM [(4,pp 0)] [(0,rF [sM (cInt IntKind.i64) y_1,.mapo 1,pp 2,pp 3,.osw 4 2,.osw 5 1,.osw 6 1,.osw 7 2,.bool false]),(1,AO.gmap (@encG Int group_node (fun (k_13:Int)=>(AV.int IntKind.i64 k_13)) group_node.g gs_16) none),(2,rF [.osw 8 4,aI y_2.1,.mapo 9]),(3,.rows true [(@crowB y_3)]),(4,rT Zaa.c []),(5,rT (cInt IntKind.i64) ((0:Int)::[])),(6,rT (cInt IntKind.u32) ((0:Int)::[])),(7,rT Zah.c []),(8,rT Zag.c y_2.2.1),(9,AO.mapo true (encM (fun (k_13:Zae)=>(AV.agg (Zae.c k_13))) (fun (k_13:Int)=>(AV.int IntKind.i64 k_13)) y_2.2.2))] 10 (fun h=>?_) fun h=>?_
 ·(conv=>whnf);left;(conv=>whnf);refine lI (fun n' x'=>Zc7 F conf y_1 y_2 y_3 n' x'.1 x'.2) (fun x'=>[(4,pp 0),(20,sM (cInt IntKind.i64) conf),(21,aI (@Nat.cast Int instNatCastInt (List.length (List.map (cInt IntKind.i64) conf)))),(22,aI x'.1)]) (fun x'=>[(0,rF [sM (cInt IntKind.i64) y_1,.mapo 1,pp 2,pp 3,.osw 4 2,.osw 5 1,.osw 6 1,.osw 7 2,.bool false]),(1,AO.gmap (@encG Int group_node (fun (k_13:Int)=>(AV.int IntKind.i64 k_13)) group_node.g x'.2) none),(2,rF [.osw 8 4,aI y_2.1,.mapo 9]),(3,.rows true [(@crowB y_3)]),(4,rT Zaa.c []),(5,rT (cInt IntKind.i64) ((0:Int)::[])),(6,rT (cInt IntKind.u32) ((0:Int)::[])),(7,rT Zah.c []),(8,rT Zag.c y_2.2.1),(9,AO.mapo true (encM (fun (k_13:Zae)=>(AV.agg (Zae.c k_13))) (fun (k_13:Int)=>(AV.int IntKind.i64 k_13)) y_2.2.2))]) 10 ((0:Int),[]) [(0,448),(1,256),(2,288),(3,320),(4,416),(5,352),(6,384),(7,449),(8,289),(9,290)] h ?_;rintro n_23 ⟨t22_24,gs_25⟩ h;dsimp only at h;rw [Zc7.eq_2] at h;(conv=>whnf);left;refine bS h (fun h=>?_) fun h=>?_
  ·(conv=>whnf);left;(conv=>whnf);refine gX h fun h=>?_;(conv=>whnf);refine oB h fun y_29 h=>?_;(conv=>whnf);left;(conv=>whnf);refine cR h ZgW fun y_30 h=>?_;(conv=>whnf);left;(conv=>whnf);left;(conv=>whnf);refine aX ?_;(conv=>whnf);obtain ⟨hg,h⟩:=isS_e h;refine ZmT (ek:=(fun (k_13:Int)=>(AV.int IntKind.i64 k_13))) (gN:=group_node.g) gs_25 y_29 (Sum.inl default) 202 rfl rfl (Zdi Tryz.underlying3) hg rfl ?_;obtain ⟨y_31,hy,h⟩:=ZaL h;refine Or.inr (ZiI [0,202,1,2,3,4,5,6,7,138,8,9,139,140] (Zc9 hy) rfl rfl (WkOs.cons (WkO.eq (Option.some.inj rfl)) (WkOs.cons (WkO.r (WkR.cons (WkL.cons (Wk.eq rfl) (WkL.cons (Wk.eq rfl) (WkL.cons (Wk.eq rfl) (WkL.cons Wk.esl (WkL.cons (Wk.eq rfl) (WkL.cons (Wk.eq rfl) (WkL.cons (Wk.eq rfl) (WkL.cons (Wk.eq rfl) (WkL.cons (Wk.eq rfl) (WkL.cons (Wk.eq rfl) (WkL.cons Wk.esl (WkL.cons (Wk.eq rfl) (WkL.cons (Wk.eq rfl) (WkL.cons (Wk.eq rfl) (WkL.cons (Wk.eq rfl) (WkL.cons Wk.esl (WkL.cons Wk.esl (WkL.cons Wk.esl (WkL.cons (Wk.eq rfl) (WkL.cons (Wk.eq rfl) (WkL.cons (Wk.eq rfl) WkL.nil))))))))))))))))))))) WkR.nil)) (WkOs.cons (WkO.eq (Option.some.inj rfl)) (WkOs.cons (WkO.eq (Option.some.inj rfl)) (WkOs.cons (WkO.eq (Option.some.inj rfl)) (WkOs.cons (WkO.eq (Option.some.inj rfl)) (WkOs.cons (WkO.eq (Option.some.inj rfl)) (WkOs.cons (WkO.eq (Option.some.inj rfl)) (WkOs.cons (WkO.eq (Option.some.inj rfl)) (WkOs.cons (WkO.eq (Option.some.inj rfl)) (WkOs.cons (WkO.eq (Option.some.inj rfl)) (WkOs.cons (WkO.eq (Option.some.inj rfl)) (WkOs.cons (WkO.eq (Option.some.inj rfl)) (WkOs.cons (WkO.eq (Option.some.inj (congrArg (fun X=>some (AO.rows true X)) rQ))) WkOs.nil)))))))))))))) (WkL.cons (Wk.eq rfl) (WkL.cons (Wk.eq rfl) (WkL.cons (Wk.eq rfl) WkL.nil))) ?_);exact rE (n_23,(IntKind.wrap IntKind.i64 (t22_24+(1:Int))),y_31.2) [(0,0),(1,1),(2,2),(3,3),(4,4),(5,5),(6,6),(7,7),(8,8),(9,9)] h
  exact qE [(0,0),(1,1),(2,2),(3,3),(4,4),(5,5),(6,6),(7,7),(8,8),(9,9)]
 exact qG [(0,0),(1,1),(2,2),(3,3),(4,4),(5,5),(6,6),(7,7),(8,8),(9,9)]
theorem ZhU {r} (h:ZgF F=some r):FZ ml 43 [] [] (AV.mapo 0) [(0,.mapo true [(aI r.1,AV.fn 54 []),(aI r.2.1,AV.fn 55 []),(aI r.2.2.1,AV.fn 56 []),(aI r.2.2.2.1,AV.fn 57 []),(aI r.2.2.2.2.1,AV.fn 58 []),(aI r.2.2.2.2.2.1,AV.fn 59 []),(aI r.2.2.2.2.2.2.1,AV.fn 60 []),(aI r.2.2.2.2.2.2.2.1,AV.fn 61 []),(aI r.2.2.2.2.2.2.2.2.1,AV.fn 62 []),(aI r.2.2.2.2.2.2.2.2.2,AV.fn 63 [])])]:=by
 refine fG Tryz.func43 ?_
 unfold ZgF at h
 exact qG [(0,64)]
end Go.T
