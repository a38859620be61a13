import Derived.Test.YthohllgoneadhaaGreatDoorCertD
set_option linter.unusedVariables false
set_option maxRecDepth 200000
set_option maxHeartbeats 4000000
namespace Go.T
open Go Go.Ab Go.Proofs
variable {ml:Gv} {F:Nat}
theorem Zeb {c c_1 c_2 c_3 c_4 c_5 c_6 c_7 c_8 c_9 c_10 l r} (h:Zbs F c c_1 c_2 c_3 c_4 c_5 c_6 c_7 c_8 c_9 c_10 l=some r):FZ ml 9 [(0,rF [aI c,aI c_1,sM Zab.c c_2,aI c_3,aI c_4,aI c_5,aI c_6,aI c_7,aI c_8,aI c_9,.str c_10,.osw 1 1]),(1,rT (cSl Zaa.c) l)] [pp 0] (.bool r) [(0,rF [aI c,aI c_1,sM Zab.c c_2,aI c_3,aI c_4,aI c_5,aI c_6,aI c_7,aI c_8,aI c_9,.str c_10,.osw 1 1]),(1,rT (cSl Zaa.c) l)]:=by
 refine fG Tryz.func9 ?_
 unfold Zbs at h
 (conv=>whnf);refine jS h fun o4 v=>jT [(0,pp 0),(3,aI 0)] [(0,rF [aI c,aI c_1,sM Zab.c c_2,aI c_3,aI c_4,aI c_5,aI c_6,aI c_7,aI c_8,aI c_9,.str c_10,.osw 1 1]),(1,rT (cSl Zaa.c) l)] 2 (fun h k4 e=>?_) fun h=>?_
 ·(conv=>whnf);left;(conv=>whnf);refine lI (fun n' x'=>ZaP F c_2 l n' x') (fun x'=>[(0,pp 0),(3,aI 0),(4,aI x')]) (fun x'=>[(0,rF [aI c,aI c_1,sM Zab.c c_2,aI c_3,aI c_4,aI c_5,aI c_6,aI c_7,aI c_8,aI c_9,.str c_10,.osw 1 1]),(1,rT (cSl Zaa.c) l)]) 2 (0:Int) [(0,0),(1,1)] h ?_;rintro n_48 i_49 h;rw [ZaP.eq_2] at h;(conv=>whnf);left;refine bS h (fun h=>?_) fun h=>?_
  ·(conv=>whnf);left;(conv=>whnf);refine gX h fun h=>?_;(conv=>whnf);refine oB h fun y_58 h=>?_;(conv=>whnf);left;(conv=>whnf);refine gX h fun h=>?_;(conv=>whnf);refine oB h fun y_59 h=>?_;(conv=>whnf);refine oB h fun y_60 h=>?_;(conv=>whnf);left;(conv=>whnf);refine cL h ZeI fun y_61 h=>?_;(conv=>whnf);refine aX ?_;(conv=>whnf);left;refine bS h (fun h=>?_) fun h=>?_
   ·cases h;cases k4;exact gI [(0,0),(1,1)]
   (conv=>whnf);refine gX h fun h=>?_;(conv=>whnf);refine oB h fun y_62 h=>?_;(conv=>whnf);refine oB h fun y_63 h=>?_;(conv=>whnf);refine gX h fun h=>?_;(conv=>whnf);refine oB h fun y_64 h=>?_;(conv=>whnf);left;(conv=>whnf);refine aX ?_;(conv=>whnf);refine jN h fun t77_65=>jM [(0,pp 0),(3,aI 0),(4,aI i_49),(77,.bool t77_65)] [(0,rF [aI c,aI c_1,sM Zab.c c_2,aI c_3,aI c_4,aI c_5,aI c_6,aI c_7,aI c_8,aI c_9,.str c_10,.osw 1 1]),(1,rT (cSl Zaa.c) l)] 2 (fun h=>qE [(0,0),(1,1)]) fun h=>?_;(conv=>whnf);left;refine bS h (fun h=>?_) fun h=>?_
   ·cases h;cases k4;exact gI [(0,0),(1,1)]
   exact rE (n_48,(IntKind.wrap IntKind.i64 (i_49+(1:Int)))) [(0,0),(1,1)] h
  exact qE [(0,0),(1,1)]
 (conv=>whnf);refine jN h fun n_88=>jM [(0,pp 0),(3,aI n_88)] [(0,rF [aI c,aI c_1,sM Zab.c c_2,aI c_3,aI c_4,aI c_5,aI c_6,aI c_7,aI c_8,aI c_9,.str c_10,.osw 1 1]),(1,rT (cSl Zaa.c) l)] 2 (fun h=>?_) fun h=>?_
 ·(conv=>whnf);left;(conv=>whnf);refine lI (fun n' x'=>ZaO F l n' x'.1 x'.2) (fun x'=>[(0,pp 0),(3,aI x'.1),(8,aI x'.2)]) (fun x'=>[(0,rF [aI c,aI c_1,sM Zab.c c_2,aI c_3,aI c_4,aI c_5,aI c_6,aI c_7,aI c_8,aI c_9,.str c_10,.osw 1 1]),(1,rT (cSl Zaa.c) l)]) 2 ((0:Int),(0:Int)) [(0,0),(1,1)] h ?_;rintro n_97 ⟨n_98,g_99⟩ h;dsimp only at h;rw [ZaO.eq_2] at h;(conv=>whnf);left;refine bS h (fun h=>?_) fun h=>?_
  ·(conv=>whnf);refine jN h fun n_107=>jM [(0,pp 0),(3,aI n_107),(8,aI g_99)] [(0,rF [aI c,aI c_1,sM Zab.c c_2,aI c_3,aI c_4,aI c_5,aI c_6,aI c_7,aI c_8,aI c_9,.str c_10,.osw 1 1]),(1,rT (cSl Zaa.c) l)] 2 (fun h=>?_) fun h=>?_
   ·(conv=>whnf);left;(conv=>whnf);refine jN h fun n_114=>jM [(0,pp 0),(3,aI n_114),(8,aI g_99)] [(0,rF [aI c,aI c_1,sM Zab.c c_2,aI c_3,aI c_4,aI c_5,aI c_6,aI c_7,aI c_8,aI c_9,.str c_10,.osw 1 1]),(1,rT (cSl Zaa.c) l)] 2 (fun h=>?_) fun h=>?_
    ·(conv=>whnf);left;(conv=>whnf);refine lI (fun n' x'=>ZaN F l g_99 n' x'.1 x'.2) (fun x'=>[(0,pp 0),(3,aI x'.1),(8,aI g_99),(9,aI x'.2)]) (fun x'=>[(0,rF [aI c,aI c_1,sM Zab.c c_2,aI c_3,aI c_4,aI c_5,aI c_6,aI c_7,aI c_8,aI c_9,.str c_10,.osw 1 1]),(1,rT (cSl Zaa.c) l)]) 2 (n_98,(0:Int)) [(0,0),(1,1)] h ?_;rintro n_121 ⟨n_122,k_123⟩ h;dsimp only at h;rw [ZaN.eq_2] at h;(conv=>whnf);refine gX h fun h=>?_;(conv=>whnf);refine oB h fun y_124 h=>?_;(conv=>whnf);refine oB h fun y_125 h=>?_;(conv=>whnf);left;refine bS h (fun h=>?_) fun h=>?_
     ·(conv=>whnf);refine jN h fun n_129=>jM [(0,pp 0),(3,aI n_129),(8,aI g_99),(9,aI k_123)] [(0,rF [aI c,aI c_1,sM Zab.c c_2,aI c_3,aI c_4,aI c_5,aI c_6,aI c_7,aI c_8,aI c_9,.str c_10,.osw 1 1]),(1,rT (cSl Zaa.c) l)] 2 (fun h=>?_) fun h=>?_
      ·(conv=>whnf);left;(conv=>whnf);refine gX h fun h=>?_;(conv=>whnf);refine oB h fun y_130 h=>?_;(conv=>whnf);refine oB h fun y_131 h=>?_;(conv=>whnf);refine gX h fun h=>?_;(conv=>whnf);refine oB h fun y_132 h=>?_;exact qE [(0,0),(1,1)]
      exact rE (n_121,n_129,(IntKind.wrap IntKind.i64 (k_123+(1:Int)))) [(0,0),(1,1)] h
     exact qE [(0,0),(1,1)]
    exact qE [(0,0),(1,1)]
   exact rE (n_97,n_107,(IntKind.wrap IntKind.i64 (g_99+(1:Int)))) [(0,0),(1,1)] h
  exact qE [(0,0),(1,1)]
 exact qG [(0,0),(1,1)]
theorem Zen {c c_1 c_2 c_3 c_4 c_5 c_6 c_7 c_8 c_9 c_10 l r} (h:Zbx F c c_1 c_2 c_3 c_4 c_5 c_6 c_7 c_8 c_9 c_10 l=some r):FZ ml 10 [(0,rF [aI c,aI c_1,sM Zab.c c_2,aI c_3,aI c_4,aI c_5,aI c_6,aI c_7,aI c_8,aI c_9,.str c_10,.osw 1 1]),(1,rT (cSl Zaa.c) l)] [pp 0] (.tup [.osw 2 8,.osw 3 5]) [(0,rF [aI c,aI c_1,sM Zab.c c_2,aI c_3,aI c_4,aI c_5,aI c_6,aI c_7,aI c_8,aI c_9,.str c_10,.osw 1 1]),(1,rT (cSl Zaa.c) l),(2,rT Zaf.c r.1),(3,rT Zac.c r.2)]:=by
 refine fG Tryz.func10 ?_
 unfold Zbx at h
 (conv=>whnf);refine jN h fun ⟨l_130,l_131⟩=>jM [(4,.osw 2 8),(5,.osw 3 5)] [(0,rF [aI c,aI c_1,sM Zab.c c_2,aI c_3,aI c_4,aI c_5,aI c_6,aI c_7,aI c_8,aI c_9,.str c_10,.osw 1 1]),(1,rT (cSl Zaa.c) l),(2,rT Zaf.c l_130),(3,rT Zac.c l_131)] 4 (fun h=>?_) fun h=>?_
 ·(conv=>whnf);left;(conv=>whnf);refine lI (fun n' x'=>ZaH F c_2 l n' x'.1 x'.2.1 x'.2.2) (fun x'=>[(0,pp 0),(4,.osw 2 8),(5,.osw 3 5),(6,aI x'.1)]) (fun x'=>[(0,rF [aI c,aI c_1,sM Zab.c c_2,aI c_3,aI c_4,aI c_5,aI c_6,aI c_7,aI c_8,aI c_9,.str c_10,.osw 1 1]),(1,rT (cSl Zaa.c) l),(2,rT Zaf.c x'.2.1),(3,rT Zac.c x'.2.2)]) 4 ((0:Int),[],[]) [(0,0),(1,1),(2,24),(3,32)] h ?_;rintro n_197 ⟨i_198,l_199,l_200⟩ h;dsimp only at h;rw [ZaH.eq_2] at h;(conv=>whnf);left;refine bS h (fun h=>?_) fun h=>?_
  ·(conv=>whnf);left;(conv=>whnf);refine gX h fun h=>?_;(conv=>whnf);refine oB h fun y_234 h=>?_;(conv=>whnf);left;(conv=>whnf);refine gX h fun h=>?_;(conv=>whnf);refine oB h fun y_235 h=>?_;(conv=>whnf);refine oB h fun y_236 h=>?_;(conv=>whnf);left;(conv=>whnf);refine cL h ZeI fun y_237 h=>?_;(conv=>whnf);refine aX ?_;(conv=>whnf);left;refine bS h (fun h=>?_) fun h=>?_
   ·(conv=>whnf);refine gX h fun h=>?_;(conv=>whnf);refine oB h fun y_259 h=>?_;(conv=>whnf);refine oB h fun y_260 h=>?_;(conv=>whnf);refine gX h fun h=>?_;(conv=>whnf);refine oB h fun y_261 h=>?_;(conv=>whnf);refine aX ?_;(conv=>whnf);refine aX ?_;(conv=>whnf);refine gS h fun h=>?_;(conv=>whnf);refine aX ?_;(conv=>whnf);refine gX h fun h=>?_;(conv=>whnf);refine oB h fun y_262 h=>?_;(conv=>whnf);refine oB h fun y_263 h=>?_;(conv=>whnf);refine gX h fun h=>?_;(conv=>whnf);refine oB h fun y_264 h=>?_;(conv=>whnf);left;obtain ⟨y_265,hy,h⟩:=ZbE h;refine ⟨_,_,(Zfz hy),Or.inr ⟨[3],rfl,?_⟩⟩;(conv=>whnf);refine aX ?_;exact rE (n_197,(IntKind.wrap IntKind.i64 (i_198+(1:Int))),(l_199++y_261.Jobs),y_265.2) [(0,0),(1,1),(2,380),(3,508)] h
   exact rE (n_197,(IntKind.wrap IntKind.i64 (i_198+(1:Int))),l_199,l_200) [(0,0),(1,1),(2,2),(3,3)] h
  exact qE [(0,0),(1,1),(2,2),(3,3)]
 exact qG [(0,0),(1,1),(2,2),(3,3)]
theorem Zfk {groups jobs seen script r} (h:ZbZ F groups jobs seen script=some r):FZ ml 3 [] [aI groups,sM Zaf.c jobs,sM Zac.c seen,sM Zar.c script] (.bool r) []:=by
 refine fA Tryz.func3 ?_
 unfold ZbZ at h
 (conv=>whnf);left;(conv=>whnf);refine cL h Zgm fun y_0 h=>?_;(conv=>whnf);left;refine bS h (fun h=>qR) fun h=>?_;(conv=>whnf);left;(conv=>whnf);refine cR h ZfW fun y_1 h=>?_;(conv=>whnf);refine Or.inr (ZjC 11 1 _ rfl rfl ?_);(conv=>whnf);refine jN h fun t28_2=>jM [(1,sM Zaf.c jobs),(2,sM Zac.c seen),(3,sM Zar.c script),(9,pp 0),(28,.bool t28_2)] [(0,rF [aI y_1.1,aI y_1.2.1,sM Zab.c y_1.2.2.1,aI y_1.2.2.2.1,aI y_1.2.2.2.2.1,aI y_1.2.2.2.2.2.1,aI y_1.2.2.2.2.2.2.1,aI y_1.2.2.2.2.2.2.2.1,aI y_1.2.2.2.2.2.2.2.2.1,aI y_1.2.2.2.2.2.2.2.2.2.1,.str y_1.2.2.2.2.2.2.2.2.2.2.1,.osw 1 1]),(1,rT (cSl Zaa.c) y_1.2.2.2.2.2.2.2.2.2.2.2.2)] 2 (fun h=>qE [(0,88),(1,56)]) fun h=>?_;(conv=>whnf);left;refine bS h (fun h=>qR) fun h=>?_;(conv=>whnf);refine jN h fun ⟨t35_5,c_6,c_7,c_8,c_9,c_10,c_11,c_12,c_13,c_14,c_15,c_16,l_17⟩=>jM [(1,sM Zaf.c jobs),(2,sM Zac.c seen),(9,pp 0),(35,.bool t35_5)] [(0,rF [aI c_6,aI c_7,sM Zab.c c_8,aI c_9,aI c_10,aI c_11,aI c_12,aI c_13,aI c_14,aI c_15,.str c_16,.osw 1 1]),(1,rT (cSl Zaa.c) l_17)] 2 (fun h=>?_) fun h=>?_
 ·(conv=>whnf);left;(conv=>whnf);refine cG [0,1] h Zea fun y_18 h=>?_;(conv=>whnf);refine bS h (fun h=>qE [(0,0),(1,1)]) fun h=>?_;(conv=>whnf);exact cG [0,1] h Zeb fun y_19 h=>qE [(0,0),(1,1)]
 (conv=>whnf);left;refine bS h (fun h=>qR) fun h=>?_;(conv=>whnf);refine cG [0,1] h Zen fun y_20 h=>?_;(conv=>whnf);left;(conv=>whnf);left;(conv=>whnf);refine cL h ZeJ fun y_21 h=>?_;(conv=>whnf);refine bS h (fun h=>?_) fun h=>?_
 ·(conv=>whnf);left;(conv=>whnf);exact cL h Zgl fun y_22 h=>qR
 exact qR
end Go.T
