import Derived.Test.YthohllgoneadhaaGreatDoorCertB
set_option linter.unusedVariables false
set_option maxRecDepth 200000
set_option maxHeartbeats 4000000
namespace Go.T
open Go Go.Ab Go.Proofs
variable {ml:Gv} {F:Nat}
theorem ZeY {o_ l r} (h:Za0 F o_ l=some r):FZ ml 65 [(0,rF [.osw 1 7]),(1,rT Zaa.c l)] [pp 0,.agg (Zae.c o_)] (.tup [.agg (Zam.c r.1),.agg (Zaa.c r.2.1)]) [(0,rF [.osw 2 7]),(2,rT Zaa.c r.2.2)]:=by
 refine fG Tryz.func65 ?_
 unfold Za0 at h
 (conv=>whnf);left;(conv=>whnf);left;(conv=>whnf);left;(conv=>whnf);refine jN h fun t19_1=>jM [(0,pp 0),(3,pp 2),(4,pp 3),(5,pp 4),(19,.bool t19_1)] [(0,rF [.osw 1 7]),(1,rT Zaa.c l),(2,rF (Zae.c o_)),(3,rF [aI 0,aI 0,.esl]),(4,rF zr3)] 5 (fun h=>?_) fun h=>?_
 ·(conv=>whnf);left;(conv=>whnf);left;(conv=>whnf);exact cL h Zgo fun y_2 h=>qE [(0,0),(1,1),(2,8),(3,16),(4,24)]
 (conv=>whnf);left;refine bS h (fun h=>?_) fun h=>?_
 ·(conv=>whnf);left;(conv=>whnf);exact cR h Zad fun y_3 h=>qG [(0,0),(2,1)]
 (conv=>whnf);left;(conv=>whnf);refine cR h (fun h=>Zba (Zb3 h) rfl) fun y_4 h=>?_;(conv=>whnf);left;(conv=>whnf);refine cG [0,1] h Za7 fun y_5 h=>?_;(conv=>whnf);refine jN h fun gone_8=>jM [(0,pp 0),(4,pp 2),(5,pp 3),(6,pp 4),(7,aI y_5.1),(8,.bool y_5.2),(9,.bool gone_8)] [(0,rF [.osw 1 7]),(1,rT Zaa.c l),(2,rF [aI 0,aI 0,.esl]),(3,rF zr3),(4,rF [aI y_4.1,aI y_4.2.1,aI 3,.str y_4.2.2.2.1,.str y_4.2.2.2.2.1,sM Zaf.c y_4.2.2.2.2.2.1,sM Zac.c y_4.2.2.2.2.2.2])] 5 (fun h=>?_) fun h=>?_
 ·(conv=>whnf);left;refine bS h (fun h=>?_) fun h=>?_
  ·(conv=>whnf);refine gX h fun h=>?_;(conv=>whnf);refine oB h fun y_9 h=>?_;(conv=>whnf);refine oB h fun y_10 h=>?_;exact qE [(0,0),(1,1),(2,3),(3,4),(4,29)]
  exact qE [(0,0),(1,1),(2,3),(3,4),(4,29)]
 (conv=>whnf);refine jS h fun o20 l_86=>jT [(4,pp 2),(5,pp 3)] [(0,rF [.osw 4 7]),(2,rF [aI 0,aI 0,sM Zaf.c []]),(3,rF [aI 0,aI 0,aI 0,.str [],.str [],sM Zaf.c [],sM Zac.c []]),(4,rT Zaa.c l_86)] 5 (fun h k20 e=>?_) fun h=>?_
 ·(conv=>whnf);left;(conv=>whnf);refine jN h fun t57_89=>jM [(0,pp 0),(4,pp 2),(5,pp 3),(6,pp 4),(7,aI y_5.1),(8,.bool y_5.2),(9,.bool gone_8),(57,.bool t57_89)] [(0,rF [.osw 1 7]),(1,rT Zaa.c l),(2,rF [aI 0,aI 0,.esl]),(3,rF zr3),(4,rF [aI y_4.1,aI y_4.2.1,aI 3,.str y_4.2.2.2.1,.str y_4.2.2.2.2.1,sM Zaf.c y_4.2.2.2.2.2.1,sM Zac.c y_4.2.2.2.2.2.2])] 5 (fun h=>?_) fun h=>?_
  ·(conv=>whnf);left;refine bS h (fun h=>?_) fun h=>?_
   ·(conv=>whnf);refine gX h fun h=>?_;(conv=>whnf);refine oB h fun y_90 h=>?_;(conv=>whnf);refine oB h fun y_91 h=>?_;exact qE [(0,0),(1,1),(2,2),(3,3),(4,4)]
   exact qE [(0,0),(1,1),(2,2),(3,3),(4,4)]
  (conv=>whnf);left;refine bS h (fun h=>?_) fun h=>?_
  ·(conv=>whnf);left;(conv=>whnf);refine cR h Zad fun y_92 h=>?_;cases h;cases k20;exact gI [(0,0),(2,1)]
  (conv=>whnf);refine jN h fun t75_94=>jM [(0,pp 0),(4,pp 2),(5,pp 3),(6,pp 4),(7,aI y_5.1),(8,.bool y_5.2),(75,.bool t75_94)] [(0,rF [.osw 1 7]),(1,rT Zaa.c l),(2,rF [aI 0,aI 0,.esl]),(3,rF zr3),(4,rF [aI y_4.1,aI y_4.2.1,aI 3,.str y_4.2.2.2.1,.str y_4.2.2.2.2.1,sM Zaf.c y_4.2.2.2.2.2.1,sM Zac.c y_4.2.2.2.2.2.2])] 5 (fun h=>?_) fun h=>?_
  ·(conv=>whnf);left;refine bS h (fun h=>?_) fun h=>?_
   ·(conv=>whnf);left;(conv=>whnf);exact cL h ZcZ fun y_95 h=>qE [(0,0),(1,1),(2,2),(3,3),(4,4)]
   exact qE [(0,0),(1,1),(2,2),(3,3),(4,4)]
  (conv=>whnf);left;refine bS h (fun h=>?_) fun h=>?_
  ·(conv=>whnf);left;(conv=>whnf);refine cR h Zad fun y_96 h=>?_;cases h;cases k20;exact gI [(0,0),(2,1)]
  (conv=>whnf);refine jN h fun t88_99=>jM [(0,pp 0),(4,pp 2),(5,pp 3),(6,pp 4),(7,aI y_5.1),(8,.bool y_5.2),(88,.bool t88_99)] [(0,rF [.osw 1 7]),(1,rT Zaa.c l),(2,rF [aI 0,aI 0,.esl]),(3,rF zr3),(4,rF [aI y_4.1,aI y_4.2.1,aI 3,.str y_4.2.2.2.1,.str y_4.2.2.2.2.1,sM Zaf.c y_4.2.2.2.2.2.1,sM Zac.c y_4.2.2.2.2.2.2])] 5 (fun h=>?_) fun h=>?_
  ·(conv=>whnf);left;refine bS h (fun h=>?_) fun h=>?_
   ·(conv=>whnf);refine gX h fun h=>?_;(conv=>whnf);refine oB h fun y_100 h=>?_;(conv=>whnf);refine oB h fun y_101 h=>?_;exact qE [(0,0),(1,1),(2,2),(3,3),(4,4)]
   exact qE [(0,0),(1,1),(2,2),(3,3),(4,4)]
  (conv=>whnf);left;refine bS h (fun h=>?_) fun h=>?_
  ·(conv=>whnf);left;(conv=>whnf);refine cR h Zad fun y_102 h=>?_;cases h;cases k20;exact gI [(0,0),(2,1)]
  (conv=>whnf);refine jN h fun t106_105=>jM [(0,pp 0),(4,pp 2),(5,pp 3),(6,pp 4),(7,aI y_5.1),(8,.bool y_5.2),(106,.bool t106_105)] [(0,rF [.osw 1 7]),(1,rT Zaa.c l),(2,rF [aI 0,aI 0,.esl]),(3,rF zr3),(4,rF [aI y_4.1,aI y_4.2.1,aI 3,.str y_4.2.2.2.1,.str y_4.2.2.2.2.1,sM Zaf.c y_4.2.2.2.2.2.1,sM Zac.c y_4.2.2.2.2.2.2])] 5 (fun h=>?_) fun h=>?_
  ·(conv=>whnf);left;refine bS h (fun h=>?_) fun h=>?_
   ·(conv=>whnf);refine gX h fun h=>?_;(conv=>whnf);refine oB h fun y_106 h=>?_;(conv=>whnf);refine oB h fun y_107 h=>?_;exact qE [(0,0),(1,1),(2,2),(3,3),(4,4)]
   exact qE [(0,0),(1,1),(2,2),(3,3),(4,4)]
  (conv=>whnf);left;refine bS h (fun h=>?_) fun h=>?_
  ·(conv=>whnf);left;(conv=>whnf);refine cR h Zad fun y_108 h=>?_;cases h;cases k20;exact gI [(0,0),(2,1)]
  (conv=>whnf);refine jN h fun t124_111=>jM [(0,pp 0),(4,pp 2),(5,pp 3),(6,pp 4),(7,aI y_5.1),(8,.bool y_5.2),(124,.bool t124_111)] [(0,rF [.osw 1 7]),(1,rT Zaa.c l),(2,rF [aI 0,aI 0,.esl]),(3,rF zr3),(4,rF [aI y_4.1,aI y_4.2.1,aI 3,.str y_4.2.2.2.1,.str y_4.2.2.2.2.1,sM Zaf.c y_4.2.2.2.2.2.1,sM Zac.c y_4.2.2.2.2.2.2])] 5 (fun h=>?_) fun h=>?_
  ·(conv=>whnf);left;refine bS h (fun h=>?_) fun h=>?_
   ·(conv=>whnf);refine gX h fun h=>?_;(conv=>whnf);refine oB h fun y_112 h=>?_;(conv=>whnf);refine oB h fun y_113 h=>?_;exact qE [(0,0),(1,1),(2,2),(3,3),(4,4)]
   exact qE [(0,0),(1,1),(2,2),(3,3),(4,4)]
  (conv=>whnf);left;refine bS h (fun h=>?_) fun h=>?_
  ·(conv=>whnf);left;(conv=>whnf);refine cR h Zad fun y_114 h=>?_;cases h;cases k20;exact gI [(0,0),(2,1)]
  (conv=>whnf);left;refine bS h (fun h=>?_) fun h=>?_
  ·(conv=>whnf);refine gX h fun h=>?_;(conv=>whnf);refine oB h fun y_115 h=>?_;(conv=>whnf);refine oB h fun y_116 h=>?_;(conv=>whnf);refine aX ?_;cases h;cases e;exact eW [(0,0),(2,2),(3,3),(4,1)]
  (conv=>whnf);refine jN h fun t149_118=>jM [(0,pp 0),(4,pp 2),(5,pp 3),(6,pp 4),(7,aI y_5.1),(149,.bool t149_118)] [(0,rF [.osw 1 7]),(1,rT Zaa.c l),(2,rF [aI 0,aI 0,.esl]),(3,rF zr3),(4,rF [aI y_4.1,aI y_4.2.1,aI 3,.str y_4.2.2.2.1,.str y_4.2.2.2.2.1,sM Zaf.c y_4.2.2.2.2.2.1,sM Zac.c y_4.2.2.2.2.2.2])] 5 (fun h=>?_) fun h=>?_
  ·(conv=>whnf);left;(conv=>whnf);left;(conv=>whnf);exact cL h ZcZ fun y_119 h=>qE [(0,0),(1,1),(2,2),(3,3),(4,4)]
  (conv=>whnf);left;refine bS h (fun h=>?_) fun h=>?_
  ·(conv=>whnf);left;(conv=>whnf);refine cR h Zad fun y_120 h=>?_;cases h;cases k20;exact gI [(0,0),(2,1)]
  (conv=>whnf);left;(conv=>whnf);refine cG [1,61] h ZaB fun y_121 h=>?_;(conv=>whnf);left;(conv=>whnf);refine aX ?_;cases h;cases e;exact eW [(0,0),(1,1),(2,2),(3,3),(4,71)]
 (conv=>whnf);left;(conv=>whnf);exact cR h Zad fun y_122 h=>qG [(0,0),(1,1),(2,4)]
theorem ZfI {o_ l r} (h:Zbc F o_ l=some r):FZ ml 66 [(0,rF [.osw 1 7]),(1,rT Zaa.c l)] [pp 0,.agg (Zae.c o_)] (.tup [.agg (Zam.c r.1),.agg (Zaa.c r.2.1)]) [(0,rF [.osw 1 7]),(1,rT Zaa.c r.2.2)]:=by
 refine fG Tryz.func66 ?_
 unfold Zbc at h
 (conv=>whnf);left;(conv=>whnf);left;(conv=>whnf);left;obtain ⟨y_0,hy,h⟩:=ZbE h;rcases y_0 with y_0 | y_0
 ·replace h:=Zc9 h;(conv=>whnf);refine cg [0,1] (ZaF hy) ?_;(conv=>whnf);left;refine bF h fun h=>?_;(conv=>whnf);left;(conv=>whnf);exact cR h Zad fun y_1 h=>qG [(0,0),(1,1)]
 replace h:=Zc8 h;(conv=>whnf);refine cg [0,1] (ZaE hy) ?_;(conv=>whnf);left;refine bS h (fun h=>?_) fun h=>?_
 ·(conv=>whnf);left;(conv=>whnf);exact cR h Zad fun y_2 h=>qG [(0,0),(1,1)]
 (conv=>whnf);refine oB h fun y_3 h=>?_;(conv=>whnf);left;refine bS h (fun h=>?_) fun h=>?_
 ·(conv=>whnf);left;(conv=>whnf);exact cR h Zad fun y_4 h=>qG [(0,0),(1,1)]
 (conv=>whnf);refine oB h fun y_5 h=>?_;(conv=>whnf);left;(conv=>whnf);refine cR h Zad fun y_6 h=>?_;cases h;exact gE [(0,0),(1,1)]
theorem Zc5 {id l r} (h:ZbL F id l=some r):FZ ml 84 [(0,(AO.rows false [[(AV.osw 1 7)]])),(1,(AO.rows true (List.map Zaa.c l)))] [(AV.ptr 0 0 0),aI id] (AV.tup []) [(0,(AO.rows false [[(AV.osw 1 7)]])),(1,(AO.rows true (List.map Zaa.c r)))]:=by
 refine ZkF 2000 Tryz.func84 rfl (by kernel_rfl) mixed (by show 2≤17;decide) (by show 2≤W;decide) rfl ?_
 unfold ZbL at h
 conv=>whnf
 obtain ⟨y_0,hy,h⟩:=ZbE h
 rcases y_0 with y_0 | y_0
 ·replace h:=Zc9 h
  refine Or.inr (Zjw [0,1] (Za2 hy) rfl rfl rfl rfl ?_)
  conv=>whnf
  cases h
 replace h:=Zc8 h
 refine Or.inr (Zjw [0,1] (Za1 hy) rfl rfl rfl rfl ?_)
 conv=>whnf
 obtain ⟨y_1,hy1,h⟩:=ZbE h
 refine opt_i (Zaa.c y_1) (getE rfl hy1) ?_
 conv=>whnf
 obtain ⟨y_2,hy2,h⟩:=ZbE h
 have hi:y_0<l.length:=(List.getElem?_eq_some_iff.1 hy1).1
 refine opt_i (Zaa.c y_2) (getE (by first | (simp;done) | rfl | (rw [List.map_set];rfl)) hy2) ?_
 conv=>whnf
 obtain ⟨y_3,hy3,h⟩:=ZbE h
 refine opt_i (setAt (Zaa.c y_2) 5 [AV.esl]) (List.getElem?_set_self (by simpa using hi)) ?_
 conv=>whnf
 cases h
 rw [List.getElem?_set_self (by simpa using hi)] at hy3
 cases hy3
 exact ZpE [(0,0),(1,1)] (Wk.eq rfl) (WkOs.cons (WkO.eq (Option.some.inj rfl)) (WkOs.cons (WkO.r (WkR.setm (WkR.setm (WkR.of_eq (by first | (simp;done) | rfl | (rw [List.map_set];rfl))) (by repeat first | exact WkL.nil | refine WkL.cons (by first | exact Wk.eq rfl | exact Wk.esl) ?_)) (by repeat first | exact WkL.nil | refine WkL.cons (by first | exact Wk.eq rfl | exact Wk.esl) ?_))) trivial)) rfl
theorem Zfa {o_ l r} (h:ZaM F o_ l=some r):FZ ml 67 [(0,rF [.osw 1 7]),(1,rT Zaa.c l)] [pp 0,.agg (Zae.c o_)] (.tup [.agg (Zam.c r.1),.agg (Zaa.c r.2.1)]) [(0,rF [.osw 2 7]),(2,rT Zaa.c r.2.2)]:=by
 refine fG Tryz.func67 ?_
 unfold ZaM at h
 (conv=>whnf);left;(conv=>whnf);left;(conv=>whnf);left;(conv=>whnf);refine jN h fun t20_0=>jM [(0,pp 0),(3,pp 2),(4,pp 3),(5,pp 4),(20,.bool t20_0)] [(0,rF [.osw 1 7]),(1,rT Zaa.c l),(2,rF (Zae.c o_)),(3,rF [aI 0,aI 0,.esl]),(4,rF zr3)] 5 (fun h=>qE [(0,0),(1,1),(2,8),(3,16),(4,24)]) fun h=>?_;(conv=>whnf);left;refine bS h (fun h=>?_) fun h=>?_
 ·(conv=>whnf);left;(conv=>whnf);exact cR h Zad fun y_1 h=>qG [(0,0),(2,1)]
 (conv=>whnf);refine cG [0,1] h Za7 fun y_2 h=>?_;(conv=>whnf);refine jS h fun o4 l_51=>jT [(4,pp 2),(5,pp 3)] [(0,rF [.osw 4 7]),(2,rF [aI 0,aI 0,sM Zaf.c []]),(3,rF [aI 0,aI 0,aI 0,.str [],.str [],sM Zaf.c [],sM Zac.c []]),(4,rT Zaa.c l_51)] 5 (fun h k4 e=>?_) fun h=>?_
 ·(conv=>whnf);left;(conv=>whnf);refine jN h fun t35_52=>jM [(0,pp 0),(3,pp 2),(4,pp 3),(5,pp 4),(6,aI y_2.1),(7,.bool y_2.2),(35,.bool t35_52)] [(0,rF [.osw 1 7]),(1,rT Zaa.c l),(2,rF (Zae.c o_)),(3,rF [aI 0,aI 0,.esl]),(4,rF zr3)] 5 (fun h=>qE [(0,0),(1,1),(2,2),(3,3),(4,4)]) fun h=>?_;(conv=>whnf);left;refine bS h (fun h=>?_) fun h=>?_
  ·(conv=>whnf);left;(conv=>whnf);refine cR h Zad fun y_53 h=>?_;cases h;cases k4;exact gI [(0,0),(2,1)]
  (conv=>whnf);left;refine bS h (fun h=>?_) fun h=>?_
  ·(conv=>whnf);left;(conv=>whnf);left;obtain ⟨y_54,hy,h⟩:=ZbE h;refine Or.inr (Zqu [1,117] (ZaB hy) rfl rfl (WkOs.cons (WkO.eq (Option.some.inj rfl)) (WkOs.cons (WkO.r (WkR.cons (WkL.cons (Wk.eq rQ) (WkL.cons (Wk.eq rQ) (WkL.cons (Wk.eq rQ) (WkL.cons (Wk.eq rQ) (WkL.cons (Wk.eq rQ) (WkL.cons Wk.esl (WkL.cons Wk.esl WkL.nil))))))) (WkR.of_eq rQ))) WkOs.nil)) (WkL.cons (Wk.eq rfl) (WkL.cons (Wk.eq rfl) (WkL.cons (Wk.eq rfl) WkL.nil))) ?_);(conv=>whnf);left;(conv=>whnf);refine aX ?_;cases h;cases e;exact eW [(0,0),(1,1),(2,3),(3,4),(4,127)]
  (conv=>whnf);refine gX h fun h=>?_;(conv=>whnf);refine oB h fun y_55 h=>?_;(conv=>whnf);refine oB h fun y_56 h=>?_;(conv=>whnf);left;refine bS h (fun h=>?_) fun h=>?_
  ·(conv=>whnf);refine gX h fun h=>?_;(conv=>whnf);refine oB h fun y_57 h=>?_;(conv=>whnf);refine oB h fun y_58 h=>?_;(conv=>whnf);refine gX h fun h=>?_;(conv=>whnf);refine oB h fun y_59 h=>?_;(conv=>whnf);refine oB h fun y_60 h=>?_;(conv=>whnf);refine aX ?_;cases h;cases e;exact eW [(0,0),(2,3),(3,4),(4,1)]
  (conv=>whnf);refine gX h fun h=>?_;(conv=>whnf);refine oB h fun y_61 h=>?_;(conv=>whnf);refine oB h fun y_62 h=>?_;(conv=>whnf);refine aX ?_;(conv=>whnf);left;refine bS h (fun h=>?_) fun h=>?_
  ·(conv=>whnf);left;(conv=>whnf);refine cR h Zad fun y_63 h=>?_;cases h;cases k4;exact gI [(0,0),(2,1)]
  (conv=>whnf);refine gX h fun h=>?_;(conv=>whnf);refine oB h fun y_64 h=>?_;(conv=>whnf);refine oB h fun y_65 h=>?_;(conv=>whnf);left;refine bS h (fun h=>?_) fun h=>?_
  ·(conv=>whnf);left;(conv=>whnf);refine cR h Zad fun y_66 h=>?_;cases h;cases k4;exact gI [(0,0),(2,1)]
  (conv=>whnf);refine cG [0,1] h Zc5 fun y_67 h=>?_;cases h;cases e;exact eW [(0,0),(2,3),(3,4),(4,1)]
 (conv=>whnf);left;(conv=>whnf);exact cR h Zad fun y_68 h=>qG [(0,0),(1,1),(2,4)]
theorem Zb1 {id l r} (h:Zbi F id l=some r):FZ ml 85 [(0,rF [.osw 1 7]),(1,rT Zaa.c l)] [pp 0,aI id] (.bool r) [(0,rF [.osw 1 7]),(1,rT Zaa.c l)]:=by
 refine fG Tryz.func85 ?_
 unfold Zbi at h
 (conv=>whnf);exact cG [0,1] h Za7 fun y_0 h=>qG [(0,0),(1,1)]
theorem ZeX {j b r} (h:Zcq F j b=some r):FZ ml 86 [(0,rF (Zae.c b))] [.agg (Zaf.c j),pp 0] (.bool r) [(0,rF (Zae.c b))]:=by
 refine fG Tryz.func86 ?_
 unfold Zcq at h
 exact qG [(0,0)]
theorem Za9 {s b r} (h:Zas F s b=some r):FZ ml 74 [(0,rF (Zae.c b))] [sM Zaf.c s,AV.fn 86 ((AV.ptr 0 0 0)::[])] (aI r) [(0,rF (Zae.c b))]:=by
 refine fG Tryz.func74 ?_
 unfold Zas at h
 (conv=>whnf);refine jS h fun o0 v=>jT [] [(0,rF (Zae.c b))] 1 (fun h k0 e=>?_) fun h=>?_
 ·(conv=>whnf);left;(conv=>whnf);refine lI (fun n' x'=>Zau F s b n' x') (fun x'=>[(0,sM Zaf.c s),(1,AV.fn 86 ((AV.ptr 0 0 0)::[])),(7,aI (@Nat.cast Int instNatCastInt (List.length (List.map Zaf.c s)))),(8,aI x')]) (fun x'=>[(0,rF (Zae.c b))]) 1 (0:Int) [(0,0)] h ?_;rintro n_12 t8_13 h;rw [Zau.eq_2] at h;(conv=>whnf);left;refine bS h (fun h=>?_) fun h=>?_
  ·(conv=>whnf);left;(conv=>whnf);refine gX h fun h=>?_;(conv=>whnf);refine oB h fun y_16 h=>?_;(conv=>whnf);refine cG [0] h ZeX fun y_17 h=>?_;(conv=>whnf);left;refine bS h (fun h=>?_) fun h=>?_
   ·cases h;cases k0;exact gI [(0,0)]
   exact rE (n_12,(IntKind.wrap IntKind.i64 (t8_13+(1:Int)))) [(0,0)] h
  exact qE [(0,0)]
 exact qG [(0,0)]
theorem Zfq {o_ l r} (h:ZaX F o_ l=some r):FZ ml 68 [(0,rF [.osw 1 7]),(1,rT Zaa.c l)] [pp 0,.agg (Zae.c o_)] (.tup [.agg (Zam.c r.1),.agg (Zaa.c r.2.1)]) [(0,rF [.osw 2 7]),(2,rT Zaa.c r.2.2)]:=by
 refine fG Tryz.func68 ?_
 unfold ZaX at h
 (conv=>whnf);left;(conv=>whnf);left;(conv=>whnf);left;obtain ⟨y_0,hy,h⟩:=ZbE h;rcases y_0 with y_0 | y_0
 ·replace h:=Zc9 h;(conv=>whnf);refine cg [0,1] (Za2 hy) ?_;obtain ⟨y_1,hy,h⟩:=ZbE h;rcases y_1 with y_1 | y_1
  ·replace h:=Zc9 h;(conv=>whnf);refine cg [0,1] (Za2 hy) ?_;(conv=>whnf);refine aX ?_;(conv=>whnf);left;(conv=>whnf);refine aX ?_;(conv=>whnf);left;obtain ⟨y_2,hy,h⟩:=ZbE h;rcases y_2 with y_2 | y_2
   ·replace h:=Zc9 h;(conv=>whnf);refine cg [0,1] (ZaF hy) ?_;(conv=>whnf);left;(conv=>whnf);left;refine bF h fun h=>?_;(conv=>whnf);left;(conv=>whnf);exact cR h Zad fun y_4 h=>qG [(0,0),(2,1)]
   replace h:=Zc8 h;(conv=>whnf);refine cg [0,1] (ZaE hy) ?_;(conv=>whnf);left;(conv=>whnf);left;refine bS h (fun h=>?_) fun h=>?_
   ·(conv=>whnf);left;(conv=>whnf);exact cR h Zad fun y_22 h=>qG [(0,0),(2,1)]
   (conv=>whnf);refine oB h fun y_23 h=>?_;(conv=>whnf);left;refine bS h (fun h=>?_) fun h=>?_
   ·(conv=>whnf);left;(conv=>whnf);exact cR h Zad fun y_24 h=>qG [(0,0),(2,1)]
   (conv=>whnf);refine jN h fun t82_27=>jM [(0,pp 0),(3,pp 2),(4,pp 3),(5,pp 4),(6,AV.ptr 1 y_2.1 0),(82,.bool t82_27)] [(0,rF [.osw 1 7]),(1,rT Zaa.c l),(2,rF (Zae.c o_)),(3,rF [aI 0,aI 0,.esl]),(4,rF zr3)] 5 (fun h=>?_) fun h=>?_
   ·(conv=>whnf);left;(conv=>whnf);refine oB h fun y_28 h=>?_;(conv=>whnf);left;(conv=>whnf);exact cL h Zcy fun y_29 h=>qE [(0,0),(1,1),(2,8),(3,16),(4,24)]
   (conv=>whnf);left;refine bS h (fun h=>?_) fun h=>?_
   ·(conv=>whnf);left;(conv=>whnf);exact cR h Zad fun y_30 h=>qG [(0,0),(2,1)]
   (conv=>whnf);refine cG [0,1] h Zb1 fun y_31 h=>?_;(conv=>whnf);left;refine bS h (fun h=>?_) fun h=>?_
   ·(conv=>whnf);left;(conv=>whnf);exact cR h Zad fun y_32 h=>qG [(0,0),(2,1)]
   (conv=>whnf);refine jN h fun t107_36=>jM [(0,pp 0),(3,pp 2),(4,pp 3),(5,pp 4),(6,AV.ptr 1 y_2.1 0),(107,.bool t107_36)] [(0,rF [.osw 1 7]),(1,rT Zaa.c l),(2,rF (Zae.c o_)),(3,rF [aI 0,aI 0,.esl]),(4,rF zr3)] 5 (fun h=>?_) fun h=>?_
   ·(conv=>whnf);left;(conv=>whnf);refine oB h fun y_37 h=>?_;(conv=>whnf);left;(conv=>whnf);refine cL h ZeE fun y_38 h=>?_;(conv=>whnf);refine bS h (fun h=>qE [(0,0),(1,1),(2,2),(3,3),(4,4)]) fun h=>?_;(conv=>whnf);refine oB h fun y_39 h=>?_;exact qE [(0,0),(1,1),(2,2),(3,3),(4,4)]
   (conv=>whnf);left;refine bS h (fun h=>?_) fun h=>?_
   ·(conv=>whnf);left;(conv=>whnf);exact cR h Zad fun y_40 h=>qG [(0,0),(2,1)]
   (conv=>whnf);refine jN h fun t127_42=>jM [(0,pp 0),(3,pp 2),(4,pp 3),(5,pp 4),(6,AV.ptr 1 y_2.1 0),(127,.bool t127_42)] [(0,rF [.osw 1 7]),(1,rT Zaa.c l),(2,rF (Zae.c o_)),(3,rF [aI 0,aI 0,.esl]),(4,rF zr3)] 5 (fun h=>?_) fun h=>?_
   ·(conv=>whnf);left;(conv=>whnf);left;(conv=>whnf);exact cL h ZcZ fun y_43 h=>qE [(0,0),(1,1),(2,2),(3,3),(4,4)]
   (conv=>whnf);left;refine bS h (fun h=>?_) fun h=>?_
   ·(conv=>whnf);left;(conv=>whnf);exact cR h Zad fun y_44 h=>qG [(0,0),(2,1)]
   (conv=>whnf);refine oB h fun y_45 h=>?_;(conv=>whnf);refine cG [2] h Za9 fun y_46 h=>?_;(conv=>whnf);refine jN h fun n_48=>jM [(0,pp 0),(3,pp 2),(4,pp 3),(5,pp 4),(6,AV.ptr 1 y_2.1 0),(9,aI n_48)] [(0,rF [.osw 1 7]),(1,rT Zaa.c l),(2,rF (Zae.c o_)),(3,rF [aI 0,aI 0,.esl]),(4,rF zr3)] 5 (fun h=>?_) fun h=>?_
   ·(conv=>whnf);left;refine bS h (fun h=>?_) fun h=>?_
    ·(conv=>whnf);refine oB h fun y_49 h=>?_;exact qE [(0,0),(1,1),(2,2),(3,3),(4,4)]
    exact qE [(0,0),(1,1),(2,2),(3,3),(4,4)]
   (conv=>whnf);refine oB h fun y_50 h=>?_;(conv=>whnf);left;(conv=>whnf);refine cR h (fun h=>Zba (Zb3 h) rfl) fun y_51 h=>?_;(conv=>whnf);left;(conv=>whnf);refine aX ?_;(conv=>whnf);refine gX h fun h=>?_;(conv=>whnf);refine gS h fun h=>?_;(conv=>whnf);refine gS h fun h=>?_;(conv=>whnf);refine aX ?_;(conv=>whnf);refine oB h fun y_52 h=>?_;(conv=>whnf);refine aX ?_;(conv=>whnf);refine gX h fun h=>?_;(conv=>whnf);refine gX h fun h=>?_;(conv=>whnf);refine gS h fun h=>?_;(conv=>whnf);left;(conv=>whnf);obtain ⟨y_53,hy,h⟩:=ZbE h;refine ⟨_,_,(Zhi (cons2 (congrArg AV.sl rQ) rfl) (Zba (Zak hy) rfl)),Or.inr ⟨[],rfl,?_⟩⟩;(conv=>whnf);refine oB h fun y_54 h=>?_;(conv=>whnf);refine oB (c:=Zaa.c) h fun y_55 h=>?_;(conv=>whnf);refine oB (c:=Zaa.c) h fun y_56 h=>?_;(conv=>whnf);refine aX ?_;(conv=>whnf);refine cG [0,1] h Za7 fun y_57 h=>?_;(conv=>whnf);left;(conv=>whnf);refine cG [1,509] h ZaB fun y_58 h=>?_;(conv=>whnf);left;(conv=>whnf);refine aX ?_;(conv=>whnf);left;(conv=>whnf);exact cR h Zad fun y_59 h=>qG [(0,0),(1,1),(2,519)]
  replace h:=Zc8 h;(conv=>whnf);refine cg [0,1] (Za1 hy) ?_;(conv=>whnf);refine aX ?_;(conv=>whnf);left;(conv=>whnf);refine aX ?_;(conv=>whnf);left;obtain ⟨y_60,hy,h⟩:=ZbE h;rcases y_60 with y_60 | y_60
  ·replace h:=Zc9 h;(conv=>whnf);refine cg [0,1] (ZaF hy) ?_;(conv=>whnf);left;(conv=>whnf);left;refine bF h fun h=>?_;(conv=>whnf);left;(conv=>whnf);exact cR h Zad fun y_62 h=>qG [(0,0),(2,1)]
  replace h:=Zc8 h;(conv=>whnf);refine cg [0,1] (ZaE hy) ?_;(conv=>whnf);left;(conv=>whnf);left;refine bS h (fun h=>?_) fun h=>?_
  ·(conv=>whnf);left;(conv=>whnf);exact cR h Zad fun y_80 h=>qG [(0,0),(2,1)]
  (conv=>whnf);refine oB h fun y_81 h=>?_;(conv=>whnf);left;refine bS h (fun h=>?_) fun h=>?_
  ·(conv=>whnf);left;(conv=>whnf);exact cR h Zad fun y_82 h=>qG [(0,0),(2,1)]
  (conv=>whnf);refine jN h fun t82_85=>jM [(0,pp 0),(3,pp 2),(4,pp 3),(5,pp 4),(6,AV.ptr 1 y_60.1 0),(82,.bool t82_85)] [(0,rF [.osw 1 7]),(1,rT Zaa.c l),(2,rF (Zae.c o_)),(3,rF [aI 0,aI 0,.esl]),(4,rF zr3)] 5 (fun h=>?_) fun h=>?_
  ·(conv=>whnf);left;(conv=>whnf);refine oB h fun y_86 h=>?_;(conv=>whnf);left;(conv=>whnf);exact cL h Zcy fun y_87 h=>qE [(0,0),(1,1),(2,8),(3,16),(4,24)]
  (conv=>whnf);left;refine bS h (fun h=>?_) fun h=>?_
  ·(conv=>whnf);left;(conv=>whnf);exact cR h Zad fun y_88 h=>qG [(0,0),(2,1)]
  (conv=>whnf);refine cG [0,1] h Zb1 fun y_89 h=>?_;(conv=>whnf);left;refine bS h (fun h=>?_) fun h=>?_
  ·(conv=>whnf);left;(conv=>whnf);exact cR h Zad fun y_90 h=>qG [(0,0),(2,1)]
  (conv=>whnf);refine jN h fun t107_94=>jM [(0,pp 0),(3,pp 2),(4,pp 3),(5,pp 4),(6,AV.ptr 1 y_60.1 0),(107,.bool t107_94)] [(0,rF [.osw 1 7]),(1,rT Zaa.c l),(2,rF (Zae.c o_)),(3,rF [aI 0,aI 0,.esl]),(4,rF zr3)] 5 (fun h=>?_) fun h=>?_
  ·(conv=>whnf);left;(conv=>whnf);refine oB h fun y_95 h=>?_;(conv=>whnf);left;(conv=>whnf);refine cL h ZeE fun y_96 h=>?_;(conv=>whnf);refine bS h (fun h=>qE [(0,0),(1,1),(2,2),(3,3),(4,4)]) fun h=>?_;(conv=>whnf);refine oB h fun y_97 h=>?_;exact qE [(0,0),(1,1),(2,2),(3,3),(4,4)]
  (conv=>whnf);left;refine bS h (fun h=>?_) fun h=>?_
  ·(conv=>whnf);left;(conv=>whnf);exact cR h Zad fun y_98 h=>qG [(0,0),(2,1)]
  (conv=>whnf);refine jN h fun t127_100=>jM [(0,pp 0),(3,pp 2),(4,pp 3),(5,pp 4),(6,AV.ptr 1 y_60.1 0),(127,.bool t127_100)] [(0,rF [.osw 1 7]),(1,rT Zaa.c l),(2,rF (Zae.c o_)),(3,rF [aI 0,aI 0,.esl]),(4,rF zr3)] 5 (fun h=>?_) fun h=>?_
  ·(conv=>whnf);left;(conv=>whnf);left;(conv=>whnf);exact cL h ZcZ fun y_101 h=>qE [(0,0),(1,1),(2,2),(3,3),(4,4)]
  (conv=>whnf);left;refine bS h (fun h=>?_) fun h=>?_
  ·(conv=>whnf);left;(conv=>whnf);exact cR h Zad fun y_102 h=>qG [(0,0),(2,1)]
  (conv=>whnf);refine oB h fun y_103 h=>?_;(conv=>whnf);refine cG [2] h Za9 fun y_104 h=>?_;(conv=>whnf);refine jN h fun n_106=>jM [(0,pp 0),(3,pp 2),(4,pp 3),(5,pp 4),(6,AV.ptr 1 y_60.1 0),(9,aI n_106)] [(0,rF [.osw 1 7]),(1,rT Zaa.c l),(2,rF (Zae.c o_)),(3,rF [aI 0,aI 0,.esl]),(4,rF zr3)] 5 (fun h=>?_) fun h=>?_
  ·(conv=>whnf);left;refine bS h (fun h=>?_) fun h=>?_
   ·(conv=>whnf);refine oB h fun y_107 h=>?_;exact qE [(0,0),(1,1),(2,2),(3,3),(4,4)]
   exact qE [(0,0),(1,1),(2,2),(3,3),(4,4)]
  (conv=>whnf);refine oB h fun y_108 h=>?_;(conv=>whnf);left;(conv=>whnf);refine cR h (fun h=>Zba (Zb3 h) rfl) fun y_109 h=>?_;(conv=>whnf);left;(conv=>whnf);refine aX ?_;(conv=>whnf);refine gX h fun h=>?_;(conv=>whnf);refine gS h fun h=>?_;(conv=>whnf);refine gS h fun h=>?_;(conv=>whnf);refine aX ?_;(conv=>whnf);refine oB h fun y_110 h=>?_;(conv=>whnf);refine aX ?_;(conv=>whnf);refine gX h fun h=>?_;(conv=>whnf);refine gX h fun h=>?_;(conv=>whnf);refine gS h fun h=>?_;(conv=>whnf);left;(conv=>whnf);obtain ⟨y_111,hy,h⟩:=ZbE h;refine ⟨_,_,(Zhi (cons2 (congrArg AV.sl rQ) rfl) (Zba (Zak hy) rfl)),Or.inr ⟨[],rfl,?_⟩⟩;(conv=>whnf);refine oB h fun y_112 h=>?_;(conv=>whnf);refine oB (c:=Zaa.c) h fun y_113 h=>?_;(conv=>whnf);refine oB (c:=Zaa.c) h fun y_114 h=>?_;(conv=>whnf);refine aX ?_;(conv=>whnf);refine cG [0,1] h Za7 fun y_115 h=>?_;(conv=>whnf);left;(conv=>whnf);refine cG [1,509] h ZaB fun y_116 h=>?_;(conv=>whnf);left;(conv=>whnf);refine aX ?_;(conv=>whnf);left;(conv=>whnf);exact cR h Zad fun y_117 h=>qG [(0,0),(1,1),(2,519)]
 replace h:=Zc8 h;(conv=>whnf);refine cg [0,1] (Za1 hy) ?_;obtain ⟨y_118,hy,h⟩:=ZbE h;rcases y_118 with y_118 | y_118
 ·replace h:=Zc9 h;(conv=>whnf);refine cg [0,1] (Za2 hy) ?_;(conv=>whnf);refine aX ?_;(conv=>whnf);left;(conv=>whnf);refine aX ?_;(conv=>whnf);left;obtain ⟨y_119,hy,h⟩:=ZbE h;rcases y_119 with y_119 | y_119
  ·replace h:=Zc9 h;(conv=>whnf);refine cg [0,1] (ZaF hy) ?_;(conv=>whnf);left;(conv=>whnf);left;refine bF h fun h=>?_;(conv=>whnf);left;(conv=>whnf);exact cR h Zad fun y_121 h=>qG [(0,0),(2,1)]
  replace h:=Zc8 h;(conv=>whnf);refine cg [0,1] (ZaE hy) ?_;(conv=>whnf);left;(conv=>whnf);left;refine bS h (fun h=>?_) fun h=>?_
  ·(conv=>whnf);left;(conv=>whnf);exact cR h Zad fun y_139 h=>qG [(0,0),(2,1)]
  (conv=>whnf);refine oB h fun y_140 h=>?_;(conv=>whnf);left;refine bS h (fun h=>?_) fun h=>?_
  ·(conv=>whnf);left;(conv=>whnf);exact cR h Zad fun y_141 h=>qG [(0,0),(2,1)]
  (conv=>whnf);refine jN h fun t82_144=>jM [(0,pp 0),(3,pp 2),(4,pp 3),(5,pp 4),(6,AV.ptr 1 y_119.1 0),(82,.bool t82_144)] [(0,rF [.osw 1 7]),(1,rT Zaa.c l),(2,rF (Zae.c o_)),(3,rF [aI 0,aI 0,.esl]),(4,rF zr3)] 5 (fun h=>?_) fun h=>?_
  ·(conv=>whnf);left;(conv=>whnf);refine oB h fun y_145 h=>?_;(conv=>whnf);left;(conv=>whnf);exact cL h Zcy fun y_146 h=>qE [(0,0),(1,1),(2,8),(3,16),(4,24)]
  (conv=>whnf);left;refine bS h (fun h=>?_) fun h=>?_
  ·(conv=>whnf);left;(conv=>whnf);exact cR h Zad fun y_147 h=>qG [(0,0),(2,1)]
  (conv=>whnf);refine cG [0,1] h Zb1 fun y_148 h=>?_;(conv=>whnf);left;refine bS h (fun h=>?_) fun h=>?_
  ·(conv=>whnf);left;(conv=>whnf);exact cR h Zad fun y_149 h=>qG [(0,0),(2,1)]
  (conv=>whnf);refine jN h fun t107_153=>jM [(0,pp 0),(3,pp 2),(4,pp 3),(5,pp 4),(6,AV.ptr 1 y_119.1 0),(107,.bool t107_153)] [(0,rF [.osw 1 7]),(1,rT Zaa.c l),(2,rF (Zae.c o_)),(3,rF [aI 0,aI 0,.esl]),(4,rF zr3)] 5 (fun h=>?_) fun h=>?_
  ·(conv=>whnf);left;(conv=>whnf);refine oB h fun y_154 h=>?_;(conv=>whnf);left;(conv=>whnf);refine cL h ZeE fun y_155 h=>?_;(conv=>whnf);refine bS h (fun h=>qE [(0,0),(1,1),(2,2),(3,3),(4,4)]) fun h=>?_;(conv=>whnf);refine oB h fun y_156 h=>?_;exact qE [(0,0),(1,1),(2,2),(3,3),(4,4)]
  (conv=>whnf);left;refine bS h (fun h=>?_) fun h=>?_
  ·(conv=>whnf);left;(conv=>whnf);exact cR h Zad fun y_157 h=>qG [(0,0),(2,1)]
  (conv=>whnf);refine jN h fun t127_159=>jM [(0,pp 0),(3,pp 2),(4,pp 3),(5,pp 4),(6,AV.ptr 1 y_119.1 0),(127,.bool t127_159)] [(0,rF [.osw 1 7]),(1,rT Zaa.c l),(2,rF (Zae.c o_)),(3,rF [aI 0,aI 0,.esl]),(4,rF zr3)] 5 (fun h=>?_) fun h=>?_
  ·(conv=>whnf);left;(conv=>whnf);left;(conv=>whnf);exact cL h ZcZ fun y_160 h=>qE [(0,0),(1,1),(2,2),(3,3),(4,4)]
  (conv=>whnf);left;refine bS h (fun h=>?_) fun h=>?_
  ·(conv=>whnf);left;(conv=>whnf);exact cR h Zad fun y_161 h=>qG [(0,0),(2,1)]
  (conv=>whnf);refine oB h fun y_162 h=>?_;(conv=>whnf);refine cG [2] h Za9 fun y_163 h=>?_;(conv=>whnf);refine jN h fun n_165=>jM [(0,pp 0),(3,pp 2),(4,pp 3),(5,pp 4),(6,AV.ptr 1 y_119.1 0),(9,aI n_165)] [(0,rF [.osw 1 7]),(1,rT Zaa.c l),(2,rF (Zae.c o_)),(3,rF [aI 0,aI 0,.esl]),(4,rF zr3)] 5 (fun h=>?_) fun h=>?_
  ·(conv=>whnf);left;refine bS h (fun h=>?_) fun h=>?_
   ·(conv=>whnf);refine oB h fun y_166 h=>?_;exact qE [(0,0),(1,1),(2,2),(3,3),(4,4)]
   exact qE [(0,0),(1,1),(2,2),(3,3),(4,4)]
  (conv=>whnf);refine oB h fun y_167 h=>?_;(conv=>whnf);left;(conv=>whnf);refine cR h (fun h=>Zba (Zb3 h) rfl) fun y_168 h=>?_;(conv=>whnf);left;(conv=>whnf);refine aX ?_;(conv=>whnf);refine gX h fun h=>?_;(conv=>whnf);refine gS h fun h=>?_;(conv=>whnf);refine gS h fun h=>?_;(conv=>whnf);refine aX ?_;(conv=>whnf);refine oB h fun y_169 h=>?_;(conv=>whnf);refine aX ?_;(conv=>whnf);refine gX h fun h=>?_;(conv=>whnf);refine gX h fun h=>?_;(conv=>whnf);refine gS h fun h=>?_;(conv=>whnf);left;(conv=>whnf);obtain ⟨y_170,hy,h⟩:=ZbE h;refine ⟨_,_,(Zhi (cons2 (congrArg AV.sl rQ) rfl) (Zba (Zak hy) rfl)),Or.inr ⟨[],rfl,?_⟩⟩;(conv=>whnf);refine oB h fun y_171 h=>?_;(conv=>whnf);refine oB (c:=Zaa.c) h fun y_172 h=>?_;(conv=>whnf);refine oB (c:=Zaa.c) h fun y_173 h=>?_;(conv=>whnf);refine aX ?_;(conv=>whnf);refine cG [0,1] h Za7 fun y_174 h=>?_;(conv=>whnf);left;(conv=>whnf);refine cG [1,509] h ZaB fun y_175 h=>?_;(conv=>whnf);left;(conv=>whnf);refine aX ?_;(conv=>whnf);left;(conv=>whnf);exact cR h Zad fun y_176 h=>qG [(0,0),(1,1),(2,519)]
 replace h:=Zc8 h;(conv=>whnf);refine cg [0,1] (Za1 hy) ?_;(conv=>whnf);refine aX ?_;(conv=>whnf);refine jN h fun t53_180=>jM [(0,pp 0),(3,pp 2),(4,pp 3),(5,pp 4),(53,.bool t53_180)] [(0,rF [.osw 1 7]),(1,rT Zaa.c l),(2,rF (Zae.c o_)),(3,rF [aI 0,aI 0,.esl]),(4,rF zr3)] 5 (fun h=>?_) fun h=>?_
 ·(conv=>whnf);left;(conv=>whnf);refine oB h fun y_181 h=>?_;(conv=>whnf);refine bS h (fun h=>?_) fun h=>?_
  ·(conv=>whnf);refine oB h fun y_182 h=>?_;(conv=>whnf);refine bS h (fun h=>?_) fun h=>?_
   ·(conv=>whnf);refine oB h fun y_183 h=>?_;exact qE [(0,0),(1,1),(2,8),(3,16),(4,24)]
   exact qE [(0,0),(1,1),(2,8),(3,16),(4,24)]
  exact qE [(0,0),(1,1),(2,8),(3,16),(4,24)]
 (conv=>whnf);left;refine bS h (fun h=>?_) fun h=>?_
 ·(conv=>whnf);left;(conv=>whnf);exact cR h Zad fun y_184 h=>qG [(0,0),(2,1)]
 obtain ⟨y_185,hy,h⟩:=ZbE h;rcases y_185 with y_185 | y_185
 ·replace h:=Zc9 h;(conv=>whnf);refine cg [0,1] (ZaF hy) ?_;(conv=>whnf);left;(conv=>whnf);left;refine bF h fun h=>?_;(conv=>whnf);left;(conv=>whnf);exact cR h Zad fun y_187 h=>qG [(0,0),(2,1)]
 replace h:=Zc8 h;(conv=>whnf);refine cg [0,1] (ZaE hy) ?_;(conv=>whnf);left;(conv=>whnf);left;refine bS h (fun h=>?_) fun h=>?_
 ·(conv=>whnf);left;(conv=>whnf);exact cR h Zad fun y_205 h=>qG [(0,0),(2,1)]
 (conv=>whnf);refine oB h fun y_206 h=>?_;(conv=>whnf);left;refine bS h (fun h=>?_) fun h=>?_
 ·(conv=>whnf);left;(conv=>whnf);exact cR h Zad fun y_207 h=>qG [(0,0),(2,1)]
 (conv=>whnf);refine jN h fun t82_210=>jM [(0,pp 0),(3,pp 2),(4,pp 3),(5,pp 4),(6,AV.ptr 1 y_185.1 0),(82,.bool t82_210)] [(0,rF [.osw 1 7]),(1,rT Zaa.c l),(2,rF (Zae.c o_)),(3,rF [aI 0,aI 0,.esl]),(4,rF zr3)] 5 (fun h=>?_) fun h=>?_
 ·(conv=>whnf);left;(conv=>whnf);refine oB h fun y_211 h=>?_;(conv=>whnf);left;(conv=>whnf);exact cL h Zcy fun y_212 h=>qE [(0,0),(1,1),(2,2),(3,3),(4,4)]
 (conv=>whnf);left;refine bS h (fun h=>?_) fun h=>?_
 ·(conv=>whnf);left;(conv=>whnf);exact cR h Zad fun y_213 h=>qG [(0,0),(2,1)]
 (conv=>whnf);refine cG [0,1] h Zb1 fun y_214 h=>?_;(conv=>whnf);left;refine bS h (fun h=>?_) fun h=>?_
 ·(conv=>whnf);left;(conv=>whnf);exact cR h Zad fun y_215 h=>qG [(0,0),(2,1)]
 (conv=>whnf);refine jN h fun t107_219=>jM [(0,pp 0),(3,pp 2),(4,pp 3),(5,pp 4),(6,AV.ptr 1 y_185.1 0),(107,.bool t107_219)] [(0,rF [.osw 1 7]),(1,rT Zaa.c l),(2,rF (Zae.c o_)),(3,rF [aI 0,aI 0,.esl]),(4,rF zr3)] 5 (fun h=>?_) fun h=>?_
 ·(conv=>whnf);left;(conv=>whnf);refine oB h fun y_220 h=>?_;(conv=>whnf);left;(conv=>whnf);refine cL h ZeE fun y_221 h=>?_;(conv=>whnf);refine bS h (fun h=>qE [(0,0),(1,1),(2,2),(3,3),(4,4)]) fun h=>?_;(conv=>whnf);refine oB h fun y_222 h=>?_;exact qE [(0,0),(1,1),(2,2),(3,3),(4,4)]
 (conv=>whnf);left;refine bS h (fun h=>?_) fun h=>?_
 ·(conv=>whnf);left;(conv=>whnf);exact cR h Zad fun y_223 h=>qG [(0,0),(2,1)]
 (conv=>whnf);refine jN h fun t127_225=>jM [(0,pp 0),(3,pp 2),(4,pp 3),(5,pp 4),(6,AV.ptr 1 y_185.1 0),(127,.bool t127_225)] [(0,rF [.osw 1 7]),(1,rT Zaa.c l),(2,rF (Zae.c o_)),(3,rF [aI 0,aI 0,.esl]),(4,rF zr3)] 5 (fun h=>?_) fun h=>?_
 ·(conv=>whnf);left;(conv=>whnf);left;(conv=>whnf);exact cL h ZcZ fun y_226 h=>qE [(0,0),(1,1),(2,2),(3,3),(4,4)]
 (conv=>whnf);left;refine bS h (fun h=>?_) fun h=>?_
 ·(conv=>whnf);left;(conv=>whnf);exact cR h Zad fun y_227 h=>qG [(0,0),(2,1)]
 (conv=>whnf);refine oB h fun y_228 h=>?_;(conv=>whnf);refine cG [2] h Za9 fun y_229 h=>?_;(conv=>whnf);refine jN h fun n_231=>jM [(0,pp 0),(3,pp 2),(4,pp 3),(5,pp 4),(6,AV.ptr 1 y_185.1 0),(9,aI n_231)] [(0,rF [.osw 1 7]),(1,rT Zaa.c l),(2,rF (Zae.c o_)),(3,rF [aI 0,aI 0,.esl]),(4,rF zr3)] 5 (fun h=>?_) fun h=>?_
 ·(conv=>whnf);left;refine bS h (fun h=>?_) fun h=>?_
  ·(conv=>whnf);refine oB h fun y_232 h=>?_;exact qE [(0,0),(1,1),(2,2),(3,3),(4,4)]
  exact qE [(0,0),(1,1),(2,2),(3,3),(4,4)]
 (conv=>whnf);refine oB h fun y_233 h=>?_;(conv=>whnf);left;(conv=>whnf);refine cR h (fun h=>Zba (Zb3 h) rfl) fun y_234 h=>?_;(conv=>whnf);left;(conv=>whnf);refine aX ?_;(conv=>whnf);refine gX h fun h=>?_;(conv=>whnf);refine gS h fun h=>?_;(conv=>whnf);refine gS h fun h=>?_;(conv=>whnf);refine aX ?_;(conv=>whnf);refine oB h fun y_235 h=>?_;(conv=>whnf);refine aX ?_;(conv=>whnf);refine gX h fun h=>?_;(conv=>whnf);refine gX h fun h=>?_;(conv=>whnf);refine gS h fun h=>?_;(conv=>whnf);left;(conv=>whnf);obtain ⟨y_236,hy,h⟩:=ZbE h;refine ⟨_,_,(Zhi (cons2 (congrArg AV.sl rQ) rfl) (Zba (Zak hy) rfl)),Or.inr ⟨[],rfl,?_⟩⟩;(conv=>whnf);refine oB h fun y_237 h=>?_;(conv=>whnf);refine oB (c:=Zaa.c) h fun y_238 h=>?_;(conv=>whnf);refine oB (c:=Zaa.c) h fun y_239 h=>?_;(conv=>whnf);refine aX ?_;(conv=>whnf);refine cG [0,1] h Za7 fun y_240 h=>?_;(conv=>whnf);left;(conv=>whnf);refine cG [1,509] h ZaB fun y_241 h=>?_;(conv=>whnf);left;(conv=>whnf);refine aX ?_;(conv=>whnf);left;(conv=>whnf);exact cR h Zad fun y_242 h=>qG [(0,0),(1,1),(2,519)]
theorem ZdX {n r} (h:Zbk F n=some r):FZ ml 103 [] [AV.esl,aI n] (AV.osw 0 8) [(0,(AO.rows true (List.map Zaf.c r)))]:=by
 unfold Zbk at h
 obtain ⟨hg,h⟩:=grd_e h
 cases h
 have hF:=ZqH (G:=GM ml) (n:=Int.toNat n) Zlk hg.2
 rw [Int.toNat_of_nonneg hg.1] at hF
 exact hF
theorem Zcd {slices r} (h:Za4 F slices=some r):FZ ml 87 [] [sM (cSl Zaf.c) slices] (.osw 0 8) [(0,rT Zaf.c r)]:=by
 refine fG Tryz.func87 ?_
 unfold Za4 at h
 (conv=>whnf);refine jN h fun size_4=>jM [(0,sM (cSl Zaf.c) slices),(3,aI size_4)] [] 0 (fun h=>?_) fun h=>?_
 ·(conv=>whnf);left;(conv=>whnf);refine lI (fun n' x'=>Zax F slices n' x'.1 x'.2) (fun x'=>[(0,sM (cSl Zaf.c) slices),(3,aI x'.1),(9,sM (cSl Zaf.c) slices),(10,aI (@Nat.cast Int instNatCastInt (List.length (List.map (cSl Zaf.c) slices)))),(11,aI x'.2)]) (fun x'=>[]) 0 ((0:Int),(0:Int)) [] h ?_;rintro n_7 ⟨size_8,t11_9⟩ h;dsimp only at h;rw [Zax.eq_2] at h;(conv=>whnf);left;refine bS h (fun h=>?_) fun h=>?_
  ·(conv=>whnf);left;(conv=>whnf);refine gX h fun h=>?_;(conv=>whnf);refine oB h fun y_11 h=>?_;(conv=>whnf);left;refine bT h fun h=>?_;exact rE (n_7,(IntKind.wrap IntKind.i64 (size_8+(@Nat.cast Int instNatCastInt (List.length (List.map Zaf.c y_11))))),(IntKind.wrap IntKind.i64 (t11_9+(1:Int)))) [] h
  exact qE []
 (conv=>whnf);left;(conv=>whnf);refine cR h ZdX fun y_12 h=>?_;(conv=>whnf);refine jN h fun l_17=>jM [(6,.osw 0 8)] [(0,rT Zaf.c l_17)] 1 (fun h=>?_) fun h=>?_
 ·(conv=>whnf);left;(conv=>whnf);refine lI (fun n' x'=>Zaw F slices n' x'.1 x'.2) (fun x'=>[(6,.osw 0 8),(25,sM (cSl Zaf.c) slices),(26,aI (@Nat.cast Int instNatCastInt (List.length (List.map (cSl Zaf.c) slices)))),(27,aI x'.1)]) (fun x'=>[(0,rT Zaf.c x'.2)]) 1 ((0:Int),y_12) [(0,8)] h ?_;rintro n_20 ⟨t27_21,l_22⟩ h;dsimp only at h;rw [Zaw.eq_2] at h;(conv=>whnf);left;refine bS h (fun h=>?_) fun h=>?_
  ·(conv=>whnf);left;(conv=>whnf);refine gX h fun h=>?_;(conv=>whnf);refine oB h fun y_24 h=>?_;(conv=>whnf);refine aX ?_;(conv=>whnf);refine aX ?_;(conv=>whnf);refine gS h fun h=>?_;exact rE (n_20,(IntKind.wrap IntKind.i64 (t27_21+(1:Int))),(l_22++y_24)) [(0,49)] h
  exact qE [(0,0)]
 exact qG [(0,0)]
theorem ZfO {book r} (h:Zej F book=some r):FZ ml 96 [] [sM Zac.c book] (.osw 0 5) [(0,rT Zac.c r)]:=by
 refine fG Tryz.func96 ?_
 unfold Zej at h
 (conv=>whnf);left;(conv=>whnf);refine cR h Zbh fun y_0 h=>?_;(conv=>whnf);refine jN h fun l_21=>jM [(3,.osw 0 5)] [(0,rT Zac.c l_21)] 1 (fun h=>?_) fun h=>?_
 ·(conv=>whnf);left;(conv=>whnf);refine lI (fun n' x'=>Zcf F y_0 n' x'.1 x'.2) (fun x'=>[(3,.osw 0 5),(8,aI (@Nat.cast Int instNatCastInt (List.length (List.map Zac.c y_0)))),(9,aI x'.1)]) (fun x'=>[(0,rT Zac.c x'.2)]) 1 ((0:Int),y_0) [(0,24)] h ?_;rintro n_32 ⟨t9_33,l_34⟩ h;dsimp only at h;rw [Zcf.eq_2] at h;(conv=>whnf);left;refine bS h (fun h=>?_) fun h=>?_
  ·(conv=>whnf);left;(conv=>whnf);refine gX h fun h=>?_;(conv=>whnf);refine oB h fun y_40 h=>?_;(conv=>whnf);refine oB h fun y_41 h=>?_;(conv=>whnf);left;(conv=>whnf);refine cR h (fun h=>Zba (Zak h) rfl) fun y_42 h=>?_;(conv=>whnf);refine gX h fun h=>?_;(conv=>whnf);refine oB h fun y_43 h=>?_;(conv=>whnf);refine oB h fun y_44 h=>?_;exact rE (n_32,(IntKind.wrap IntKind.i64 (t9_33+(1:Int))),(List.set l_34 (Int.toNat t9_33) (Zac.mk y_44.Client y_44.Seq (Zam.mk y_44.Result.Err y_44.Result.Time y_42)))) [(0,0)] h
  exact qE [(0,0)]
 exact qG [(0,0)]
theorem Zgq {s client r} (h:Zei F s client=some r):FZ ml 122 [] [.agg (Zac.c s),aI client] (aI r) []:=by
 refine fA Tryz.func122 ?_
 unfold Zei at h
 (conv=>whnf);left;(conv=>whnf);left;(conv=>whnf);exact cL h ZeQ fun y_0 h=>qR
theorem Zck {x target r} (h:ZaV F x target=some r):FZ ml 121 [] [sM Zac.c x,aI target,AV.fn 122 []] (.tup [aI r.1,.bool r.2]) []:=by
 refine fA Tryz.func121 ?_
 unfold ZaV at h
 (conv=>whnf);refine jN h fun i_4=>jM [(0,sM Zac.c x),(1,aI target),(2,AV.fn 122 []),(8,aI (@Nat.cast Int instNatCastInt (List.length (List.map Zac.c x)))),(9,aI i_4)] [] 0 (fun h=>?_) fun h=>?_
 ·(conv=>whnf);left;(conv=>whnf);refine lI (fun n' x'=>Zal F x target n' x'.1 x'.2) (fun x'=>[(0,sM Zac.c x),(1,aI target),(2,AV.fn 122 []),(8,aI (@Nat.cast Int instNatCastInt (List.length (List.map Zac.c x)))),(9,aI x'.1),(10,aI x'.2)]) (fun x'=>[]) 0 ((0:Int),(@Nat.cast Int instNatCastInt (List.length (List.map Zac.c x)))) [] h ?_;rintro n_7 ⟨i_8,j_9⟩ h;dsimp only at h;rw [Zal.eq_2] at h;(conv=>whnf);left;refine bS h (fun h=>?_) fun h=>?_
  ·(conv=>whnf);left;(conv=>whnf);refine aX ?_;(conv=>whnf);refine gX h fun h=>?_;(conv=>whnf);refine oB h fun y_10 h=>?_;(conv=>whnf);left;(conv=>whnf);refine cL h Zgq fun y_11 h=>?_;(conv=>whnf);left;refine bS h (fun h=>?_) fun h=>?_
   ·exact rE (n_7,(IntKind.wrap IntKind.i64 ((IntKind.wrap IntKind.i64 (@Int.fdiv (IntKind.wrap IntKind.u64 (IntKind.wrap IntKind.i64 (i_8+j_9))) ((2:Int) ^ (min (Int.toNat (1:Int)) 64))))+(1:Int))),j_9) [] h
   exact rE (n_7,i_8,(IntKind.wrap IntKind.i64 (@Int.fdiv (IntKind.wrap IntKind.u64 (IntKind.wrap IntKind.i64 (i_8+j_9))) ((2:Int) ^ (min (Int.toNat (1:Int)) 64))))) [] h
  exact qE []
 (conv=>whnf);left;refine bS h (fun h=>?_) fun h=>?_
 ·(conv=>whnf);refine gX h fun h=>?_;(conv=>whnf);refine oB h fun y_12 h=>?_;(conv=>whnf);left;(conv=>whnf);exact cL h Zgq fun y_13 h=>qR
 exact qR
theorem ZjP {book client r} (h:Zff F book client=some r):FZ ml 95 [] [sM Zac.c book,aI client] (.tup [aI r.1,.bool r.2]) []:=by
 refine fA Tryz.func95 ?_
 unfold Zff at h
 (conv=>whnf);left;(conv=>whnf);exact cL h Zck fun y_0 h=>qR
theorem Zdd {i l l_2 r} (h:Zbz F i l l_2=some r):FZ ml 97 [(0,(AO.rows true (List.map Zac.c l))),(1,(AO.rows true (List.map Zac.c l_2)))] [(AV.osw 0 5),aI i,(AV.osw 1 5)] (AV.osw 2 5) [(2,(AO.rows true (List.map Zac.c r)))]:=by
 unfold Zbz at h
 cases l_2 with
 | nil=>cases h
 | cons x rr =>
  cases rr with
  | cons _ _=>cases h
  | nil =>
   obtain ⟨hg,h⟩:=grd_e h
   cases h
   have hF:=Ziw (G:=GM ml) (s:=List.map Zac.c l) (p:=true) (q:=true) (row:=Zac.c x) (i:=Int.toNat i) ZnN (by decide) (fun r hr=>by obtain ⟨y,_,rfl⟩:=List.mem_map.1 hr;rfl) (by simpa using hg.2.1) (by simpa using hg.2.2) rfl
   rw [Int.toNat_of_nonneg hg.1] at hF
   have e:List.map Zac.c (List.take (Int.toNat i) l++x::List.drop (Int.toNat i) l)=List.take (Int.toNat i) (List.map Zac.c l)++Zac.c x::List.drop (Int.toNat i) (List.map Zac.c l):=by rw [List.map_append,List.map_cons,List.map_take,List.map_drop]
   rw [e]
   exact hF
theorem ZkP {book s r} (h:ZgN F book s=some r):FZ ml 79 [] [sM Zac.c book,.agg (Zac.c s)] (.tup [sM Zac.c r.1,aI r.2]) []:=by
 refine fA Tryz.func79 ?_
 unfold ZgN at h
 (conv=>whnf);left;(conv=>whnf);left;(conv=>whnf);refine cL h ZeA fun y_0 h=>?_;(conv=>whnf);left;refine bS h (fun h=>qR) fun h=>?_;(conv=>whnf);left;(conv=>whnf);refine cL h ZgM fun y_1 h=>?_;(conv=>whnf);left;refine bS h (fun h=>qR) fun h=>?_;(conv=>whnf);left;(conv=>whnf);refine cL h ZjP fun y_2 h=>?_;(conv=>whnf);refine jN h fun t35_4=>jM [(0,sM Zac.c book),(3,pp 0),(6,aI y_2.1),(7,.bool y_2.2),(35,.bool t35_4)] [(0,rF (Zac.c s))] 1 (fun h=>?_) fun h=>?_
 ·(conv=>whnf);left;refine bS h (fun h=>?_) fun h=>?_
  ·(conv=>whnf);refine gX h fun h=>?_;(conv=>whnf);refine oB h fun y_5 h=>?_;exact qE [(0,8)]
  exact qE [(0,8)]
 (conv=>whnf);left;refine bS h (fun h=>qR) fun h=>?_;(conv=>whnf);left;(conv=>whnf);refine cR h Zbh fun y_6 h=>?_;(conv=>whnf);refine jN h fun l_10=>jM [(8,.osw 0 5)] [(0,rT Zac.c l_10)] 1 (fun h=>?_) fun h=>?_
 ·(conv=>whnf);left;refine bS h (fun h=>?_) fun h=>?_
  ·(conv=>whnf);refine gX h fun h=>?_;(conv=>whnf);refine oB h fun y_11 h=>?_;(conv=>whnf);refine oB h fun y_12 h=>?_;cases h;exact eE [(0,9)]
  (conv=>whnf);left;(conv=>whnf);exact cG [9,57] h Zdd fun y_13 h=>qE [(0,67)]
 (conv=>whnf);left;obtain ⟨y_14,hy,h⟩:=ZbE h;refine ⟨_,_,(Zba (ZfO hy) rfl),Or.inr ⟨[0],rfl,?_⟩⟩;exact qR
theorem Zhj {a b r} (h:ZdJ F a b=some r):FZ ml 88 [] [sM Zac.c a,sM Zac.c b] (.tup [sM Zac.c r.1,aI r.2]) []:=by
 refine fA Tryz.func88 ?_
 unfold ZdJ at h
 (conv=>whnf);refine jN h fun t18_2=>jM [(0,sM Zac.c a),(1,sM Zac.c b),(18,.bool t18_2)] [] 0 (fun h=>?_) fun h=>?_
 ·(conv=>whnf);left;(conv=>whnf);left;(conv=>whnf);refine cL h ZeA fun y_3 h=>?_;(conv=>whnf);refine bS h (fun h=>qE []) fun h=>?_;(conv=>whnf);left;(conv=>whnf);exact cL h ZeA fun y_4 h=>qE []
 (conv=>whnf);left;refine bS h (fun h=>qR) fun h=>?_;(conv=>whnf);left;(conv=>whnf);refine cR h (fun h=>Zba (ZfO h) rfl) fun y_5 h=>?_;(conv=>whnf);refine jN h fun out_12=>jM [(6,sM Zac.c out_12)] [] 0 (fun h=>?_) fun h=>?_
 ·(conv=>whnf);left;(conv=>whnf);refine lI (fun n' x'=>ZcX F b n' x'.1 x'.2) (fun x'=>[(6,sM Zac.c x'.1),(21,sM Zac.c b),(22,aI (@Nat.cast Int instNatCastInt (List.length (List.map Zac.c b)))),(23,aI x'.2)]) (fun x'=>[]) 0 (y_5,(0:Int)) [] h ?_;rintro n_16 ⟨out_17,t23_18⟩ h;dsimp only at h;rw [ZcX.eq_2] at h;(conv=>whnf);left;refine bS h (fun h=>?_) fun h=>?_
  ·(conv=>whnf);refine jN h fun out_21=>jM [(6,sM Zac.c out_21),(21,sM Zac.c b),(22,aI (@Nat.cast Int instNatCastInt (List.length (List.map Zac.c b)))),(23,aI t23_18)] [] 0 (fun h=>?_) fun h=>?_
   ·(conv=>whnf);left;(conv=>whnf);refine gX h fun h=>?_;(conv=>whnf);refine oB h fun y_22 h=>?_;(conv=>whnf);left;(conv=>whnf);left;(conv=>whnf);exact cR h ZkP fun y_23 h=>qE []
   exact rE (n_16,out_21,(IntKind.wrap IntKind.i64 (t23_18+(1:Int)))) [] h
  exact qE []
 exact qR
end Go.T
