import Derived.Test.YthohllgoneadhaaGreatDoorCertC
set_option linter.unusedVariables false
set_option maxRecDepth 200000
set_option maxHeartbeats 4000000
namespace Go.T
open Go Go.Ab Go.Proofs
variable {ml:Gv} {F:Nat}
theorem Zfr {o_ l r} (h:ZaK F o_ l=some r):FZ ml 69 [(0,rF [.osw 1 7]),(1,rT Zaa.c l)] [pp 0,.agg (Zae.c o_)] (.tup [.agg (Zam.c r.1),.agg (Zaa.c r.2.1)]) [(0,rF [.osw 1 7]),(1,rT Zaa.c r.2.2)]:=by
 refine fG Tryz.func69 ?_
 unfold ZaK at h
 (conv=>whnf);left;(conv=>whnf);left;(conv=>whnf);left;obtain ⟨y_0,hy,h⟩:=ZbE h;rcases y_0 with y_0 | y_0
 ·replace h:=Zc9 h;(conv=>whnf);refine cg [0,1] (Za2 hy) ?_;obtain ⟨y_1,hy,h⟩:=ZbE h;rcases y_1 with y_1 | y_1
  ·replace h:=Zc9 h;(conv=>whnf);refine cg [0,1] (Za2 hy) ?_;(conv=>whnf);refine aX ?_;(conv=>whnf);left;(conv=>whnf);refine aX ?_;(conv=>whnf);left;obtain ⟨y_2,hy,h⟩:=ZbE h;rcases y_2 with y_2 | y_2
   ·replace h:=Zc9 h;(conv=>whnf);refine cg [0,1] (ZaF hy) ?_;(conv=>whnf);left;(conv=>whnf);left;refine bS h (fun h=>?_) fun h=>?_
    ·(conv=>whnf);left;(conv=>whnf);exact cR h Zad fun y_5 h=>qG [(0,0),(1,1)]
    (conv=>whnf);left;(conv=>whnf);left;(conv=>whnf);left;(conv=>whnf);exact cR h Zad fun y_6 h=>qG [(0,0),(1,1)]
   replace h:=Zc8 h;(conv=>whnf);refine cg [0,1] (ZaE hy) ?_;(conv=>whnf);left;(conv=>whnf);left;refine bS h (fun h=>?_) fun h=>?_
   ·(conv=>whnf);left;(conv=>whnf);exact cR h Zad fun y_9 h=>qG [(0,0),(1,1)]
   (conv=>whnf);left;(conv=>whnf);left;(conv=>whnf);left;(conv=>whnf);exact cR h Zad fun y_10 h=>qG [(0,0),(1,1)]
  replace h:=Zc8 h;(conv=>whnf);refine cg [0,1] (Za1 hy) ?_;(conv=>whnf);refine aX ?_;(conv=>whnf);left;(conv=>whnf);refine aX ?_;(conv=>whnf);left;obtain ⟨y_11,hy,h⟩:=ZbE h;rcases y_11 with y_11 | y_11
  ·replace h:=Zc9 h;(conv=>whnf);refine cg [0,1] (ZaF hy) ?_;(conv=>whnf);left;(conv=>whnf);left;refine bS h (fun h=>?_) fun h=>?_
   ·(conv=>whnf);left;(conv=>whnf);exact cR h Zad fun y_16 h=>qG [(0,0),(1,1)]
   (conv=>whnf);left;(conv=>whnf);left;refine bS h (fun h=>?_) fun h=>?_
   ·(conv=>whnf);left;(conv=>whnf);exact cR h Zad fun y_17 h=>qG [(0,0),(1,1)]
   (conv=>whnf);refine oB h fun y_18 h=>?_;(conv=>whnf);refine aX ?_;(conv=>whnf);left;refine bS h (fun h=>?_) fun h=>?_
   ·(conv=>whnf);left;(conv=>whnf);exact cR h Zad fun y_19 h=>qG [(0,0),(1,1)]
   (conv=>whnf);left;cases h
  replace h:=Zc8 h;(conv=>whnf);refine cg [0,1] (ZaE hy) ?_;(conv=>whnf);left;(conv=>whnf);left;refine bS h (fun h=>?_) fun h=>?_
  ·(conv=>whnf);left;(conv=>whnf);exact cR h Zad fun y_40 h=>qG [(0,0),(1,1)]
  (conv=>whnf);left;(conv=>whnf);left;refine bS h (fun h=>?_) fun h=>?_
  ·(conv=>whnf);left;(conv=>whnf);exact cR h Zad fun y_41 h=>qG [(0,0),(1,1)]
  (conv=>whnf);refine oB h fun y_42 h=>?_;(conv=>whnf);refine aX ?_;(conv=>whnf);left;refine bS h (fun h=>?_) fun h=>?_
  ·(conv=>whnf);left;(conv=>whnf);exact cR h Zad fun y_43 h=>qG [(0,0),(1,1)]
  (conv=>whnf);refine jN h fun t76_46=>jM [(0,pp 0),(3,pp 2),(4,pp 3),(5,pp 4),(6,AV.ptr 1 y_11.1 0),(7,AV.ptr 1 y_1 0),(76,.bool t76_46)] [(0,rF [.osw 1 7]),(1,rT Zaa.c l),(2,rF (Zae.c o_)),(3,rF [aI 0,aI 0,.esl]),(4,rF zr3)] 5 (fun h=>?_) fun h=>?_
  ·(conv=>whnf);left;(conv=>whnf);refine oB h fun y_47 h=>?_;(conv=>whnf);refine bS h (fun h=>qE [(0,0),(1,1),(2,8),(3,16),(4,24)]) fun h=>?_;(conv=>whnf);refine oB h fun y_48 h=>?_;exact qE [(0,0),(1,1),(2,8),(3,16),(4,24)]
  (conv=>whnf);left;refine bS h (fun h=>?_) fun h=>?_
  ·(conv=>whnf);left;(conv=>whnf);exact cR h Zad fun y_49 h=>qG [(0,0),(1,1)]
  (conv=>whnf);refine oB h fun y_50 h=>?_;(conv=>whnf);refine oB h fun y_51 h=>?_;(conv=>whnf);left;(conv=>whnf);refine cL h Zcy fun y_52 h=>?_;(conv=>whnf);refine aX ?_;(conv=>whnf);left;refine bS h (fun h=>?_) fun h=>?_
  ·(conv=>whnf);left;(conv=>whnf);exact cR h Zad fun y_53 h=>qG [(0,0),(1,1)]
  (conv=>whnf);refine jN h fun t109_57=>jM [(0,pp 0),(3,pp 2),(4,pp 3),(5,pp 4),(6,AV.ptr 1 y_11.1 0),(7,AV.ptr 1 y_1 0),(109,.bool t109_57)] [(0,rF [.osw 1 7]),(1,rT Zaa.c l),(2,rF (Zae.c o_)),(3,rF [aI 0,aI 0,.esl]),(4,rF zr3)] 5 (fun h=>?_) fun h=>?_
  ·(conv=>whnf);left;(conv=>whnf);refine oB h fun y_58 h=>?_;(conv=>whnf);refine bS h (fun h=>qE [(0,0),(1,1),(2,2),(3,3),(4,4)]) fun h=>?_;(conv=>whnf);refine oB h fun y_59 h=>?_;(conv=>whnf);refine oB h fun y_60 h=>?_;exact qE [(0,0),(1,1),(2,2),(3,3),(4,4)]
  (conv=>whnf);left;refine bS h (fun h=>?_) fun h=>?_
  ·(conv=>whnf);left;(conv=>whnf);exact cR h Zad fun y_61 h=>qG [(0,0),(1,1)]
  (conv=>whnf);refine oB h fun y_62 h=>?_;(conv=>whnf);refine oB h fun y_63 h=>?_;(conv=>whnf);refine aX ?_;(conv=>whnf);left;refine bS h (fun h=>?_) fun h=>?_
  ·(conv=>whnf);left;(conv=>whnf);exact cR h Zad fun y_64 h=>qG [(0,0),(1,1)]
  (conv=>whnf);refine oB h fun y_65 h=>?_;(conv=>whnf);refine oB h fun y_66 h=>?_;(conv=>whnf);refine oB h fun y_67 h=>?_;(conv=>whnf);left;(conv=>whnf);left;obtain ⟨y_68,hy,h⟩:=ZbE h;refine ⟨_,_,(Zhi (cons2 (congrArg AV.sl rQ) rfl) (Zba (Zcd hy) rfl)),Or.inr ⟨[245],rfl,?_⟩⟩;(conv=>whnf);refine oB h fun y_69 h=>?_;(conv=>whnf);refine oB (c:=Zaa.c) h fun y_70 h=>?_;(conv=>whnf);refine oB (c:=Zaa.c) h fun y_71 h=>?_;(conv=>whnf);refine aX ?_;(conv=>whnf);refine oB (c:=Zaa.c) h fun y_72 h=>?_;(conv=>whnf);refine oB (c:=Zaa.c) h fun y_73 h=>?_;(conv=>whnf);left;(conv=>whnf);refine cR h Zhj fun y_74 h=>?_;(conv=>whnf);refine oB (c:=Zaa.c) h fun y_75 h=>?_;(conv=>whnf);refine aX ?_;(conv=>whnf);refine cG [0,1] h Zc5 fun y_76 h=>?_;(conv=>whnf);left;(conv=>whnf);exact cR h Zad fun y_77 h=>qG [(0,0),(1,1)]
 replace h:=Zc8 h;(conv=>whnf);refine cg [0,1] (Za1 hy) ?_;obtain ⟨y_78,hy,h⟩:=ZbE h;rcases y_78 with y_78 | y_78
 ·replace h:=Zc9 h;(conv=>whnf);refine cg [0,1] (Za2 hy) ?_;(conv=>whnf);refine aX ?_;(conv=>whnf);left;(conv=>whnf);refine oB h fun y_80 h=>?_;(conv=>whnf);refine aX ?_;(conv=>whnf);left;refine bS h (fun h=>?_) fun h=>?_
  ·(conv=>whnf);left;(conv=>whnf);exact cR h Zad fun y_81 h=>qG [(0,0),(1,1)]
  obtain ⟨y_82,hy,h⟩:=ZbE h;rcases y_82 with y_82 | y_82
  ·replace h:=Zc9 h;(conv=>whnf);refine cg [0,1] (ZaF hy) ?_;(conv=>whnf);left;(conv=>whnf);left;refine bS h (fun h=>?_) fun h=>?_
   ·(conv=>whnf);left;(conv=>whnf);exact cR h Zad fun y_85 h=>qG [(0,0),(1,1)]
   (conv=>whnf);left;(conv=>whnf);left;(conv=>whnf);left;(conv=>whnf);exact cR h Zad fun y_86 h=>qG [(0,0),(1,1)]
  replace h:=Zc8 h;(conv=>whnf);refine cg [0,1] (ZaE hy) ?_;(conv=>whnf);left;(conv=>whnf);left;refine bS h (fun h=>?_) fun h=>?_
  ·(conv=>whnf);left;(conv=>whnf);exact cR h Zad fun y_89 h=>qG [(0,0),(1,1)]
  (conv=>whnf);left;(conv=>whnf);left;(conv=>whnf);left;(conv=>whnf);exact cR h Zad fun y_90 h=>qG [(0,0),(1,1)]
 replace h:=Zc8 h;(conv=>whnf);refine cg [0,1] (Za1 hy) ?_;(conv=>whnf);refine aX ?_;(conv=>whnf);left;(conv=>whnf);refine aX ?_;(conv=>whnf);left;obtain ⟨y_91,hy,h⟩:=ZbE h;rcases y_91 with y_91 | y_91
 ·replace h:=Zc9 h;(conv=>whnf);refine cg [0,1] (ZaF hy) ?_;(conv=>whnf);left;(conv=>whnf);left;refine bS h (fun h=>?_) fun h=>?_
  ·(conv=>whnf);left;(conv=>whnf);exact cR h Zad fun y_96 h=>qG [(0,0),(1,1)]
  (conv=>whnf);left;(conv=>whnf);left;refine bS h (fun h=>?_) fun h=>?_
  ·(conv=>whnf);left;(conv=>whnf);exact cR h Zad fun y_97 h=>qG [(0,0),(1,1)]
  (conv=>whnf);refine oB h fun y_98 h=>?_;(conv=>whnf);refine aX ?_;(conv=>whnf);left;refine bS h (fun h=>?_) fun h=>?_
  ·(conv=>whnf);left;(conv=>whnf);exact cR h Zad fun y_99 h=>qG [(0,0),(1,1)]
  (conv=>whnf);left;cases h
 replace h:=Zc8 h;(conv=>whnf);refine cg [0,1] (ZaE hy) ?_;(conv=>whnf);left;(conv=>whnf);left;refine bS h (fun h=>?_) fun h=>?_
 ·(conv=>whnf);left;(conv=>whnf);exact cR h Zad fun y_120 h=>qG [(0,0),(1,1)]
 (conv=>whnf);left;(conv=>whnf);left;refine bS h (fun h=>?_) fun h=>?_
 ·(conv=>whnf);left;(conv=>whnf);exact cR h Zad fun y_121 h=>qG [(0,0),(1,1)]
 (conv=>whnf);refine oB h fun y_122 h=>?_;(conv=>whnf);refine aX ?_;(conv=>whnf);left;refine bS h (fun h=>?_) fun h=>?_
 ·(conv=>whnf);left;(conv=>whnf);exact cR h Zad fun y_123 h=>qG [(0,0),(1,1)]
 (conv=>whnf);refine jN h fun t76_126=>jM [(0,pp 0),(3,pp 2),(4,pp 3),(5,pp 4),(6,AV.ptr 1 y_91.1 0),(7,AV.ptr 1 y_78 0),(76,.bool t76_126)] [(0,rF [.osw 1 7]),(1,rT Zaa.c l),(2,rF (Zae.c o_)),(3,rF [aI 0,aI 0,.esl]),(4,rF zr3)] 5 (fun h=>?_) fun h=>?_
 ·(conv=>whnf);left;(conv=>whnf);refine oB h fun y_127 h=>?_;(conv=>whnf);refine bS h (fun h=>qE [(0,0),(1,1),(2,8),(3,16),(4,24)]) fun h=>?_;(conv=>whnf);refine oB h fun y_128 h=>?_;exact qE [(0,0),(1,1),(2,8),(3,16),(4,24)]
 (conv=>whnf);left;refine bS h (fun h=>?_) fun h=>?_
 ·(conv=>whnf);left;(conv=>whnf);exact cR h Zad fun y_129 h=>qG [(0,0),(1,1)]
 (conv=>whnf);refine oB h fun y_130 h=>?_;(conv=>whnf);refine oB h fun y_131 h=>?_;(conv=>whnf);left;(conv=>whnf);refine cL h Zcy fun y_132 h=>?_;(conv=>whnf);refine aX ?_;(conv=>whnf);left;refine bS h (fun h=>?_) fun h=>?_
 ·(conv=>whnf);left;(conv=>whnf);exact cR h Zad fun y_133 h=>qG [(0,0),(1,1)]
 (conv=>whnf);refine jN h fun t109_137=>jM [(0,pp 0),(3,pp 2),(4,pp 3),(5,pp 4),(6,AV.ptr 1 y_91.1 0),(7,AV.ptr 1 y_78 0),(109,.bool t109_137)] [(0,rF [.osw 1 7]),(1,rT Zaa.c l),(2,rF (Zae.c o_)),(3,rF [aI 0,aI 0,.esl]),(4,rF zr3)] 5 (fun h=>?_) fun h=>?_
 ·(conv=>whnf);left;(conv=>whnf);refine oB h fun y_138 h=>?_;(conv=>whnf);refine bS h (fun h=>qE [(0,0),(1,1),(2,2),(3,3),(4,4)]) fun h=>?_;(conv=>whnf);refine oB h fun y_139 h=>?_;(conv=>whnf);refine oB h fun y_140 h=>?_;exact qE [(0,0),(1,1),(2,2),(3,3),(4,4)]
 (conv=>whnf);left;refine bS h (fun h=>?_) fun h=>?_
 ·(conv=>whnf);left;(conv=>whnf);exact cR h Zad fun y_141 h=>qG [(0,0),(1,1)]
 (conv=>whnf);refine oB h fun y_142 h=>?_;(conv=>whnf);refine oB h fun y_143 h=>?_;(conv=>whnf);refine aX ?_;(conv=>whnf);left;refine bS h (fun h=>?_) fun h=>?_
 ·(conv=>whnf);left;(conv=>whnf);exact cR h Zad fun y_144 h=>qG [(0,0),(1,1)]
 (conv=>whnf);refine oB h fun y_145 h=>?_;(conv=>whnf);refine oB h fun y_146 h=>?_;(conv=>whnf);refine oB h fun y_147 h=>?_;(conv=>whnf);left;(conv=>whnf);left;obtain ⟨y_148,hy,h⟩:=ZbE h;refine ⟨_,_,(Zhi (cons2 (congrArg AV.sl rQ) rfl) (Zba (Zcd hy) rfl)),Or.inr ⟨[245],rfl,?_⟩⟩;(conv=>whnf);refine oB h fun y_149 h=>?_;(conv=>whnf);refine oB (c:=Zaa.c) h fun y_150 h=>?_;(conv=>whnf);refine oB (c:=Zaa.c) h fun y_151 h=>?_;(conv=>whnf);refine aX ?_;(conv=>whnf);refine oB (c:=Zaa.c) h fun y_152 h=>?_;(conv=>whnf);refine oB (c:=Zaa.c) h fun y_153 h=>?_;(conv=>whnf);left;(conv=>whnf);refine cR h Zhj fun y_154 h=>?_;(conv=>whnf);refine oB (c:=Zaa.c) h fun y_155 h=>?_;(conv=>whnf);refine aX ?_;(conv=>whnf);refine cG [0,1] h Zc5 fun y_156 h=>?_;(conv=>whnf);left;(conv=>whnf);exact cR h Zad fun y_157 h=>qG [(0,0),(1,1)]
theorem ZjN {list o_ r} (h:Ze3 F list o_=some r):FZ ml 33 [] [sM Zaa.c list,.agg (Zae.c o_)] (.tup [.osw 0 7,.agg (Zam.c r.1),.agg (Zaa.c r.2.1)]) [(0,rT Zaa.c r.2.2)]:=by
 refine fG Tryz.func33 ?_
 unfold Ze3 at h
 (conv=>whnf);left;(conv=>whnf);left;(conv=>whnf);left;(conv=>whnf);left;(conv=>whnf);refine cL h Zgp fun y_0 h=>?_;(conv=>whnf);left;refine bS h (fun h=>?_) fun h=>?_
 ·(conv=>whnf);left;(conv=>whnf);left;cases h;exact gW [(0,80)]
 (conv=>whnf);refine Or.inr (Zmd 0 7 _ rfl rfl ?_);(conv=>whnf);left;(conv=>whnf);refine jN h fun l_9=>jM [(3,pp 0),(5,pp 1),(6,pp 2),(7,pp 3)] [(0,rF (Zae.c o_)),(1,rF [aI 0,aI 0,.esl]),(2,rF zr3),(3,rF [.osw 4 7]),(4,rT Zaa.c l_9)] 5 (fun h=>?_) fun h=>?_
 ·(conv=>whnf);left;(conv=>whnf);refine lI (fun n' x'=>Zdk F list n' x'.1 x'.2) (fun x'=>[(3,pp 0),(5,pp 1),(6,pp 2),(7,pp 3),(21,sM Zaa.c list),(22,aI (@Nat.cast Int instNatCastInt (List.length (List.map Zaa.c list)))),(23,aI x'.1)]) (fun x'=>[(0,rF (Zae.c o_)),(1,rF [aI 0,aI 0,.esl]),(2,rF zr3),(3,rF [.osw 4 7]),(4,rT Zaa.c x'.2)]) 5 ((0:Int),[]) [(0,8),(1,24),(2,32),(3,72),(4,64)] h ?_;rintro n_14 ⟨t23_15,l_16⟩ h;dsimp only at h;rw [Zdk.eq_2] at h;(conv=>whnf);left;refine bS h (fun h=>?_) fun h=>?_
  ·(conv=>whnf);left;(conv=>whnf);refine gX h fun h=>?_;(conv=>whnf);refine oB h fun y_19 h=>?_;(conv=>whnf);left;(conv=>whnf);left;(conv=>whnf);refine cR h (fun h=>Zba (Zb3 h) rfl) fun y_20 h=>?_;(conv=>whnf);left;(conv=>whnf);refine aX ?_;(conv=>whnf);refine aX ?_;(conv=>whnf);refine gS h fun h=>?_;(conv=>whnf);left;(conv=>whnf);refine aX ?_;exact rE (n_14,(IntKind.wrap IntKind.i64 (t23_15+(1:Int))),(l_16++((Zaa.mk y_20.1 y_20.2.1 y_20.2.2.1 y_20.2.2.2.1 y_20.2.2.2.2.1 y_20.2.2.2.2.2.1 y_20.2.2.2.2.2.2)::[]))) [(0,0),(1,1),(2,2),(3,3),(4,109)] h
  exact qE [(0,0),(1,1),(2,2),(3,3),(4,4)]
 (conv=>whnf);left;(conv=>whnf);refine cR h Zhz fun y_21 h=>?_;(conv=>whnf);refine aX ?_;(conv=>whnf);left;refine bS h (fun h=>?_) fun h=>?_
 ·(conv=>whnf);refine aX ?_;(conv=>whnf);left;cases h
 (conv=>whnf);refine bS h (fun h=>?_) fun h=>?_
 ·(conv=>whnf);refine aX ?_;(conv=>whnf);left;(conv=>whnf);refine cG [3,4] h Zfb fun y_22 h=>?_;(conv=>whnf);left;(conv=>whnf);left;(conv=>whnf);left;(conv=>whnf);exact cR h (fun h=>Zba (Zak h) rfl) fun y_23 h=>qG [(0,4)]
 (conv=>whnf);refine bS h (fun h=>?_) fun h=>?_
 ·(conv=>whnf);refine aX ?_;(conv=>whnf);left;(conv=>whnf);refine cG [3,4] h ZfH fun y_24 h=>?_;(conv=>whnf);left;(conv=>whnf);left;(conv=>whnf);left;(conv=>whnf);exact cR h (fun h=>Zba (Zak h) rfl) fun y_25 h=>qG [(0,4)]
 (conv=>whnf);refine bS h (fun h=>?_) fun h=>?_
 ·(conv=>whnf);refine aX ?_;(conv=>whnf);left;(conv=>whnf);refine cG [3,4] h ZeY fun y_26 h=>?_;(conv=>whnf);left;(conv=>whnf);left;(conv=>whnf);left;(conv=>whnf);exact cR h (fun h=>Zba (Zak h) rfl) fun y_27 h=>qG [(0,119)]
 (conv=>whnf);refine bS h (fun h=>?_) fun h=>?_
 ·(conv=>whnf);refine aX ?_;(conv=>whnf);left;(conv=>whnf);refine cG [3,4] h ZfI fun y_28 h=>?_;(conv=>whnf);left;(conv=>whnf);left;(conv=>whnf);left;(conv=>whnf);exact cR h (fun h=>Zba (Zak h) rfl) fun y_29 h=>qG [(0,4)]
 (conv=>whnf);refine bS h (fun h=>?_) fun h=>?_
 ·(conv=>whnf);refine aX ?_;(conv=>whnf);left;(conv=>whnf);refine cG [3,4] h Zfa fun y_30 h=>?_;(conv=>whnf);left;(conv=>whnf);left;(conv=>whnf);left;(conv=>whnf);exact cR h (fun h=>Zba (Zak h) rfl) fun y_31 h=>qG [(0,119)]
 (conv=>whnf);refine bS h (fun h=>?_) fun h=>?_
 ·(conv=>whnf);refine aX ?_;(conv=>whnf);left;(conv=>whnf);refine cG [3,4] h Zfq fun y_32 h=>?_;(conv=>whnf);left;(conv=>whnf);left;(conv=>whnf);left;(conv=>whnf);exact cR h (fun h=>Zba (Zak h) rfl) fun y_33 h=>qG [(0,119)]
 (conv=>whnf);refine bS h (fun h=>?_) fun h=>?_
 ·(conv=>whnf);refine aX ?_;(conv=>whnf);left;(conv=>whnf);refine cG [3,4] h Zfr fun y_34 h=>?_;(conv=>whnf);left;(conv=>whnf);left;(conv=>whnf);left;(conv=>whnf);exact cR h (fun h=>Zba (Zak h) rfl) fun y_35 h=>qG [(0,4)]
 (conv=>whnf);refine aX ?_;(conv=>whnf);left;(conv=>whnf);left;(conv=>whnf);left;cases h;exact gW [(0,4)]
theorem Zdc {i l l_2 r} (h:Zbe F i l l_2=some r):FZ ml 51 [(0,(AO.rows true (List.map Zab.c l))),(1,(AO.rows true (List.map Zab.c l_2)))] [(AV.osw 0 5),aI i,(AV.osw 1 5)] (AV.osw 2 5) [(2,(AO.rows true (List.map Zab.c r)))]:=by
 unfold Zbe at h
 cases l_2 with
 | nil=>cases h
 | cons x rr =>
  cases rr with
  | cons _ _=>cases h
  | nil =>
   obtain ⟨hg,h⟩:=grd_e h
   cases h
   have hF:=Ziw (G:=GM ml) (s:=List.map Zab.c l) (p:=true) (q:=true) (row:=Zab.c x) (i:=Int.toNat i) ZnP (by decide) (fun r hr=>by obtain ⟨y,_,rfl⟩:=List.mem_map.1 hr;rfl) (by simpa using hg.2.1) (by simpa using hg.2.2) rfl
   rw [Int.toNat_of_nonneg hg.1] at hF
   have e:List.map Zab.c (List.take (Int.toNat i) l++x::List.drop (Int.toNat i) l)=List.take (Int.toNat i) (List.map Zab.c l)++Zab.c x::List.drop (Int.toNat i) (List.map Zab.c l):=by rw [List.map_append,List.map_cons,List.map_take,List.map_drop]
   rw [e]
   exact hF
theorem Zde {i j l r} (h:Zbg F i j l=some r):FZ ml 52 [(0,(AO.rows true (List.map Zab.c l)))] [(AV.osw 0 5),aI i,aI j] (AV.osw 1 5) [(1,(AO.rows true (List.map Zab.c r)))]:=by
 unfold Zbg at h
 obtain ⟨hg,h⟩:=grd_e h
 cases h
 obtain ⟨g1,rfl,g3⟩:=hg
 have hF:=Zou (G:=GM ml) (s:=List.map Zab.c l) (p:=true) (i:=Int.toNat i) Zn0 (by decide) (fun r hr=>by obtain ⟨y,_,rfl⟩:=List.mem_map.1 hr;rfl) (by simpa using g3)
 rw [Int.toNat_of_nonneg g1] at hF
 have e:List.map Zab.c (List.take (Int.toNat i) l++List.drop (Int.toNat i+1) l)=List.take (Int.toNat i) (List.map Zab.c l)++List.drop (Int.toNat i+1) (List.map Zab.c l):=by rw [List.map_append,List.map_take,List.map_drop]
 rw [e]
 exact hF
theorem ZhE {a phase r} (h:Za6 F a phase=some r):FZ ml 34 [] [.agg (Zag.c a),aI phase] (.tup [.agg (Zag.c r.1),aI r.2]) []:=by
 refine fK Tryz.func34 ?_
 unfold Za6 at h
 (conv=>whnf);left;(conv=>whnf);left;(conv=>whnf);left;(conv=>whnf);refine cL h ZdM fun y_0 h=>?_;(conv=>whnf);left;refine bS h (fun h=>qK) fun h=>?_;(conv=>whnf);left;(conv=>whnf);refine cR h ZeV fun y_1 h=>?_;(conv=>whnf);left;(conv=>whnf);refine jN h fun t27_2=>jM [(1,aI phase),(2,pp 0),(4,pp 1),(6,pp 2),(27,.bool t27_2)] [(0,rF [aI y_1.1,aI y_1.2.1,.osw 3 5,aI y_1.2.2.1,aI y_1.2.2.2.1,aI y_1.2.2.2.2.1,aI y_1.2.2.2.2.2.1,aI y_1.2.2.2.2.2.2.1,aI y_1.2.2.2.2.2.2.2.1,aI y_1.2.2.2.2.2.2.2.2.1,.str y_1.2.2.2.2.2.2.2.2.2.1]),(1,rF zr1),(2,rF [aI y_1.2.2.1,aI y_1.2.2.2.1,aI y_1.2.2.2.2.1,aI y_1.2.2.2.2.2.1,aI y_1.2.2.2.2.2.2.1,aI y_1.2.2.2.2.2.2.2.1,aI y_1.2.2.2.2.2.2.2.2.1,.str y_1.2.2.2.2.2.2.2.2.2.1]),(3,rT Zab.c y_1.2.2.2.2.2.2.2.2.2.2)] 4 (fun h=>qE [(0,8),(1,16),(2,96),(3,64)]) fun h=>?_;(conv=>whnf);left;refine bS h (fun h=>qK) fun h=>?_;(conv=>whnf);left;(conv=>whnf);refine cL h Zdb fun y_3 h=>?_;(conv=>whnf);refine gX h fun h=>?_;(conv=>whnf);refine oB h fun y_4 h=>?_;(conv=>whnf);left;(conv=>whnf);refine jN h fun ⟨c_21,c_22,c_23,c_24,c_25,c_26,c_27,c_28,l_29⟩=>jM [(2,pp 0),(4,pp 1)] [(0,rF [aI y_1.1,aI y_1.2.1,.osw 2 5,aI c_21,aI c_22,aI c_23,aI c_24,aI c_25,aI c_26,aI c_27,.str c_28]),(1,rF zr1),(2,rT Zab.c l_29)] 3 (fun h=>?_) fun h=>?_
 ·(conv=>whnf);left;(conv=>whnf);left;refine bS h (fun h=>qE [(0,0),(1,1),(2,3)]) fun h=>?_;(conv=>whnf);refine jN h fun t42_30=>jM [(1,aI phase),(2,pp 0),(4,pp 1),(6,pp 2),(7,aI y_3),(8,AV.ptr 3 (Int.toNat y_3) 0),(42,.bool t42_30)] [(0,rF [aI y_1.1,aI y_1.2.1,.osw 3 5,aI 0,aI 0,aI 0,aI 0,aI 0,aI 0,aI 0,.str []]),(1,rF zr1),(2,rF [aI y_1.2.2.1,aI y_1.2.2.2.1,aI y_1.2.2.2.2.1,aI y_1.2.2.2.2.2.1,aI y_1.2.2.2.2.2.2.1,aI y_1.2.2.2.2.2.2.2.1,aI y_1.2.2.2.2.2.2.2.2.1,.str y_1.2.2.2.2.2.2.2.2.2.1]),(3,rT Zab.c y_1.2.2.2.2.2.2.2.2.2.2)] 4 (fun h=>qE [(0,0),(1,1),(2,2),(3,3)]) fun h=>?_;(conv=>whnf);left;refine bS h (fun h=>?_) fun h=>?_
  ·(conv=>whnf);refine oB h fun y_31 h=>?_;(conv=>whnf);refine oB h fun y_32 h=>?_;(conv=>whnf);refine oB (c:=Zab.c) h fun y_33 h=>?_;(conv=>whnf);refine aX ?_;cases h;exact eE [(0,0),(1,1),(2,3)]
  (conv=>whnf);refine jN h fun t66_34=>jM [(2,pp 0),(4,pp 1),(6,pp 2),(7,aI y_3),(8,AV.ptr 3 (Int.toNat y_3) 0),(66,.bool t66_34)] [(0,rF [aI y_1.1,aI y_1.2.1,.osw 3 5,aI 0,aI 0,aI 0,aI 0,aI 0,aI 0,aI 0,.str []]),(1,rF zr1),(2,rF [aI y_1.2.2.1,aI y_1.2.2.2.1,aI y_1.2.2.2.2.1,aI y_1.2.2.2.2.2.1,aI y_1.2.2.2.2.2.2.1,aI y_1.2.2.2.2.2.2.2.1,aI y_1.2.2.2.2.2.2.2.2.1,.str y_1.2.2.2.2.2.2.2.2.2.1]),(3,rT Zab.c y_1.2.2.2.2.2.2.2.2.2.2)] 4 (fun h=>qE [(0,0),(1,1),(2,2),(3,3)]) fun h=>?_;(conv=>whnf);left;refine bS h (fun h=>qE [(0,0),(1,1),(2,3)]) fun h=>?_;(conv=>whnf);left;refine bS h (fun h=>?_) fun h=>?_
  ·(conv=>whnf);refine oB h fun y_35 h=>?_;(conv=>whnf);refine oB h fun y_36 h=>?_;(conv=>whnf);refine oB (c:=Zab.c) h fun y_37 h=>?_;(conv=>whnf);left;(conv=>whnf);refine aX ?_;(conv=>whnf);refine oB (c:=Zab.c) h fun y_38 h=>?_;(conv=>whnf);left;(conv=>whnf);exact cG [3,292] h Zdc fun y_39 h=>qE [(0,0),(1,1),(2,302)]
  (conv=>whnf);left;refine bS h (fun h=>?_) fun h=>?_
  ·(conv=>whnf);refine gX h fun h=>?_;(conv=>whnf);refine oB h fun y_40 h=>?_;(conv=>whnf);refine oB h fun y_41 h=>?_;(conv=>whnf);left;(conv=>whnf);refine oB h fun y_42 h=>?_;(conv=>whnf);refine oB h fun y_43 h=>?_;(conv=>whnf);refine oB (c:=Zab.c) h fun y_44 h=>?_;(conv=>whnf);refine aX ?_;(conv=>whnf);exact cG [3] h Zde fun y_45 h=>qE [(0,0),(1,1),(2,325)]
  exact qE [(0,0),(1,1),(2,3)]
 exact qK
theorem Zgj {l id r} (h:Zdy F l id=some r):FZ ml 38 [] [sM Zaa.c l,aI id] (aI r) []:=by
 refine fA Tryz.func38 ?_
 unfold Zdy at h
 (conv=>whnf);refine jS h fun o0 v=>jT [] [] 0 (fun h k0 e=>?_) fun h=>?_
 ·(conv=>whnf);left;(conv=>whnf);refine lI (fun n' x'=>ZbA F l id n' x') (fun x'=>[(0,sM Zaa.c l),(1,aI id),(5,aI x')]) (fun x'=>[]) 0 (0:Int) [] h ?_;rintro n_6 i_7 h;rw [ZbA.eq_2] at h;(conv=>whnf);left;refine bS h (fun h=>?_) fun h=>?_
  ·(conv=>whnf);left;(conv=>whnf);refine gX h fun h=>?_;(conv=>whnf);refine oB h fun y_9 h=>?_;(conv=>whnf);left;refine bS h (fun h=>?_) fun h=>?_
   ·cases h;cases k0;exact rfl
   exact rE (n_6,(IntKind.wrap IntKind.i64 (i_7+(1:Int)))) [] h
  exact qE []
 exact qR
theorem ZeI {l id r} (h:Zb4 F l id=some r):FZ ml 22 [] [sM Zaa.c l,aI id] (aI r) []:=by
 refine fA Tryz.func22 ?_
 unfold Zb4 at h
 (conv=>whnf);left;(conv=>whnf);refine cL h Zgj fun y_0 h=>?_;(conv=>whnf);refine jN h fun t18_2=>jM [(5,aI y_0),(18,.bool t18_2)] [] 0 (fun h=>?_) fun h=>?_
 ·(conv=>whnf);left;refine bS h (fun h=>?_) fun h=>?_
  ·(conv=>whnf);refine gX h fun h=>?_;(conv=>whnf);refine oB h fun y_3 h=>?_;exact qE []
  exact qE []
 exact qR
theorem Zgk {client seq r} (h:ZcP F client seq=some r):FZ ml 59 [] [aI client,aI seq] (.bool r) []:=by
 refine fA Tryz.func59 ?_
 unfold ZcP at h
 exact qR
theorem Zey {l r} (h:Zch F l=some r):FZ ml 39 [] [sM Zac.c l] (.bool r) []:=by
 refine fA Tryz.func39 ?_
 unfold Zch at h
 (conv=>whnf);refine jS h fun o4 v=>jT [] [] 0 (fun h k4 e=>?_) fun h=>?_
 ·(conv=>whnf);left;(conv=>whnf);refine lI (fun n' x'=>Zbq F l n' x'.1 x'.2) (fun x'=>[(0,sM Zac.c l),(3,aI x'.1),(4,aI x'.2)]) (fun x'=>[]) 0 ((0:Int),(0:Int)) [] h ?_;rintro n_36 ⟨last_37,i_38⟩ h;dsimp only at h;rw [Zbq.eq_2] at h;(conv=>whnf);left;refine bS h (fun h=>?_) fun h=>?_
  ·(conv=>whnf);left;(conv=>whnf);refine jN h fun t31_49=>jM [(0,sM Zac.c l),(4,aI i_38),(31,.bool t31_49)] [] 0 (fun h=>?_) fun h=>?_
   ·(conv=>whnf);left;(conv=>whnf);refine gX h fun h=>?_;(conv=>whnf);refine oB h fun y_50 h=>?_;(conv=>whnf);refine gX h fun h=>?_;(conv=>whnf);refine oB h fun y_51 h=>?_;(conv=>whnf);left;(conv=>whnf);refine cL h Zgk fun y_52 h=>?_;(conv=>whnf);refine bS h (fun h=>qE []) fun h=>?_;(conv=>whnf);refine gX h fun h=>?_;(conv=>whnf);refine oB h fun y_53 h=>?_;exact qE []
   (conv=>whnf);left;refine bS h (fun h=>?_) fun h=>?_
   ·cases h;cases k4;exact rfl
   (conv=>whnf);refine gX h fun h=>?_;(conv=>whnf);refine oB h fun y_54 h=>?_;exact rE (n_36,y_54.Client,(IntKind.wrap IntKind.i64 (i_38+(1:Int)))) [] h
  exact qE []
 exact qR
theorem ZfU {a b r} (h:ZcO F a b=some r):FZ ml 40 [] [sM Zac.c a,sM Zac.c b] (.osw 0 5) [(0,rT Zac.c r)]:=by
 refine fG Tryz.func40 ?_
 unfold ZcO at h
 (conv=>whnf);refine jN h fun l_28=>jM [(5,.osw 0 5)] [(0,rT Zac.c l_28)] 1 (fun h=>?_) fun h=>?_
 ·(conv=>whnf);left;(conv=>whnf);refine lI (fun n' x'=>ZaJ F a b n' x'.1 x'.2.1 x'.2.2) (fun x'=>[(0,sM Zac.c a),(1,sM Zac.c b),(5,.osw 0 5),(6,aI x'.1),(7,aI x'.2.1)]) (fun x'=>[(0,rT Zac.c x'.2.2)]) 1 ((0:Int),(0:Int),[]) [(0,16)] h ?_;rintro n_43 ⟨i_44,k_45,l_46⟩ h;dsimp only at h;rw [ZaJ.eq_2] at h;(conv=>whnf);refine jN h fun t17_47=>jM [(0,sM Zac.c a),(1,sM Zac.c b),(5,.osw 0 5),(6,aI i_44),(7,aI k_45),(17,.bool t17_47)] [(0,rT Zac.c l_46)] 1 (fun h=>qE [(0,0)]) fun h=>?_;(conv=>whnf);left;refine bS h (fun h=>?_) fun h=>?_
  ·(conv=>whnf);left;(conv=>whnf);refine jN h fun t40_50=>jM [(0,sM Zac.c a),(1,sM Zac.c b),(5,.osw 0 5),(6,aI i_44),(7,aI k_45),(40,.bool t40_50)] [(0,rT Zac.c l_46)] 1 (fun h=>?_) fun h=>?_
   ·(conv=>whnf);left;refine bS h (fun h=>qE [(0,0)]) fun h=>?_;(conv=>whnf);refine bS h (fun h=>?_) fun h=>?_
    ·(conv=>whnf);refine gX h fun h=>?_;(conv=>whnf);refine oB h fun y_51 h=>?_;(conv=>whnf);refine gX h fun h=>?_;(conv=>whnf);refine oB h fun y_52 h=>?_;exact qE [(0,0)]
    exact qE [(0,0)]
   (conv=>whnf);left;refine bS h (fun h=>?_) fun h=>?_
   ·(conv=>whnf);refine gX h fun h=>?_;(conv=>whnf);refine oB h fun y_53 h=>?_;(conv=>whnf);left;(conv=>whnf);refine aX ?_;(conv=>whnf);refine aX ?_;(conv=>whnf);refine gS h fun h=>?_;exact rE (n_43,(IntKind.wrap IntKind.i64 (i_44+(1:Int))),k_45,(l_46++(y_53::[]))) [(0,49)] h
   (conv=>whnf);refine jN h fun t66_56=>jM [(0,sM Zac.c a),(1,sM Zac.c b),(5,.osw 0 5),(6,aI i_44),(7,aI k_45),(66,.bool t66_56)] [(0,rT Zac.c l_46)] 1 (fun h=>?_) fun h=>?_
   ·(conv=>whnf);left;refine bS h (fun h=>qE [(0,0)]) fun h=>?_;(conv=>whnf);refine gX h fun h=>?_;(conv=>whnf);refine oB h fun y_57 h=>?_;(conv=>whnf);refine gX h fun h=>?_;(conv=>whnf);refine oB h fun y_58 h=>?_;exact qE [(0,0)]
   (conv=>whnf);left;refine bS h (fun h=>?_) fun h=>?_
   ·(conv=>whnf);refine gX h fun h=>?_;(conv=>whnf);refine oB h fun y_59 h=>?_;(conv=>whnf);left;(conv=>whnf);refine aX ?_;(conv=>whnf);refine aX ?_;(conv=>whnf);refine gS h fun h=>?_;exact rE (n_43,i_44,(IntKind.wrap IntKind.i64 (k_45+(1:Int))),(l_46++(y_59::[]))) [(0,49)] h
   (conv=>whnf);refine gX h fun h=>?_;(conv=>whnf);refine oB h fun y_60 h=>?_;(conv=>whnf);refine gX h fun h=>?_;(conv=>whnf);refine oB h fun y_61 h=>?_;(conv=>whnf);refine aX ?_;(conv=>whnf);refine jN h fun l_64=>jM [(0,sM Zac.c a),(1,sM Zac.c b),(5,.osw 0 5),(6,aI i_44),(7,aI k_45)] [(0,rT Zac.c l_64)] 1 (fun h=>?_) fun h=>?_
   ·(conv=>whnf);left;refine bS h (fun h=>?_) fun h=>?_
    ·(conv=>whnf);refine gX h fun h=>?_;(conv=>whnf);refine oB h fun y_65 h=>?_;(conv=>whnf);left;(conv=>whnf);refine aX ?_;(conv=>whnf);refine aX ?_;(conv=>whnf);refine gS h fun h=>?_;cases h;exact eE [(0,137)]
    (conv=>whnf);refine gX h fun h=>?_;(conv=>whnf);refine oB h fun y_66 h=>?_;(conv=>whnf);left;(conv=>whnf);refine aX ?_;(conv=>whnf);refine aX ?_;(conv=>whnf);refine gS h fun h=>?_;cases h;exact eE [(0,137)]
   exact rE (n_43,(IntKind.wrap IntKind.i64 (i_44+(1:Int))),(IntKind.wrap IntKind.i64 (k_45+(1:Int))),l_64) [(0,0)] h
  exact qE [(0,0)]
 exact qG [(0,0)]
theorem Zfz {a b r} (h:Zbw F a b=some r):FZ ml 23 [] [sM Zac.c a,sM Zac.c b] (.tup [.osw 0 5,aI r.1]) [(0,rT Zac.c r.2)]:=by
 refine fG Tryz.func23 ?_
 unfold Zbw at h
 (conv=>whnf);refine jN h fun t13_2=>jM [(0,sM Zac.c a),(1,sM Zac.c b),(13,.bool t13_2)] [] 0 (fun h=>?_) fun h=>?_
 ·(conv=>whnf);left;(conv=>whnf);left;(conv=>whnf);refine cL h Zey fun y_3 h=>?_;(conv=>whnf);refine bS h (fun h=>qE []) fun h=>?_;(conv=>whnf);left;(conv=>whnf);exact cL h Zey fun y_4 h=>qE []
 (conv=>whnf);left;refine bS h (fun h=>?_) fun h=>?_
 ·cases h;exact gE [(0,0)]
 (conv=>whnf);left;(conv=>whnf);exact cR h ZfU fun y_5 h=>qG [(0,16)]
theorem ZeJ {a b r} (h:Zcs F a b=some r):FZ ml 11 [] [sM Zaf.c a,sM Zaf.c b] (.bool r) []:=by
 refine fA Tryz.func11 ?_
 unfold Zcs at h
 (conv=>whnf);left;refine bS h (fun h=>qR) fun h=>?_;(conv=>whnf);refine jS h fun o0 v=>jT [] [] 0 (fun h k0 e=>?_) fun h=>?_
 ·(conv=>whnf);left;(conv=>whnf);refine lI (fun n' x'=>ZbJ F a b n' x') (fun x'=>[(0,sM Zaf.c a),(1,sM Zaf.c b),(5,aI x')]) (fun x'=>[]) 0 (0:Int) [] h ?_;rintro n_12 i_13 h;rw [ZbJ.eq_2] at h;(conv=>whnf);left;refine bS h (fun h=>?_) fun h=>?_
  ·(conv=>whnf);left;(conv=>whnf);refine gX h fun h=>?_;(conv=>whnf);refine oB h fun y_16 h=>?_;(conv=>whnf);refine gX h fun h=>?_;(conv=>whnf);refine oB h fun y_17 h=>?_;(conv=>whnf);refine aX ?_;(conv=>whnf);refine aX ?_;(conv=>whnf);left;refine bS h (fun h=>?_) fun h=>?_
   ·cases h;cases k0;exact rfl
   exact rE (n_12,(IntKind.wrap IntKind.i64 (i_13+(1:Int)))) [] h
  exact qE []
 exact qR
theorem ZfV {a b r} (h:ZcA F a b=some r):FZ ml 24 [] [.agg (Zam.c a),.agg (Zam.c b)] (.bool r) []:=by
 refine fA Tryz.func24 ?_
 unfold ZcA at h
 (conv=>whnf);left;(conv=>whnf);left;(conv=>whnf);left;refine bS h (fun h=>?_) fun h=>?_
 ·(conv=>whnf);refine bS h (fun h=>?_) fun h=>?_
  ·(conv=>whnf);left;(conv=>whnf);exact cL h ZeJ fun y_0 h=>qR
  exact qR
 exact qR
theorem Zgl {a b r} (h:ZcQ F a b=some r):FZ ml 12 [] [sM Zac.c a,sM Zac.c b] (.bool r) []:=by
 refine fA Tryz.func12 ?_
 unfold ZcQ at h
 (conv=>whnf);left;refine bS h (fun h=>qR) fun h=>?_;(conv=>whnf);refine jS h fun o4 v=>jT [] [] 0 (fun h k4 e=>?_) fun h=>?_
 ·(conv=>whnf);left;(conv=>whnf);refine lI (fun n' x'=>ZbB F a b n' x') (fun x'=>[(0,sM Zac.c a),(1,sM Zac.c b),(5,aI x')]) (fun x'=>[]) 0 (0:Int) [] h ?_;rintro n_48 i_49 h;rw [ZbB.eq_2] at h;(conv=>whnf);left;refine bS h (fun h=>?_) fun h=>?_
  ·(conv=>whnf);left;(conv=>whnf);refine jN h fun t54_65=>jM [(0,sM Zac.c a),(1,sM Zac.c b),(5,aI i_49),(54,.bool t54_65)] [] 0 (fun h=>?_) fun h=>?_
   ·(conv=>whnf);left;(conv=>whnf);refine gX h fun h=>?_;(conv=>whnf);refine oB h fun y_66 h=>?_;(conv=>whnf);refine gX h fun h=>?_;(conv=>whnf);refine oB h fun y_67 h=>?_;(conv=>whnf);refine bS h (fun h=>qE []) fun h=>?_;(conv=>whnf);refine gX h fun h=>?_;(conv=>whnf);refine oB h fun y_68 h=>?_;(conv=>whnf);refine gX h fun h=>?_;(conv=>whnf);refine oB h fun y_69 h=>?_;(conv=>whnf);refine bS h (fun h=>qE []) fun h=>?_;(conv=>whnf);refine gX h fun h=>?_;(conv=>whnf);refine oB h fun y_70 h=>?_;(conv=>whnf);refine gX h fun h=>?_;(conv=>whnf);refine oB h fun y_71 h=>?_;(conv=>whnf);left;(conv=>whnf);exact cL h ZfV fun y_72 h=>qE []
   (conv=>whnf);left;refine bS h (fun h=>?_) fun h=>?_
   ·cases h;cases k4;exact rfl
   exact rE (n_48,(IntKind.wrap IntKind.i64 (i_49+(1:Int)))) [] h
  exact qE []
 exact qR
theorem Zbu {g o_ c c_3 c_4 c_5 c_6 c_7 c_8 c_9 c_10 c_11 c_12 l r} (h:Zaz F g o_ c c_3 c_4 c_5 c_6 c_7 c_8 c_9 c_10 c_11 c_12 l=some r):FZ ml 15 [(0,rF [aI c,aI c_3,sM Zab.c c_4,aI c_5,aI c_6,aI c_7,aI c_8,aI c_9,aI c_10,aI c_11,.str c_12,.osw 1 1]),(1,rT (cSl Zaa.c) l)] [pp 0,aI g,.agg (Zae.c o_)] (.tup [.agg (Zam.c r.1),.agg (Zaa.c r.2.1)]) [(0,rF [aI c,aI c_3,sM Zab.c c_4,aI c_5,aI c_6,aI c_7,aI c_8,aI c_9,aI c_10,aI c_11,.str c_12,.osw 1 1]),(1,rT (cSl Zaa.c) r.2.2)]:=by
 refine fG Tryz.func15 ?_
 unfold Zaz at h
 (conv=>whnf);left;(conv=>whnf);left;(conv=>whnf);left;(conv=>whnf);refine jN h fun t21_0=>jM [(0,pp 0),(1,aI g),(5,pp 2),(6,pp 3),(7,pp 4),(21,.bool t21_0)] [(0,rF [aI c,aI c_3,sM Zab.c c_4,aI c_5,aI c_6,aI c_7,aI c_8,aI c_9,aI c_10,aI c_11,.str c_12,.osw 1 1]),(1,rT (cSl Zaa.c) l),(2,rF (Zae.c o_)),(3,rF [aI 0,aI 0,.esl]),(4,rF zr3)] 5 (fun h=>qE [(0,0),(1,1),(2,8),(3,16),(4,24)]) fun h=>?_;(conv=>whnf);left;refine bS h (fun h=>?_) fun h=>?_
 ·(conv=>whnf);left;(conv=>whnf);left;cases h;exact gW [(0,0),(1,1)]
 (conv=>whnf);refine gX h fun h=>?_;(conv=>whnf);refine oB h fun y_1 h=>?_;(conv=>whnf);refine oB h fun y_2 h=>?_;(conv=>whnf);left;(conv=>whnf);refine cR h (fun h=>Zba (ZjN h) rfl) fun y_3 h=>?_;(conv=>whnf);left;(conv=>whnf);left;(conv=>whnf);refine aX ?_;(conv=>whnf);refine gX h fun h=>?_;(conv=>whnf);refine oB h fun y_4 h=>?_;(conv=>whnf);refine oB h fun y_5 h=>?_;(conv=>whnf);refine aX ?_;cases h;exact gE [(0,0),(1,1)]
theorem ZcF {have_ r_ s c c_4 c_5 c_6 c_7 c_8 c_9 c_10 c_11 c_12 c_13 l r} (h:Za3 F have_ r_ s c c_4 c_5 c_6 c_7 c_8 c_9 c_10 c_11 c_12 c_13 l=some r):FZ ml 16 [(0,rF [aI c,aI c_4,sM Zab.c c_5,aI c_6,aI c_7,aI c_8,aI c_9,aI c_10,aI c_11,aI c_12,.str c_13,.osw 1 1]),(1,rT (cSl Zaa.c) l)] [pp 0,.agg (Zaa.c have_),.agg (Zam.c r_),.agg (Zaa.c s)] (.agg (Zaa.c r.1)) [(0,rF [aI r.2.1,aI r.2.2.1,sM Zab.c r.2.2.2.1,aI r.2.2.2.2.1,aI r.2.2.2.2.2.1,aI r.2.2.2.2.2.2.1,aI r.2.2.2.2.2.2.2.1,aI r.2.2.2.2.2.2.2.2.1,aI r.2.2.2.2.2.2.2.2.2.1,aI r.2.2.2.2.2.2.2.2.2.2.1,.str r.2.2.2.2.2.2.2.2.2.2.2,.osw 1 1]),(1,rT (cSl Zaa.c) l)]:=by
 refine fG Tryz.func16 ?_
 unfold Za3 at h
 (conv=>whnf);left;(conv=>whnf);left;(conv=>whnf);left;(conv=>whnf);left;(conv=>whnf);left;(conv=>whnf);refine cR h Zgr fun y_0 h=>?_;(conv=>whnf);left;(conv=>whnf);refine aX ?_;(conv=>whnf);refine jN h fun ⟨c_2,c_3,c_4,c_5,c_6,c_7,c_8,c_9,c_10,c_11,c_12⟩=>jM [(0,pp 0),(8,pp 2),(9,pp 3),(10,aI y_0.2)] [(0,rF [aI c_2,aI c_3,sM Zab.c c_4,aI c_5,aI c_6,aI c_7,aI c_8,aI c_9,aI c_10,aI c_11,.str c_12,.osw 1 1]),(1,rT (cSl Zaa.c) l),(2,rF zr3),(3,rF (Zaa.c y_0.1))] 4 (fun h=>?_) fun h=>?_
 ·(conv=>whnf);left;refine bS h (fun h=>?_) fun h=>?_
  ·(conv=>whnf);left;(conv=>whnf);exact cR h ZhE fun y_13 h=>qE [(0,0),(1,1),(2,32),(3,128)]
  exact qE [(0,0),(1,1),(2,32),(3,128)]
 (conv=>whnf);refine jN h fun ⟨c_15,c_16,c_17,c_18,c_19,c_20,c_21,c_22,c_23,c_24,c_25⟩=>jM [(8,pp 2),(9,pp 3)] [(0,rF [aI c_15,aI c_16,sM Zab.c c_17,aI c_18,aI c_19,aI c_20,aI c_21,aI c_22,aI c_23,aI c_24,.str c_25,.osw 1 1]),(1,rT (cSl Zaa.c) l),(2,rF zr3),(3,rF (Zaa.c y_0.1))] 4 (fun h=>?_) fun h=>?_
 ·(conv=>whnf);left;refine bS h (fun h=>?_) fun h=>?_
  ·(conv=>whnf);left;(conv=>whnf);exact cR h Zgz fun y_26 h=>qE [(0,0),(1,1),(2,2),(3,3)]
  exact qE [(0,0),(1,1),(2,2),(3,3)]
 exact qG [(0,0),(1,1)]
theorem Zea {script c c_2 c_3 c_4 c_5 c_6 c_7 c_8 c_9 c_10 c_11 l r} (h:Zbo F script c c_2 c_3 c_4 c_5 c_6 c_7 c_8 c_9 c_10 c_11 l=some r):FZ ml 8 [(0,rF [aI c,aI c_2,sM Zab.c c_3,aI c_4,aI c_5,aI c_6,aI c_7,aI c_8,aI c_9,aI c_10,.str c_11,.osw 1 1]),(1,rT (cSl Zaa.c) l)] [pp 0,sM Zar.c script] (.bool r.1) [(0,rF [aI r.2.1,aI r.2.2.1,sM Zab.c r.2.2.2.1,aI r.2.2.2.2.1,aI r.2.2.2.2.2.1,aI r.2.2.2.2.2.2.1,aI r.2.2.2.2.2.2.2.1,aI r.2.2.2.2.2.2.2.2.1,aI r.2.2.2.2.2.2.2.2.2.1,aI r.2.2.2.2.2.2.2.2.2.2.1,.str r.2.2.2.2.2.2.2.2.2.2.2.1,.osw 1 1]),(1,rT (cSl Zaa.c) r.2.2.2.2.2.2.2.2.2.2.2.2)]:=by
 refine fG Tryz.func8 ?_
 unfold Zbo at h
 (conv=>whnf);left;(conv=>whnf);left;(conv=>whnf);refine jN h fun ⟨c_94,c_95,c_96,c_97,c_98,c_99,c_100,c_101,c_102,c_103,c_104,l_105,c_106,c_107,c_108,c_109,c_110,c_111,c_112⟩=>jM [(0,pp 0),(5,pp 2)] [(0,rF [aI c_94,aI c_95,sM Zab.c c_96,aI c_97,aI c_98,aI c_99,aI c_100,aI c_101,aI c_102,aI c_103,.str c_104,.osw 1 1]),(1,rT (cSl Zaa.c) l_105),(2,rF [aI c_106,aI c_107,aI c_108,.str c_109,.str c_110,sM Zaf.c c_111,sM Zac.c c_112])] 3 (fun h=>?_) fun h=>?_
 ·(conv=>whnf);left;(conv=>whnf);refine lW (fun n' ⟨i_166,c_167,c_168,c_169,c_170,c_171,c_172,c_173,c_174,c_175,c_176,c_177,l_178,c_179,c_180,c_181,c_182,c_183,c_184,c_185,l_186,l_187⟩=>ZaI F script c n' i_166 c_167 c_168 c_169 c_170 c_171 c_172 c_173 c_174 c_175 c_176 c_177 l_178 c_179 c_180 c_181 c_182 c_183 c_184 c_185 l_186 l_187) (fun ⟨i_166,c_167,c_168,c_169,c_170,c_171,c_172,c_173,c_174,c_175,c_176,c_177,l_178,c_179,c_180,c_181,c_182,c_183,c_184,c_185,l_186,l_187⟩=>[(0,pp 0),(1,sM Zar.c script),(5,pp 2),(6,.osw 3 21),(7,.osw 4 1),(8,aI i_166)]) (fun ⟨i_166,c_167,c_168,c_169,c_170,c_171,c_172,c_173,c_174,c_175,c_176,c_177,l_178,c_179,c_180,c_181,c_182,c_183,c_184,c_185,l_186,l_187⟩=>[(0,rF [aI c_167,aI c_168,sM Zab.c c_169,aI c_170,aI c_171,aI c_172,aI c_173,aI c_174,aI c_175,aI c_176,.str c_177,.osw 1 1]),(1,rT (cSl Zaa.c) l_178),(2,rF [aI c_179,aI c_180,aI c_181,.str c_182,.str c_183,sM Zaf.c c_184,sM Zac.c c_185]),(3,rT Zae.c l_186),(4,rT (cInt IntKind.i64) l_187)]) 5 ((0:Int),c,c_2,c_3,c_4,c_5,c_6,c_7,c_8,c_9,c_10,c_11,l,(0:Int),(0:Int),(0:Int),([]:List UInt8),([]:List UInt8),[],[],[],[]) [(0,0),(1,1),(2,24),(3,40),(4,48)] h ?_;rintro n_165 ⟨i_166,c_167,c_168,c_169,c_170,c_171,c_172,c_173,c_174,c_175,c_176,c_177,l_178,c_179,c_180,c_181,c_182,c_183,c_184,c_185,l_186,l_187⟩ h;dsimp only at h;rw [ZaI.eq_2] at h;(conv=>whnf);refine jN h fun t33_188=>jM [(0,pp 0),(1,sM Zar.c script),(5,pp 2),(6,.osw 3 21),(7,.osw 4 1),(8,aI i_166),(33,.bool t33_188)] [(0,rF [aI c_167,aI c_168,sM Zab.c c_169,aI c_170,aI c_171,aI c_172,aI c_173,aI c_174,aI c_175,aI c_176,.str c_177,.osw 1 1]),(1,rT (cSl Zaa.c) l_178),(2,rF [aI c_179,aI c_180,aI c_181,.str c_182,.str c_183,sM Zaf.c c_184,sM Zac.c c_185]),(3,rT Zae.c l_186),(4,rT (cInt IntKind.i64) l_187)] 5 (fun h=>qE [(0,0),(1,1),(2,2),(3,3),(4,4)]) fun h=>?_;(conv=>whnf);left;refine bS h (fun h=>?_) fun h=>?_
  ·(conv=>whnf);refine jN h fun ⟨c_219,c_220,c_221,c_222,c_223,c_224,c_225,c_226,c_227,c_228,c_229,l_230,c_231,c_232,c_233,c_234,c_235,c_236,c_237,l_238,l_239⟩=>jM [(0,pp 0),(1,sM Zar.c script),(5,pp 2),(6,.osw 3 21),(7,.osw 4 1),(8,aI i_166)] [(0,rF [aI c_219,aI c_220,sM Zab.c c_221,aI c_222,aI c_223,aI c_224,aI c_225,aI c_226,aI c_227,aI c_228,.str c_229,.osw 1 1]),(1,rT (cSl Zaa.c) l_230),(2,rF [aI c_231,aI c_232,aI c_233,.str c_234,.str c_235,sM Zaf.c c_236,sM Zac.c c_237]),(3,rT Zae.c l_238),(4,rT (cInt IntKind.i64) l_239)] 5 (fun h=>?_) fun h=>?_
   ·(conv=>whnf);left;(conv=>whnf);refine gX h fun h=>?_;(conv=>whnf);refine oB h fun y_240 h=>?_;(conv=>whnf);left;(conv=>whnf);left;(conv=>whnf);left;refine bS h (fun h=>?_) fun h=>?_
    ·(conv=>whnf);left;(conv=>whnf);refine cR h Zgy fun y_241 h=>?_;(conv=>whnf);left;(conv=>whnf);refine aX ?_;(conv=>whnf);left;refine bS h (fun h=>?_) fun h=>?_
     ·(conv=>whnf);left;cases h;exact eW [(0,0),(1,1),(2,2),(3,3),(4,4)]
     exact qE [(0,0),(1,1),(2,2),(3,3),(4,4)]
    (conv=>whnf);left;refine bS h (fun h=>?_) fun h=>?_
    ·(conv=>whnf);left;(conv=>whnf);refine cR h Zgz fun y_242 h=>?_;(conv=>whnf);left;(conv=>whnf);refine jN h fun t98_243=>jM [(0,pp 0),(1,sM Zar.c script),(5,pp 2),(6,.osw 3 21),(7,.osw 4 1),(8,aI i_166),(12,pp 5),(98,.bool t98_243)] [(0,rF [aI c_167,aI c_168,sM Zab.c c_169,aI c_170,aI c_171,aI c_172,aI c_173,aI c_174,aI c_175,aI c_176,.str c_177,.osw 1 1]),(1,rT (cSl Zaa.c) l_178),(2,rF [aI c_179,aI c_180,aI c_181,.str c_182,.str c_183,sM Zaf.c c_184,sM Zac.c c_185]),(3,rT Zae.c l_186),(4,rT (cInt IntKind.i64) l_187),(5,rF (Zag.c y_242.1))] 6 (fun h=>qE [(0,0),(1,1),(2,2),(3,3),(4,4),(5,165)]) fun h=>?_;(conv=>whnf);left;refine bS h (fun h=>?_) fun h=>?_
     ·(conv=>whnf);left;cases h;exact eW [(0,0),(1,1),(2,2),(3,3),(4,4)]
     exact qE [(0,0),(1,1),(2,2),(3,3),(4,4)]
    (conv=>whnf);refine jN h fun t104_244=>jM [(0,pp 0),(1,sM Zar.c script),(5,pp 2),(6,.osw 3 21),(7,.osw 4 1),(8,aI i_166),(9,pp 5),(41,aI y_240.Kind),(104,.bool t104_244)] [(0,rF [aI c_167,aI c_168,sM Zab.c c_169,aI c_170,aI c_171,aI c_172,aI c_173,aI c_174,aI c_175,aI c_176,.str c_177,.osw 1 1]),(1,rT (cSl Zaa.c) l_178),(2,rF [aI c_179,aI c_180,aI c_181,.str c_182,.str c_183,sM Zaf.c c_184,sM Zac.c c_185]),(3,rT Zae.c l_186),(4,rT (cInt IntKind.i64) l_187),(5,rF (Zar.c y_240))] 6 (fun h=>qE [(0,0),(1,1),(2,2),(3,3),(4,4),(5,37)]) fun h=>?_;(conv=>whnf);left;refine bS h (fun h=>?_) fun h=>?_
    ·(conv=>whnf);left;(conv=>whnf);refine cR h Zdx fun y_245 h=>?_;(conv=>whnf);left;(conv=>whnf);refine aX ?_;(conv=>whnf);left;refine bS h (fun h=>qE [(0,0),(1,1),(2,2),(3,3),(4,4)]) fun h=>?_;(conv=>whnf);refine cG [0,1] h Zbu fun y_246 h=>?_;(conv=>whnf);left;(conv=>whnf);left;(conv=>whnf);refine jN h fun l_248=>jM [(0,pp 0),(1,sM Zar.c script),(5,pp 2),(6,.osw 3 21),(7,.osw 4 1),(8,aI i_166),(9,pp 5),(14,aI y_245.1),(15,pp 6),(17,pp 7),(18,pp 8)] [(0,rF [aI c_167,aI c_168,sM Zab.c c_169,aI c_170,aI c_171,aI c_172,aI c_173,aI c_174,aI c_175,aI c_176,.str c_177,.osw 1 1]),(1,rT (cSl Zaa.c) l_248),(2,rF [aI c_179,aI c_180,aI c_181,.str c_182,.str c_183,sM Zaf.c c_184,sM Zac.c c_185]),(3,rT Zae.c l_186),(4,rT (cInt IntKind.i64) l_187),(5,rF (Zar.c y_240)),(6,rF (Zae.c y_245.2.1)),(7,rF (Zam.c y_246.1)),(8,rF (Zaa.c y_246.2.1))] 9 (fun h=>?_) fun h=>?_
     ·(conv=>whnf);left;refine bS h (fun h=>?_) fun h=>?_
      ·(conv=>whnf);exact cG [0,1] h Zbu fun y_249 h=>qE [(0,0),(1,1),(2,2),(3,3),(4,4),(5,5),(6,86),(7,190),(8,198)]
      exact qE [(0,0),(1,1),(2,2),(3,3),(4,4),(5,5),(6,86),(7,190),(8,198)]
     (conv=>whnf);left;(conv=>whnf);refine aX ?_;(conv=>whnf);refine aX ?_;(conv=>whnf);refine gS h fun h=>?_;(conv=>whnf);left;(conv=>whnf);refine aX ?_;(conv=>whnf);refine aX ?_;(conv=>whnf);refine gS h fun h=>?_;(conv=>whnf);left;refine bS h (fun h=>?_) fun h=>?_
     ·(conv=>whnf);refine cG [0,1] h ZcF fun y_250 h=>?_;cases h;exact eE [(0,0),(1,1),(2,2),(3,33),(4,73)]
     cases h;exact eE [(0,0),(1,1),(2,2),(3,33),(4,73)]
    (conv=>whnf);left;refine bS h (fun h=>?_) fun h=>?_
    ·(conv=>whnf);left;cases h;exact eW [(0,0),(1,1),(2,2),(3,3),(4,4)]
    (conv=>whnf);left;refine bS h (fun h=>?_) fun h=>?_
    ·(conv=>whnf);refine gS h fun h=>?_;(conv=>whnf);refine oB h fun y_251 h=>?_;(conv=>whnf);refine oB h fun y_252 h=>?_;(conv=>whnf);refine gS h fun h=>?_;(conv=>whnf);refine oB h fun y_253 h=>?_;(conv=>whnf);refine oB h fun y_254 h=>?_;(conv=>whnf);exact cG [0,1] h Zbu fun y_255 h=>qE [(0,0),(1,1),(2,2),(3,3),(4,4)]
    exact qE [(0,0),(1,1),(2,2),(3,3),(4,4)]
   exact rE (n_165,(IntKind.wrap IntKind.i64 (i_166+(1:Int))),c_219,c_220,c_221,c_222,c_223,c_224,c_225,c_226,c_227,c_228,c_229,l_230,c_231,c_232,c_233,c_234,c_235,c_236,c_237,l_238,l_239) [(0,0),(1,1),(2,2),(3,3),(4,4)] h
  exact qE [(0,0),(1,1),(2,2)]
 (conv=>whnf);refine jS h fun o17 ⟨c_268,c_269,c_270,c_271,c_272,c_273,c_274,c_275,c_276,c_277,c_278,l_279⟩=>jT [] [(0,rF [aI (c_268),aI (c_269),sM Zab.c c_270,aI (c_271),aI (c_272),aI (c_273),aI (c_274),aI (c_275),aI (c_276),aI (c_277),.str c_278,.osw 1 1]),(1,rT (cSl Zaa.c) l_279)] 2 (fun h k17 e=>?_) fun h=>?_
 ·(conv=>whnf);left;(conv=>whnf);refine lI (fun n' ⟨i_287,c_288,c_289,c_290,c_291,c_292,c_293,c_294,c_295,c_296,c_297,c_298,l_299,c_300,c_301,c_302,c_303,c_304,c_305,c_306⟩=>ZaU F n' i_287 c_288 c_289 c_290 c_291 c_292 c_293 c_294 c_295 c_296 c_297 c_298 l_299 c_300 c_301 c_302 c_303 c_304 c_305 c_306) (fun ⟨i_287,c_288,c_289,c_290,c_291,c_292,c_293,c_294,c_295,c_296,c_297,c_298,l_299,c_300,c_301,c_302,c_303,c_304,c_305,c_306⟩=>[(0,pp 0),(5,pp 2),(19,aI i_287)]) (fun ⟨i_287,c_288,c_289,c_290,c_291,c_292,c_293,c_294,c_295,c_296,c_297,c_298,l_299,c_300,c_301,c_302,c_303,c_304,c_305,c_306⟩=>[(0,rF [aI c_288,aI c_289,sM Zab.c c_290,aI c_291,aI c_292,aI c_293,aI c_294,aI c_295,aI c_296,aI c_297,.str c_298,.osw 1 1]),(1,rT (cSl Zaa.c) l_299),(2,rF [aI c_300,aI c_301,aI c_302,.str c_303,.str c_304,sM Zaf.c c_305,sM Zac.c c_306])]) 3 ((0:Int),c_94,c_95,c_96,c_97,c_98,c_99,c_100,c_101,c_102,c_103,c_104,l_105,c_106,c_107,c_108,c_109,c_110,c_111,c_112) [(0,0),(1,1),(2,2)] h ?_;rintro n_286 ⟨i_287,c_288,c_289,c_290,c_291,c_292,c_293,c_294,c_295,c_296,c_297,c_298,l_299,c_300,c_301,c_302,c_303,c_304,c_305,c_306⟩ h;dsimp only at h;rw [ZaU.eq_2] at h;(conv=>whnf);left;refine bS h (fun h=>?_) fun h=>?_
  ·(conv=>whnf);left;(conv=>whnf);left;(conv=>whnf);refine cR h Zdx fun y_310 h=>?_;(conv=>whnf);left;(conv=>whnf);refine aX ?_;(conv=>whnf);left;refine bS h (fun h=>?_) fun h=>?_
   ·cases h;cases k17;exact gI [(0,0),(1,1)]
   (conv=>whnf);refine cG [0,1] h Zbu fun y_311 h=>?_;(conv=>whnf);left;(conv=>whnf);left;(conv=>whnf);refine cG [0,1] h ZcF fun y_312 h=>?_;exact rE (n_286,(IntKind.wrap IntKind.i64 (i_287+(1:Int))),y_312.2.1,y_312.2.2.1,y_312.2.2.2.1,y_312.2.2.2.2.1,y_312.2.2.2.2.2.1,y_312.2.2.2.2.2.2.1,y_312.2.2.2.2.2.2.2.1,y_312.2.2.2.2.2.2.2.2.1,y_312.2.2.2.2.2.2.2.2.2.1,y_312.2.2.2.2.2.2.2.2.2.2.1,y_312.2.2.2.2.2.2.2.2.2.2.2,y_311.2.2,y_312.1.Id,y_312.1.Epoch,y_312.1.State,y_312.1.From,y_312.1.To,y_312.1.Jobs,y_312.1.Seen) [(0,0),(1,1),(2,2)] h
  exact qE [(0,0),(1,1)]
 exact qG [(0,0),(1,1)]
end Go.T
