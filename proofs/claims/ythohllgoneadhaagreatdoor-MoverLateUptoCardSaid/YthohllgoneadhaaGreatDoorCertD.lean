import Derived.Test.YthohllgoneadhaaGreatDoorCertC
set_option linter.unusedVariables false
set_option maxRecDepth 200000
set_option maxHeartbeats 4000000
namespace Go.T
open Go Go.Ab Go.Proofs
variable {ml:Gv} {F:Nat}
theorem __shard_group__merge_FC0 {o_ l r} (h:__shard_group__merge F o_ l=some r):FZ ml 69 [(0,rF [.osw 1 7]),(1,rT api_Shard.c l)] [pp 0,.agg (api_Order.c o_)] (.tup [.agg (api_Result.c r.1),.agg (api_Shard.c r.2.1)]) [(0,rF [.osw 1 7]),(1,rT api_Shard.c r.2.2)]:=by
 refine fG Tryz.func69 ?_
 unfold __shard_group__merge at h
 (conv=>whnf);left;(conv=>whnf);left;(conv=>whnf);left;obtain ⟨y_0,hy,h⟩:=bind_e h;rcases y_0 with y_0 | y_0
 ·replace h:=elim_l h;(conv=>whnf);refine cg [0,1] (__shard_group__get_FC0 hy) ?_;obtain ⟨y_1,hy,h⟩:=bind_e h;rcases y_1 with y_1 | y_1
  ·replace h:=elim_l h;(conv=>whnf);refine cg [0,1] (__shard_group__get_FC0 hy) ?_;(conv=>whnf);refine aX ?_;(conv=>whnf);left;(conv=>whnf);refine aX ?_;(conv=>whnf);left;obtain ⟨y_2,hy,h⟩:=bind_e h;rcases y_2 with y_2 | y_2
   ·replace h:=elim_l h;(conv=>whnf);refine cg [0,1] (__shard_group__there_FC0 hy) ?_;(conv=>whnf);left;(conv=>whnf);left;refine bS h (fun h=>?_) fun h=>?_
    ·(conv=>whnf);left;(conv=>whnf);exact cR h shard_says_FC fun y_5 h=>qG [(0,0),(1,1)]
    (conv=>whnf);left;(conv=>whnf);left;(conv=>whnf);left;(conv=>whnf);exact cR h shard_says_FC fun y_6 h=>qG [(0,0),(1,1)]
   replace h:=elim_r h;(conv=>whnf);refine cg [0,1] (__shard_group__there_FC1 hy) ?_;(conv=>whnf);left;(conv=>whnf);left;refine bS h (fun h=>?_) fun h=>?_
   ·(conv=>whnf);left;(conv=>whnf);exact cR h shard_says_FC fun y_9 h=>qG [(0,0),(1,1)]
   (conv=>whnf);left;(conv=>whnf);left;(conv=>whnf);left;(conv=>whnf);exact cR h shard_says_FC fun y_10 h=>qG [(0,0),(1,1)]
  replace h:=elim_r h;(conv=>whnf);refine cg [0,1] (__shard_group__get_FC1 hy) ?_;(conv=>whnf);refine aX ?_;(conv=>whnf);left;(conv=>whnf);refine aX ?_;(conv=>whnf);left;obtain ⟨y_11,hy,h⟩:=bind_e h;rcases y_11 with y_11 | y_11
  ·replace h:=elim_l h;(conv=>whnf);refine cg [0,1] (__shard_group__there_FC0 hy) ?_;(conv=>whnf);left;(conv=>whnf);left;refine bS h (fun h=>?_) fun h=>?_
   ·(conv=>whnf);left;(conv=>whnf);exact cR h shard_says_FC fun y_16 h=>qG [(0,0),(1,1)]
   (conv=>whnf);left;(conv=>whnf);left;refine bS h (fun h=>?_) fun h=>?_
   ·(conv=>whnf);left;(conv=>whnf);exact cR h shard_says_FC fun y_17 h=>qG [(0,0),(1,1)]
   (conv=>whnf);refine oB h fun y_18 h=>?_;(conv=>whnf);refine aX ?_;(conv=>whnf);left;refine bS h (fun h=>?_) fun h=>?_
   ·(conv=>whnf);left;(conv=>whnf);exact cR h shard_says_FC fun y_19 h=>qG [(0,0),(1,1)]
   (conv=>whnf);left;cases h
  replace h:=elim_r h;(conv=>whnf);refine cg [0,1] (__shard_group__there_FC1 hy) ?_;(conv=>whnf);left;(conv=>whnf);left;refine bS h (fun h=>?_) fun h=>?_
  ·(conv=>whnf);left;(conv=>whnf);exact cR h shard_says_FC fun y_40 h=>qG [(0,0),(1,1)]
  (conv=>whnf);left;(conv=>whnf);left;refine bS h (fun h=>?_) fun h=>?_
  ·(conv=>whnf);left;(conv=>whnf);exact cR h shard_says_FC fun y_41 h=>qG [(0,0),(1,1)]
  (conv=>whnf);refine oB h fun y_42 h=>?_;(conv=>whnf);refine aX ?_;(conv=>whnf);left;refine bS h (fun h=>?_) fun h=>?_
  ·(conv=>whnf);left;(conv=>whnf);exact cR h shard_says_FC fun y_43 h=>qG [(0,0),(1,1)]
  (conv=>whnf);refine jN h fun t76_46=>jM [(0,pp 0),(3,pp 2),(4,pp 3),(5,pp 4),(6,AV.ptr 1 y_11.1 0),(7,AV.ptr 1 y_1 0),(76,.bool t76_46)] [(0,rF [.osw 1 7]),(1,rT api_Shard.c l),(2,rF (api_Order.c o_)),(3,rF [aI 0,aI 0,.esl]),(4,rF zr3)] 5 (fun h=>?_) fun h=>?_
  ·(conv=>whnf);left;(conv=>whnf);refine oB h fun y_47 h=>?_;(conv=>whnf);refine bS h (fun h=>qE [(0,0),(1,1),(2,8),(3,16),(4,24)]) fun h=>?_;(conv=>whnf);refine oB h fun y_48 h=>?_;exact qE [(0,0),(1,1),(2,8),(3,16),(4,24)]
  (conv=>whnf);left;refine bS h (fun h=>?_) fun h=>?_
  ·(conv=>whnf);left;(conv=>whnf);exact cR h shard_says_FC fun y_49 h=>qG [(0,0),(1,1)]
  (conv=>whnf);refine oB h fun y_50 h=>?_;(conv=>whnf);refine oB h fun y_51 h=>?_;(conv=>whnf);left;(conv=>whnf);refine cL h shard_past_FC fun y_52 h=>?_;(conv=>whnf);refine aX ?_;(conv=>whnf);left;refine bS h (fun h=>?_) fun h=>?_
  ·(conv=>whnf);left;(conv=>whnf);exact cR h shard_says_FC fun y_53 h=>qG [(0,0),(1,1)]
  (conv=>whnf);refine jN h fun t109_57=>jM [(0,pp 0),(3,pp 2),(4,pp 3),(5,pp 4),(6,AV.ptr 1 y_11.1 0),(7,AV.ptr 1 y_1 0),(109,.bool t109_57)] [(0,rF [.osw 1 7]),(1,rT api_Shard.c l),(2,rF (api_Order.c o_)),(3,rF [aI 0,aI 0,.esl]),(4,rF zr3)] 5 (fun h=>?_) fun h=>?_
  ·(conv=>whnf);left;(conv=>whnf);refine oB h fun y_58 h=>?_;(conv=>whnf);refine bS h (fun h=>qE [(0,0),(1,1),(2,2),(3,3),(4,4)]) fun h=>?_;(conv=>whnf);refine oB h fun y_59 h=>?_;(conv=>whnf);refine oB h fun y_60 h=>?_;exact qE [(0,0),(1,1),(2,2),(3,3),(4,4)]
  (conv=>whnf);left;refine bS h (fun h=>?_) fun h=>?_
  ·(conv=>whnf);left;(conv=>whnf);exact cR h shard_says_FC fun y_61 h=>qG [(0,0),(1,1)]
  (conv=>whnf);refine oB h fun y_62 h=>?_;(conv=>whnf);refine oB h fun y_63 h=>?_;(conv=>whnf);refine aX ?_;(conv=>whnf);left;refine bS h (fun h=>?_) fun h=>?_
  ·(conv=>whnf);left;(conv=>whnf);exact cR h shard_says_FC fun y_64 h=>qG [(0,0),(1,1)]
  (conv=>whnf);refine oB h fun y_65 h=>?_;(conv=>whnf);refine oB h fun y_66 h=>?_;(conv=>whnf);refine oB h fun y_67 h=>?_;(conv=>whnf);left;(conv=>whnf);left;obtain ⟨y_68,hy,h⟩:=bind_e h;refine ⟨_,_,(FC_arg2 (cons2 (congrArg AV.sl rQ) rfl) (FC_close (slices_Concat___api_Job_api_Job__FC0 hy) rfl)),Or.inr ⟨[245],rfl,?_⟩⟩;(conv=>whnf);refine oB h fun y_69 h=>?_;(conv=>whnf);refine oB (c:=api_Shard.c) h fun y_70 h=>?_;(conv=>whnf);refine oB (c:=api_Shard.c) h fun y_71 h=>?_;(conv=>whnf);refine aX ?_;(conv=>whnf);refine oB (c:=api_Shard.c) h fun y_72 h=>?_;(conv=>whnf);refine oB (c:=api_Shard.c) h fun y_73 h=>?_;(conv=>whnf);left;(conv=>whnf);refine cR h seat_Join_FC fun y_74 h=>?_;(conv=>whnf);refine oB (c:=api_Shard.c) h fun y_75 h=>?_;(conv=>whnf);refine aX ?_;(conv=>whnf);refine cG [0,1] h __shard_group__drop_FC0 fun y_76 h=>?_;(conv=>whnf);left;(conv=>whnf);exact cR h shard_says_FC fun y_77 h=>qG [(0,0),(1,1)]
 replace h:=elim_r h;(conv=>whnf);refine cg [0,1] (__shard_group__get_FC1 hy) ?_;obtain ⟨y_78,hy,h⟩:=bind_e h;rcases y_78 with y_78 | y_78
 ·replace h:=elim_l h;(conv=>whnf);refine cg [0,1] (__shard_group__get_FC0 hy) ?_;(conv=>whnf);refine aX ?_;(conv=>whnf);left;(conv=>whnf);refine oB h fun y_80 h=>?_;(conv=>whnf);refine aX ?_;(conv=>whnf);left;refine bS h (fun h=>?_) fun h=>?_
  ·(conv=>whnf);left;(conv=>whnf);exact cR h shard_says_FC fun y_81 h=>qG [(0,0),(1,1)]
  obtain ⟨y_82,hy,h⟩:=bind_e h;rcases y_82 with y_82 | y_82
  ·replace h:=elim_l h;(conv=>whnf);refine cg [0,1] (__shard_group__there_FC0 hy) ?_;(conv=>whnf);left;(conv=>whnf);left;refine bS h (fun h=>?_) fun h=>?_
   ·(conv=>whnf);left;(conv=>whnf);exact cR h shard_says_FC fun y_85 h=>qG [(0,0),(1,1)]
   (conv=>whnf);left;(conv=>whnf);left;(conv=>whnf);left;(conv=>whnf);exact cR h shard_says_FC fun y_86 h=>qG [(0,0),(1,1)]
  replace h:=elim_r h;(conv=>whnf);refine cg [0,1] (__shard_group__there_FC1 hy) ?_;(conv=>whnf);left;(conv=>whnf);left;refine bS h (fun h=>?_) fun h=>?_
  ·(conv=>whnf);left;(conv=>whnf);exact cR h shard_says_FC fun y_89 h=>qG [(0,0),(1,1)]
  (conv=>whnf);left;(conv=>whnf);left;(conv=>whnf);left;(conv=>whnf);exact cR h shard_says_FC fun y_90 h=>qG [(0,0),(1,1)]
 replace h:=elim_r h;(conv=>whnf);refine cg [0,1] (__shard_group__get_FC1 hy) ?_;(conv=>whnf);refine aX ?_;(conv=>whnf);left;(conv=>whnf);refine aX ?_;(conv=>whnf);left;obtain ⟨y_91,hy,h⟩:=bind_e h;rcases y_91 with y_91 | y_91
 ·replace h:=elim_l h;(conv=>whnf);refine cg [0,1] (__shard_group__there_FC0 hy) ?_;(conv=>whnf);left;(conv=>whnf);left;refine bS h (fun h=>?_) fun h=>?_
  ·(conv=>whnf);left;(conv=>whnf);exact cR h shard_says_FC fun y_96 h=>qG [(0,0),(1,1)]
  (conv=>whnf);left;(conv=>whnf);left;refine bS h (fun h=>?_) fun h=>?_
  ·(conv=>whnf);left;(conv=>whnf);exact cR h shard_says_FC fun y_97 h=>qG [(0,0),(1,1)]
  (conv=>whnf);refine oB h fun y_98 h=>?_;(conv=>whnf);refine aX ?_;(conv=>whnf);left;refine bS h (fun h=>?_) fun h=>?_
  ·(conv=>whnf);left;(conv=>whnf);exact cR h shard_says_FC fun y_99 h=>qG [(0,0),(1,1)]
  (conv=>whnf);left;cases h
 replace h:=elim_r h;(conv=>whnf);refine cg [0,1] (__shard_group__there_FC1 hy) ?_;(conv=>whnf);left;(conv=>whnf);left;refine bS h (fun h=>?_) fun h=>?_
 ·(conv=>whnf);left;(conv=>whnf);exact cR h shard_says_FC fun y_120 h=>qG [(0,0),(1,1)]
 (conv=>whnf);left;(conv=>whnf);left;refine bS h (fun h=>?_) fun h=>?_
 ·(conv=>whnf);left;(conv=>whnf);exact cR h shard_says_FC fun y_121 h=>qG [(0,0),(1,1)]
 (conv=>whnf);refine oB h fun y_122 h=>?_;(conv=>whnf);refine aX ?_;(conv=>whnf);left;refine bS h (fun h=>?_) fun h=>?_
 ·(conv=>whnf);left;(conv=>whnf);exact cR h shard_says_FC fun y_123 h=>qG [(0,0),(1,1)]
 (conv=>whnf);refine jN h fun t76_126=>jM [(0,pp 0),(3,pp 2),(4,pp 3),(5,pp 4),(6,AV.ptr 1 y_91.1 0),(7,AV.ptr 1 y_78 0),(76,.bool t76_126)] [(0,rF [.osw 1 7]),(1,rT api_Shard.c l),(2,rF (api_Order.c o_)),(3,rF [aI 0,aI 0,.esl]),(4,rF zr3)] 5 (fun h=>?_) fun h=>?_
 ·(conv=>whnf);left;(conv=>whnf);refine oB h fun y_127 h=>?_;(conv=>whnf);refine bS h (fun h=>qE [(0,0),(1,1),(2,8),(3,16),(4,24)]) fun h=>?_;(conv=>whnf);refine oB h fun y_128 h=>?_;exact qE [(0,0),(1,1),(2,8),(3,16),(4,24)]
 (conv=>whnf);left;refine bS h (fun h=>?_) fun h=>?_
 ·(conv=>whnf);left;(conv=>whnf);exact cR h shard_says_FC fun y_129 h=>qG [(0,0),(1,1)]
 (conv=>whnf);refine oB h fun y_130 h=>?_;(conv=>whnf);refine oB h fun y_131 h=>?_;(conv=>whnf);left;(conv=>whnf);refine cL h shard_past_FC fun y_132 h=>?_;(conv=>whnf);refine aX ?_;(conv=>whnf);left;refine bS h (fun h=>?_) fun h=>?_
 ·(conv=>whnf);left;(conv=>whnf);exact cR h shard_says_FC fun y_133 h=>qG [(0,0),(1,1)]
 (conv=>whnf);refine jN h fun t109_137=>jM [(0,pp 0),(3,pp 2),(4,pp 3),(5,pp 4),(6,AV.ptr 1 y_91.1 0),(7,AV.ptr 1 y_78 0),(109,.bool t109_137)] [(0,rF [.osw 1 7]),(1,rT api_Shard.c l),(2,rF (api_Order.c o_)),(3,rF [aI 0,aI 0,.esl]),(4,rF zr3)] 5 (fun h=>?_) fun h=>?_
 ·(conv=>whnf);left;(conv=>whnf);refine oB h fun y_138 h=>?_;(conv=>whnf);refine bS h (fun h=>qE [(0,0),(1,1),(2,2),(3,3),(4,4)]) fun h=>?_;(conv=>whnf);refine oB h fun y_139 h=>?_;(conv=>whnf);refine oB h fun y_140 h=>?_;exact qE [(0,0),(1,1),(2,2),(3,3),(4,4)]
 (conv=>whnf);left;refine bS h (fun h=>?_) fun h=>?_
 ·(conv=>whnf);left;(conv=>whnf);exact cR h shard_says_FC fun y_141 h=>qG [(0,0),(1,1)]
 (conv=>whnf);refine oB h fun y_142 h=>?_;(conv=>whnf);refine oB h fun y_143 h=>?_;(conv=>whnf);refine aX ?_;(conv=>whnf);left;refine bS h (fun h=>?_) fun h=>?_
 ·(conv=>whnf);left;(conv=>whnf);exact cR h shard_says_FC fun y_144 h=>qG [(0,0),(1,1)]
 (conv=>whnf);refine oB h fun y_145 h=>?_;(conv=>whnf);refine oB h fun y_146 h=>?_;(conv=>whnf);refine oB h fun y_147 h=>?_;(conv=>whnf);left;(conv=>whnf);left;obtain ⟨y_148,hy,h⟩:=bind_e h;refine ⟨_,_,(FC_arg2 (cons2 (congrArg AV.sl rQ) rfl) (FC_close (slices_Concat___api_Job_api_Job__FC0 hy) rfl)),Or.inr ⟨[245],rfl,?_⟩⟩;(conv=>whnf);refine oB h fun y_149 h=>?_;(conv=>whnf);refine oB (c:=api_Shard.c) h fun y_150 h=>?_;(conv=>whnf);refine oB (c:=api_Shard.c) h fun y_151 h=>?_;(conv=>whnf);refine aX ?_;(conv=>whnf);refine oB (c:=api_Shard.c) h fun y_152 h=>?_;(conv=>whnf);refine oB (c:=api_Shard.c) h fun y_153 h=>?_;(conv=>whnf);left;(conv=>whnf);refine cR h seat_Join_FC fun y_154 h=>?_;(conv=>whnf);refine oB (c:=api_Shard.c) h fun y_155 h=>?_;(conv=>whnf);refine aX ?_;(conv=>whnf);refine cG [0,1] h __shard_group__drop_FC0 fun y_156 h=>?_;(conv=>whnf);left;(conv=>whnf);exact cR h shard_says_FC fun y_157 h=>qG [(0,0),(1,1)]
theorem shard_Do_FC0 {list o_ r} (h:shard_Do F list o_=some r):FZ ml 33 [] [sM api_Shard.c list,.agg (api_Order.c o_)] (.tup [.osw 0 7,.agg (api_Result.c r.1),.agg (api_Shard.c r.2.1)]) [(0,rT api_Shard.c r.2.2)]:=by
 refine fG Tryz.func33 ?_
 unfold shard_Do at h
 (conv=>whnf);left;(conv=>whnf);left;(conv=>whnf);left;(conv=>whnf);left;(conv=>whnf);refine cL h shard_Check_FC fun y_0 h=>?_;(conv=>whnf);left;refine bS h (fun h=>?_) fun h=>?_
 ·(conv=>whnf);left;(conv=>whnf);left;cases h;exact gW [(0,80)]
 (conv=>whnf);refine Or.inr (buildV_i 0 7 _ rfl rfl ?_);(conv=>whnf);left;(conv=>whnf);refine jN h fun l_9=>jM [(3,pp 0),(5,pp 1),(6,pp 2),(7,pp 3)] [(0,rF (api_Order.c o_)),(1,rF [aI 0,aI 0,.esl]),(2,rF zr3),(3,rF [.osw 4 7]),(4,rT api_Shard.c l_9)] 5 (fun h=>?_) fun h=>?_
 ·(conv=>whnf);left;(conv=>whnf);refine lI (fun n' x'=>shard_Do_l0 F list n' x'.1 x'.2) (fun x'=>[(3,pp 0),(5,pp 1),(6,pp 2),(7,pp 3),(21,sM api_Shard.c list),(22,aI (@Nat.cast Int instNatCastInt (List.length (List.map api_Shard.c list)))),(23,aI x'.1)]) (fun x'=>[(0,rF (api_Order.c o_)),(1,rF [aI 0,aI 0,.esl]),(2,rF zr3),(3,rF [.osw 4 7]),(4,rT api_Shard.c x'.2)]) 5 ((0:Int),[]) [(0,8),(1,24),(2,32),(3,72),(4,64)] h ?_;rintro n_14 ⟨t23_15,l_16⟩ h;dsimp only at h;rw [shard_Do_l0.eq_2] at h;(conv=>whnf);left;refine bS h (fun h=>?_) fun h=>?_
  ·(conv=>whnf);left;(conv=>whnf);refine gX h fun h=>?_;(conv=>whnf);refine oB h fun y_19 h=>?_;(conv=>whnf);left;(conv=>whnf);left;(conv=>whnf);refine cR h (fun h=>FC_close (shard_copied_FC0 h) rfl) fun y_20 h=>?_;(conv=>whnf);left;(conv=>whnf);refine aX ?_;(conv=>whnf);refine aX ?_;(conv=>whnf);refine gS h fun h=>?_;(conv=>whnf);left;(conv=>whnf);refine aX ?_;exact rE (n_14,(IntKind.wrap IntKind.i64 (t23_15+(1:Int))),(l_16++((api_Shard.mk y_20.1 y_20.2.1 y_20.2.2.1 y_20.2.2.2.1 y_20.2.2.2.2.1 y_20.2.2.2.2.2.1 y_20.2.2.2.2.2.2)::[]))) [(0,0),(1,1),(2,2),(3,3),(4,109)] h
  exact qE [(0,0),(1,1),(2,2),(3,3),(4,4)]
 (conv=>whnf);left;(conv=>whnf);refine cR h shard_orders_FC0 fun y_21 h=>?_;(conv=>whnf);refine aX ?_;(conv=>whnf);left;refine bS h (fun h=>?_) fun h=>?_
 ·(conv=>whnf);refine aX ?_;(conv=>whnf);left;cases h
 (conv=>whnf);refine bS h (fun h=>?_) fun h=>?_
 ·(conv=>whnf);refine aX ?_;(conv=>whnf);left;(conv=>whnf);refine cG [3,4] h __shard_group__freeze_FC0 fun y_22 h=>?_;(conv=>whnf);left;(conv=>whnf);left;(conv=>whnf);left;(conv=>whnf);exact cR h (fun h=>FC_close (slices_Clone___api_Job_api_Job__FC0 h) rfl) fun y_23 h=>qG [(0,4)]
 (conv=>whnf);refine bS h (fun h=>?_) fun h=>?_
 ·(conv=>whnf);refine aX ?_;(conv=>whnf);left;(conv=>whnf);refine cG [3,4] h __shard_group__thaw_FC0 fun y_24 h=>?_;(conv=>whnf);left;(conv=>whnf);left;(conv=>whnf);left;(conv=>whnf);exact cR h (fun h=>FC_close (slices_Clone___api_Job_api_Job__FC0 h) rfl) fun y_25 h=>qG [(0,4)]
 (conv=>whnf);refine bS h (fun h=>?_) fun h=>?_
 ·(conv=>whnf);refine aX ?_;(conv=>whnf);left;(conv=>whnf);refine cG [3,4] h __shard_group__install_FC0 fun y_26 h=>?_;(conv=>whnf);left;(conv=>whnf);left;(conv=>whnf);left;(conv=>whnf);exact cR h (fun h=>FC_close (slices_Clone___api_Job_api_Job__FC0 h) rfl) fun y_27 h=>qG [(0,119)]
 (conv=>whnf);refine bS h (fun h=>?_) fun h=>?_
 ·(conv=>whnf);refine aX ?_;(conv=>whnf);left;(conv=>whnf);refine cG [3,4] h __shard_group__open_FC0 fun y_28 h=>?_;(conv=>whnf);left;(conv=>whnf);left;(conv=>whnf);left;(conv=>whnf);exact cR h (fun h=>FC_close (slices_Clone___api_Job_api_Job__FC0 h) rfl) fun y_29 h=>qG [(0,4)]
 (conv=>whnf);refine bS h (fun h=>?_) fun h=>?_
 ·(conv=>whnf);refine aX ?_;(conv=>whnf);left;(conv=>whnf);refine cG [3,4] h __shard_group__retire_FC0 fun y_30 h=>?_;(conv=>whnf);left;(conv=>whnf);left;(conv=>whnf);left;(conv=>whnf);exact cR h (fun h=>FC_close (slices_Clone___api_Job_api_Job__FC0 h) rfl) fun y_31 h=>qG [(0,119)]
 (conv=>whnf);refine bS h (fun h=>?_) fun h=>?_
 ·(conv=>whnf);refine aX ?_;(conv=>whnf);left;(conv=>whnf);refine cG [3,4] h __shard_group__split_FC0 fun y_32 h=>?_;(conv=>whnf);left;(conv=>whnf);left;(conv=>whnf);left;(conv=>whnf);exact cR h (fun h=>FC_close (slices_Clone___api_Job_api_Job__FC0 h) rfl) fun y_33 h=>qG [(0,119)]
 (conv=>whnf);refine bS h (fun h=>?_) fun h=>?_
 ·(conv=>whnf);refine aX ?_;(conv=>whnf);left;(conv=>whnf);refine cG [3,4] h __shard_group__merge_FC0 fun y_34 h=>?_;(conv=>whnf);left;(conv=>whnf);left;(conv=>whnf);left;(conv=>whnf);exact cR h (fun h=>FC_close (slices_Clone___api_Job_api_Job__FC0 h) rfl) fun y_35 h=>qG [(0,4)]
 (conv=>whnf);refine aX ?_;(conv=>whnf);left;(conv=>whnf);left;(conv=>whnf);left;cases h;exact gW [(0,4)]
theorem slices_Insert___api_Span_api_Span__i1_FC0 {i l l_2 r} (h:slices_Insert___api_Span_api_Span__i1 F i l l_2=some r):FZ ml 51 [(0,(AO.rows true (List.map api_Span.c l))),(1,(AO.rows true (List.map api_Span.c l_2)))] [(AV.osw 0 5),aI i,(AV.osw 1 5)] (AV.osw 2 5) [(2,(AO.rows true (List.map api_Span.c r)))]:=by
 unfold slices_Insert___api_Span_api_Span__i1 at h
 cases l_2 with
 | nil=>cases h
 | cons x rr =>
  cases rr with
  | cons _ _=>cases h
  | nil =>
   obtain ⟨hg,h⟩:=grd_e h
   cases h
   have hF:=FC_insert (G:=GM ml) (s:=List.map api_Span.c l) (p:=true) (q:=true) (row:=api_Span.c x) (i:=Int.toNat i) ins_ok_51 (by decide) (fun r hr=>by obtain ⟨y,_,rfl⟩:=List.mem_map.1 hr;rfl) (by simpa using hg.2.1) (by simpa using hg.2.2) rfl
   rw [Int.toNat_of_nonneg hg.1] at hF
   have e:List.map api_Span.c (List.take (Int.toNat i) l++x::List.drop (Int.toNat i) l)=List.take (Int.toNat i) (List.map api_Span.c l)++api_Span.c x::List.drop (Int.toNat i) (List.map api_Span.c l):=by rw [List.map_append,List.map_cons,List.map_take,List.map_drop]
   rw [e]
   exact hF
theorem slices_Delete___api_Span_api_Span__i1_FC0 {i j l r} (h:slices_Delete___api_Span_api_Span__i1 F i j l=some r):FZ ml 52 [(0,(AO.rows true (List.map api_Span.c l)))] [(AV.osw 0 5),aI i,aI j] (AV.osw 1 5) [(1,(AO.rows true (List.map api_Span.c r)))]:=by
 unfold slices_Delete___api_Span_api_Span__i1 at h
 obtain ⟨hg,h⟩:=grd_e h
 cases h
 obtain ⟨g1,rfl,g3⟩:=hg
 have hF:=FC_delete (G:=GM ml) (s:=List.map api_Span.c l) (p:=true) (i:=Int.toNat i) del_ok_52 (by decide) (fun r hr=>by obtain ⟨y,_,rfl⟩:=List.mem_map.1 hr;rfl) (by simpa using g3)
 rw [Int.toNat_of_nonneg g1] at hF
 have e:List.map api_Span.c (List.take (Int.toNat i) l++List.drop (Int.toNat i+1) l)=List.take (Int.toNat i) (List.map api_Span.c l)++List.drop (Int.toNat i+1) (List.map api_Span.c l):=by rw [List.map_append,List.map_take,List.map_drop]
 rw [e]
 exact hF
theorem atlas_Advance_FC {a phase r} (h:atlas_Advance F a phase=some r):FZ ml 34 [] [.agg (api_Atlas.c a),aI phase] (.tup [.agg (api_Atlas.c r.1),aI r.2]) []:=by
 refine fK Tryz.func34 ?_
 unfold atlas_Advance at h
 (conv=>whnf);left;(conv=>whnf);left;(conv=>whnf);left;(conv=>whnf);refine cL h atlas_Check_FC fun y_0 h=>?_;(conv=>whnf);left;refine bS h (fun h=>qK) fun h=>?_;(conv=>whnf);left;(conv=>whnf);refine cR h atlas_copied_i1_FC0 fun y_1 h=>?_;(conv=>whnf);left;(conv=>whnf);refine jN h fun t27_2=>jM [(1,aI phase),(2,pp 0),(4,pp 1),(6,pp 2),(27,.bool t27_2)] [(0,rF [aI y_1.1,aI y_1.2.1,.osw 3 5,aI y_1.2.2.1,aI y_1.2.2.2.1,aI y_1.2.2.2.2.1,aI y_1.2.2.2.2.2.1,aI y_1.2.2.2.2.2.2.1,aI y_1.2.2.2.2.2.2.2.1,aI y_1.2.2.2.2.2.2.2.2.1,.str y_1.2.2.2.2.2.2.2.2.2.1]),(1,rF zr1),(2,rF [aI y_1.2.2.1,aI y_1.2.2.2.1,aI y_1.2.2.2.2.1,aI y_1.2.2.2.2.2.1,aI y_1.2.2.2.2.2.2.1,aI y_1.2.2.2.2.2.2.2.1,aI y_1.2.2.2.2.2.2.2.2.1,.str y_1.2.2.2.2.2.2.2.2.2.1]),(3,rT api_Span.c y_1.2.2.2.2.2.2.2.2.2.2)] 4 (fun h=>qE [(0,8),(1,16),(2,96),(3,64)]) fun h=>?_;(conv=>whnf);left;refine bS h (fun h=>qK) fun h=>?_;(conv=>whnf);left;(conv=>whnf);refine cL h atlas_place_FC fun y_3 h=>?_;(conv=>whnf);refine gX h fun h=>?_;(conv=>whnf);refine oB h fun y_4 h=>?_;(conv=>whnf);left;(conv=>whnf);refine jN h fun ⟨c_21,c_22,c_23,c_24,c_25,c_26,c_27,c_28,l_29⟩=>jM [(2,pp 0),(4,pp 1)] [(0,rF [aI y_1.1,aI y_1.2.1,.osw 2 5,aI c_21,aI c_22,aI c_23,aI c_24,aI c_25,aI c_26,aI c_27,.str c_28]),(1,rF zr1),(2,rT api_Span.c l_29)] 3 (fun h=>?_) fun h=>?_
 ·(conv=>whnf);left;(conv=>whnf);left;refine bS h (fun h=>qE [(0,0),(1,1),(2,3)]) fun h=>?_;(conv=>whnf);refine jN h fun t42_30=>jM [(1,aI phase),(2,pp 0),(4,pp 1),(6,pp 2),(7,aI y_3),(8,AV.ptr 3 (Int.toNat y_3) 0),(42,.bool t42_30)] [(0,rF [aI y_1.1,aI y_1.2.1,.osw 3 5,aI 0,aI 0,aI 0,aI 0,aI 0,aI 0,aI 0,.str []]),(1,rF zr1),(2,rF [aI y_1.2.2.1,aI y_1.2.2.2.1,aI y_1.2.2.2.2.1,aI y_1.2.2.2.2.2.1,aI y_1.2.2.2.2.2.2.1,aI y_1.2.2.2.2.2.2.2.1,aI y_1.2.2.2.2.2.2.2.2.1,.str y_1.2.2.2.2.2.2.2.2.2.1]),(3,rT api_Span.c y_1.2.2.2.2.2.2.2.2.2.2)] 4 (fun h=>qE [(0,0),(1,1),(2,2),(3,3)]) fun h=>?_;(conv=>whnf);left;refine bS h (fun h=>?_) fun h=>?_
  ·(conv=>whnf);refine oB h fun y_31 h=>?_;(conv=>whnf);refine oB h fun y_32 h=>?_;(conv=>whnf);refine oB (c:=api_Span.c) h fun y_33 h=>?_;(conv=>whnf);refine aX ?_;cases h;exact eE [(0,0),(1,1),(2,3)]
  (conv=>whnf);refine jN h fun t66_34=>jM [(2,pp 0),(4,pp 1),(6,pp 2),(7,aI y_3),(8,AV.ptr 3 (Int.toNat y_3) 0),(66,.bool t66_34)] [(0,rF [aI y_1.1,aI y_1.2.1,.osw 3 5,aI 0,aI 0,aI 0,aI 0,aI 0,aI 0,aI 0,.str []]),(1,rF zr1),(2,rF [aI y_1.2.2.1,aI y_1.2.2.2.1,aI y_1.2.2.2.2.1,aI y_1.2.2.2.2.2.1,aI y_1.2.2.2.2.2.2.1,aI y_1.2.2.2.2.2.2.2.1,aI y_1.2.2.2.2.2.2.2.2.1,.str y_1.2.2.2.2.2.2.2.2.2.1]),(3,rT api_Span.c y_1.2.2.2.2.2.2.2.2.2.2)] 4 (fun h=>qE [(0,0),(1,1),(2,2),(3,3)]) fun h=>?_;(conv=>whnf);left;refine bS h (fun h=>qE [(0,0),(1,1),(2,3)]) fun h=>?_;(conv=>whnf);left;refine bS h (fun h=>?_) fun h=>?_
  ·(conv=>whnf);refine oB h fun y_35 h=>?_;(conv=>whnf);refine oB h fun y_36 h=>?_;(conv=>whnf);refine oB (c:=api_Span.c) h fun y_37 h=>?_;(conv=>whnf);left;(conv=>whnf);refine aX ?_;(conv=>whnf);refine oB (c:=api_Span.c) h fun y_38 h=>?_;(conv=>whnf);left;(conv=>whnf);exact cG [3,292] h slices_Insert___api_Span_api_Span__i1_FC0 fun y_39 h=>qE [(0,0),(1,1),(2,302)]
  (conv=>whnf);left;refine bS h (fun h=>?_) fun h=>?_
  ·(conv=>whnf);refine gX h fun h=>?_;(conv=>whnf);refine oB h fun y_40 h=>?_;(conv=>whnf);refine oB h fun y_41 h=>?_;(conv=>whnf);left;(conv=>whnf);refine oB h fun y_42 h=>?_;(conv=>whnf);refine oB h fun y_43 h=>?_;(conv=>whnf);refine oB (c:=api_Span.c) h fun y_44 h=>?_;(conv=>whnf);refine aX ?_;(conv=>whnf);exact cG [3] h slices_Delete___api_Span_api_Span__i1_FC0 fun y_45 h=>qE [(0,0),(1,1),(2,325)]
  exact qE [(0,0),(1,1),(2,3)]
 exact qK
theorem atlas_Abort_FC {a r} (h:atlas_Abort F a=some r):FZ ml 21 [] [.agg (api_Atlas.c a)] (.tup [.agg (api_Atlas.c r.1),aI r.2]) []:=by
 refine fK Tryz.func21 ?_
 unfold atlas_Abort at h
 (conv=>whnf);left;(conv=>whnf);left;(conv=>whnf);left;(conv=>whnf);refine cL h atlas_Check_FC fun y_0 h=>?_;(conv=>whnf);left;refine bS h (fun h=>qK) fun h=>?_;(conv=>whnf);left;(conv=>whnf);refine cR h atlas_copied_i1_FC0 fun y_1 h=>?_;(conv=>whnf);refine jN h fun t19_2=>jM [(1,pp 0),(2,pp 1),(19,.bool t19_2)] [(0,rF [aI y_1.1,aI y_1.2.1,.osw 2 5,aI y_1.2.2.1,aI y_1.2.2.2.1,aI y_1.2.2.2.2.1,aI y_1.2.2.2.2.2.1,aI y_1.2.2.2.2.2.2.1,aI y_1.2.2.2.2.2.2.2.1,aI y_1.2.2.2.2.2.2.2.2.1,.str y_1.2.2.2.2.2.2.2.2.2.1]),(1,rF zr1),(2,rT api_Span.c y_1.2.2.2.2.2.2.2.2.2.2)] 3 (fun h=>qE [(0,8),(1,16),(2,64)]) fun h=>?_;(conv=>whnf);left;refine bS h (fun h=>qK) fun h=>?_;(conv=>whnf);left;(conv=>whnf);refine cL h atlas_place_FC fun y_3 h=>?_;(conv=>whnf);refine gX h fun h=>?_;(conv=>whnf);refine oB h fun y_4 h=>?_;(conv=>whnf);refine oB h fun y_5 h=>?_;(conv=>whnf);refine gX h fun h=>?_;(conv=>whnf);refine oB h fun y_6 h=>?_;(conv=>whnf);refine oB h fun y_7 h=>?_;exact qK
theorem matinsref18_Known_FC {l id r} (h:matinsref18_Known F l id=some r):FZ ml 38 [] [sM api_Shard.c l,aI id] (aI r) []:=by
 refine fA Tryz.func38 ?_
 unfold matinsref18_Known at h
 (conv=>whnf);refine jS h fun o0 v=>jT [] [] 0 (fun h k0 e=>?_) fun h=>?_
 ·(conv=>whnf);left;(conv=>whnf);refine lI (fun n' x'=>matinsref18_Known_l0 F l id n' x') (fun x'=>[(0,sM api_Shard.c l),(1,aI id),(5,aI x')]) (fun x'=>[]) 0 (0:Int) [] h ?_;rintro n_6 i_7 h;rw [matinsref18_Known_l0.eq_2] at h;(conv=>whnf);left;refine bS h (fun h=>?_) fun h=>?_
  ·(conv=>whnf);left;(conv=>whnf);refine gX h fun h=>?_;(conv=>whnf);refine oB h fun y_9 h=>?_;(conv=>whnf);left;refine bS h (fun h=>?_) fun h=>?_
   ·cases h;cases k0;exact rfl
   exact rE (n_6,(IntKind.wrap IntKind.i64 (i_7+(1:Int)))) [] h
  exact qE []
 exact qR
theorem matinsref18_Find_FC {l id r} (h:matinsref18_Find F l id=some r):FZ ml 22 [] [sM api_Shard.c l,aI id] (aI r) []:=by
 refine fA Tryz.func22 ?_
 unfold matinsref18_Find at h
 (conv=>whnf);left;(conv=>whnf);refine cL h matinsref18_Known_FC fun y_0 h=>?_;(conv=>whnf);refine jN h fun t18_2=>jM [(5,aI y_0),(18,.bool t18_2)] [] 0 (fun h=>?_) fun h=>?_
 ·(conv=>whnf);left;refine bS h (fun h=>?_) fun h=>?_
  ·(conv=>whnf);refine gX h fun h=>?_;(conv=>whnf);refine oB h fun y_3 h=>?_;exact qE []
  exact qE []
 exact qR
theorem matinsref17_Right_FC {client seq r} (h:matinsref17_Right F client seq=some r):FZ ml 59 [] [aI client,aI seq] (.bool r) []:=by
 refine fA Tryz.func59 ?_
 unfold matinsref17_Right at h
 exact qR
theorem matinsref17_Check_FC {l r} (h:matinsref17_Check F l=some r):FZ ml 39 [] [sM api_Seen.c l] (.bool r) []:=by
 refine fA Tryz.func39 ?_
 unfold matinsref17_Check at h
 (conv=>whnf);refine jS h fun o4 v=>jT [] [] 0 (fun h k4 e=>?_) fun h=>?_
 ·(conv=>whnf);left;(conv=>whnf);refine lI (fun n' x'=>matinsref17_Check_l0 F l n' x'.1 x'.2) (fun x'=>[(0,sM api_Seen.c l),(3,aI x'.1),(4,aI x'.2)]) (fun x'=>[]) 0 ((0:Int),(0:Int)) [] h ?_;rintro n_36 ⟨last_37,i_38⟩ h;dsimp only at h;rw [matinsref17_Check_l0.eq_2] at h;(conv=>whnf);left;refine bS h (fun h=>?_) fun h=>?_
  ·(conv=>whnf);left;(conv=>whnf);refine jN h fun t31_49=>jM [(0,sM api_Seen.c l),(4,aI i_38),(31,.bool t31_49)] [] 0 (fun h=>?_) fun h=>?_
   ·(conv=>whnf);left;(conv=>whnf);refine gX h fun h=>?_;(conv=>whnf);refine oB h fun y_50 h=>?_;(conv=>whnf);refine gX h fun h=>?_;(conv=>whnf);refine oB h fun y_51 h=>?_;(conv=>whnf);left;(conv=>whnf);refine cL h matinsref17_Right_FC fun y_52 h=>?_;(conv=>whnf);refine bS h (fun h=>qE []) fun h=>?_;(conv=>whnf);refine gX h fun h=>?_;(conv=>whnf);refine oB h fun y_53 h=>?_;exact qE []
   (conv=>whnf);left;refine bS h (fun h=>?_) fun h=>?_
   ·cases h;cases k4;exact rfl
   (conv=>whnf);refine gX h fun h=>?_;(conv=>whnf);refine oB h fun y_54 h=>?_;exact rE (n_36,y_54.Client,(IntKind.wrap IntKind.i64 (i_38+(1:Int)))) [] h
  exact qE []
 exact qR
theorem matinsref17_merge_FC0 {a b r} (h:matinsref17_merge F a b=some r):FZ ml 40 [] [sM api_Seen.c a,sM api_Seen.c b] (.osw 0 5) [(0,rT api_Seen.c r)]:=by
 refine fG Tryz.func40 ?_
 unfold matinsref17_merge at h
 (conv=>whnf);refine jN h fun l_28=>jM [(5,.osw 0 5)] [(0,rT api_Seen.c l_28)] 1 (fun h=>?_) fun h=>?_
 ·(conv=>whnf);left;(conv=>whnf);refine lI (fun n' x'=>matinsref17_merge_l0 F a b n' x'.1 x'.2.1 x'.2.2) (fun x'=>[(0,sM api_Seen.c a),(1,sM api_Seen.c b),(5,.osw 0 5),(6,aI x'.1),(7,aI x'.2.1)]) (fun x'=>[(0,rT api_Seen.c x'.2.2)]) 1 ((0:Int),(0:Int),[]) [(0,16)] h ?_;rintro n_43 ⟨i_44,k_45,l_46⟩ h;dsimp only at h;rw [matinsref17_merge_l0.eq_2] at h;(conv=>whnf);refine jN h fun t17_47=>jM [(0,sM api_Seen.c a),(1,sM api_Seen.c b),(5,.osw 0 5),(6,aI i_44),(7,aI k_45),(17,.bool t17_47)] [(0,rT api_Seen.c l_46)] 1 (fun h=>qE [(0,0)]) fun h=>?_;(conv=>whnf);left;refine bS h (fun h=>?_) fun h=>?_
  ·(conv=>whnf);left;(conv=>whnf);refine jN h fun t40_50=>jM [(0,sM api_Seen.c a),(1,sM api_Seen.c b),(5,.osw 0 5),(6,aI i_44),(7,aI k_45),(40,.bool t40_50)] [(0,rT api_Seen.c l_46)] 1 (fun h=>?_) fun h=>?_
   ·(conv=>whnf);left;refine bS h (fun h=>qE [(0,0)]) fun h=>?_;(conv=>whnf);refine bS h (fun h=>?_) fun h=>?_
    ·(conv=>whnf);refine gX h fun h=>?_;(conv=>whnf);refine oB h fun y_51 h=>?_;(conv=>whnf);refine gX h fun h=>?_;(conv=>whnf);refine oB h fun y_52 h=>?_;exact qE [(0,0)]
    exact qE [(0,0)]
   (conv=>whnf);left;refine bS h (fun h=>?_) fun h=>?_
   ·(conv=>whnf);refine gX h fun h=>?_;(conv=>whnf);refine oB h fun y_53 h=>?_;(conv=>whnf);left;(conv=>whnf);refine aX ?_;(conv=>whnf);refine aX ?_;(conv=>whnf);refine gS h fun h=>?_;exact rE (n_43,(IntKind.wrap IntKind.i64 (i_44+(1:Int))),k_45,(l_46++(y_53::[]))) [(0,49)] h
   (conv=>whnf);refine jN h fun t66_56=>jM [(0,sM api_Seen.c a),(1,sM api_Seen.c b),(5,.osw 0 5),(6,aI i_44),(7,aI k_45),(66,.bool t66_56)] [(0,rT api_Seen.c l_46)] 1 (fun h=>?_) fun h=>?_
   ·(conv=>whnf);left;refine bS h (fun h=>qE [(0,0)]) fun h=>?_;(conv=>whnf);refine gX h fun h=>?_;(conv=>whnf);refine oB h fun y_57 h=>?_;(conv=>whnf);refine gX h fun h=>?_;(conv=>whnf);refine oB h fun y_58 h=>?_;exact qE [(0,0)]
   (conv=>whnf);left;refine bS h (fun h=>?_) fun h=>?_
   ·(conv=>whnf);refine gX h fun h=>?_;(conv=>whnf);refine oB h fun y_59 h=>?_;(conv=>whnf);left;(conv=>whnf);refine aX ?_;(conv=>whnf);refine aX ?_;(conv=>whnf);refine gS h fun h=>?_;exact rE (n_43,i_44,(IntKind.wrap IntKind.i64 (k_45+(1:Int))),(l_46++(y_59::[]))) [(0,49)] h
   (conv=>whnf);refine gX h fun h=>?_;(conv=>whnf);refine oB h fun y_60 h=>?_;(conv=>whnf);refine gX h fun h=>?_;(conv=>whnf);refine oB h fun y_61 h=>?_;(conv=>whnf);refine aX ?_;(conv=>whnf);refine jN h fun l_64=>jM [(0,sM api_Seen.c a),(1,sM api_Seen.c b),(5,.osw 0 5),(6,aI i_44),(7,aI k_45)] [(0,rT api_Seen.c l_64)] 1 (fun h=>?_) fun h=>?_
   ·(conv=>whnf);left;refine bS h (fun h=>?_) fun h=>?_
    ·(conv=>whnf);refine gX h fun h=>?_;(conv=>whnf);refine oB h fun y_65 h=>?_;(conv=>whnf);left;(conv=>whnf);refine aX ?_;(conv=>whnf);refine aX ?_;(conv=>whnf);refine gS h fun h=>?_;cases h;exact eE [(0,137)]
    (conv=>whnf);refine gX h fun h=>?_;(conv=>whnf);refine oB h fun y_66 h=>?_;(conv=>whnf);left;(conv=>whnf);refine aX ?_;(conv=>whnf);refine aX ?_;(conv=>whnf);refine gS h fun h=>?_;cases h;exact eE [(0,137)]
   exact rE (n_43,(IntKind.wrap IntKind.i64 (i_44+(1:Int))),(IntKind.wrap IntKind.i64 (k_45+(1:Int))),l_64) [(0,0)] h
  exact qE [(0,0)]
 exact qG [(0,0)]
theorem matinsref17_Join_i1_FC0 {a b r} (h:matinsref17_Join_i1 F a b=some r):FZ ml 23 [] [sM api_Seen.c a,sM api_Seen.c b] (.tup [.osw 0 5,aI r.1]) [(0,rT api_Seen.c r.2)]:=by
 refine fG Tryz.func23 ?_
 unfold matinsref17_Join_i1 at h
 (conv=>whnf);refine jN h fun t13_2=>jM [(0,sM api_Seen.c a),(1,sM api_Seen.c b),(13,.bool t13_2)] [] 0 (fun h=>?_) fun h=>?_
 ·(conv=>whnf);left;(conv=>whnf);left;(conv=>whnf);refine cL h matinsref17_Check_FC fun y_3 h=>?_;(conv=>whnf);refine bS h (fun h=>qE []) fun h=>?_;(conv=>whnf);left;(conv=>whnf);exact cL h matinsref17_Check_FC fun y_4 h=>qE []
 (conv=>whnf);left;refine bS h (fun h=>?_) fun h=>?_
 ·cases h;exact gE [(0,0)]
 (conv=>whnf);left;(conv=>whnf);exact cR h matinsref17_merge_FC0 fun y_5 h=>qG [(0,16)]
theorem matinsref16_Jobs_FC {a b r} (h:matinsref16_Jobs F a b=some r):FZ ml 11 [] [sM api_Job.c a,sM api_Job.c b] (.bool r) []:=by
 refine fA Tryz.func11 ?_
 unfold matinsref16_Jobs at h
 (conv=>whnf);left;refine bS h (fun h=>qR) fun h=>?_;(conv=>whnf);refine jS h fun o0 v=>jT [] [] 0 (fun h k0 e=>?_) fun h=>?_
 ·(conv=>whnf);left;(conv=>whnf);refine lI (fun n' x'=>matinsref16_Jobs_l0 F a b n' x') (fun x'=>[(0,sM api_Job.c a),(1,sM api_Job.c b),(5,aI x')]) (fun x'=>[]) 0 (0:Int) [] h ?_;rintro n_12 i_13 h;rw [matinsref16_Jobs_l0.eq_2] at h;(conv=>whnf);left;refine bS h (fun h=>?_) fun h=>?_
  ·(conv=>whnf);left;(conv=>whnf);refine gX h fun h=>?_;(conv=>whnf);refine oB h fun y_16 h=>?_;(conv=>whnf);refine gX h fun h=>?_;(conv=>whnf);refine oB h fun y_17 h=>?_;(conv=>whnf);refine aX ?_;(conv=>whnf);refine aX ?_;(conv=>whnf);left;refine bS h (fun h=>?_) fun h=>?_
   ·cases h;cases k0;exact rfl
   exact rE (n_12,(IntKind.wrap IntKind.i64 (i_13+(1:Int)))) [] h
  exact qE []
 exact qR
theorem matinsref16_Result_FC {a b r} (h:matinsref16_Result F a b=some r):FZ ml 24 [] [.agg (api_Result.c a),.agg (api_Result.c b)] (.bool r) []:=by
 refine fA Tryz.func24 ?_
 unfold matinsref16_Result at h
 (conv=>whnf);left;(conv=>whnf);left;(conv=>whnf);left;refine bS h (fun h=>?_) fun h=>?_
 ·(conv=>whnf);refine bS h (fun h=>?_) fun h=>?_
  ·(conv=>whnf);left;(conv=>whnf);exact cL h matinsref16_Jobs_FC fun y_0 h=>qR
  exact qR
 exact qR
theorem matinsref17_Books_FC {a b r} (h:matinsref17_Books F a b=some r):FZ ml 12 [] [sM api_Seen.c a,sM api_Seen.c b] (.bool r) []:=by
 refine fA Tryz.func12 ?_
 unfold matinsref17_Books at h
 (conv=>whnf);left;refine bS h (fun h=>qR) fun h=>?_;(conv=>whnf);refine jS h fun o4 v=>jT [] [] 0 (fun h k4 e=>?_) fun h=>?_
 ·(conv=>whnf);left;(conv=>whnf);refine lI (fun n' x'=>matinsref17_Books_l0 F a b n' x') (fun x'=>[(0,sM api_Seen.c a),(1,sM api_Seen.c b),(5,aI x')]) (fun x'=>[]) 0 (0:Int) [] h ?_;rintro n_48 i_49 h;rw [matinsref17_Books_l0.eq_2] at h;(conv=>whnf);left;refine bS h (fun h=>?_) fun h=>?_
  ·(conv=>whnf);left;(conv=>whnf);refine jN h fun t54_65=>jM [(0,sM api_Seen.c a),(1,sM api_Seen.c b),(5,aI i_49),(54,.bool t54_65)] [] 0 (fun h=>?_) fun h=>?_
   ·(conv=>whnf);left;(conv=>whnf);refine gX h fun h=>?_;(conv=>whnf);refine oB h fun y_66 h=>?_;(conv=>whnf);refine gX h fun h=>?_;(conv=>whnf);refine oB h fun y_67 h=>?_;(conv=>whnf);refine bS h (fun h=>qE []) fun h=>?_;(conv=>whnf);refine gX h fun h=>?_;(conv=>whnf);refine oB h fun y_68 h=>?_;(conv=>whnf);refine gX h fun h=>?_;(conv=>whnf);refine oB h fun y_69 h=>?_;(conv=>whnf);refine bS h (fun h=>qE []) fun h=>?_;(conv=>whnf);refine gX h fun h=>?_;(conv=>whnf);refine oB h fun y_70 h=>?_;(conv=>whnf);refine gX h fun h=>?_;(conv=>whnf);refine oB h fun y_71 h=>?_;(conv=>whnf);left;(conv=>whnf);exact cL h matinsref16_Result_FC fun y_72 h=>qE []
   (conv=>whnf);left;refine bS h (fun h=>?_) fun h=>?_
   ·cases h;cases k4;exact rfl
   exact rE (n_48,(IntKind.wrap IntKind.i64 (i_49+(1:Int)))) [] h
  exact qE []
 exact qR
theorem __matinslaw20_World__sent_i2_FC0 {g o_ c c_3 c_4 c_5 c_6 c_7 c_8 c_9 c_10 c_11 c_12 l r} (h:__matinslaw20_World__sent_i2 F g o_ c c_3 c_4 c_5 c_6 c_7 c_8 c_9 c_10 c_11 c_12 l=some r):FZ ml 15 [(0,rF [aI c,aI c_3,sM api_Span.c c_4,aI c_5,aI c_6,aI c_7,aI c_8,aI c_9,aI c_10,aI c_11,.str c_12,.osw 1 1]),(1,rT (cSl api_Shard.c) l)] [pp 0,aI g,.agg (api_Order.c o_)] (.tup [.agg (api_Result.c r.1),.agg (api_Shard.c r.2.1)]) [(0,rF [aI c,aI c_3,sM api_Span.c c_4,aI c_5,aI c_6,aI c_7,aI c_8,aI c_9,aI c_10,aI c_11,.str c_12,.osw 1 1]),(1,rT (cSl api_Shard.c) r.2.2)]:=by
 refine fG Tryz.func15 ?_
 unfold __matinslaw20_World__sent_i2 at h
 (conv=>whnf);left;(conv=>whnf);left;(conv=>whnf);left;(conv=>whnf);refine jN h fun t21_0=>jM [(0,pp 0),(1,aI g),(5,pp 2),(6,pp 3),(7,pp 4),(21,.bool t21_0)] [(0,rF [aI c,aI c_3,sM api_Span.c c_4,aI c_5,aI c_6,aI c_7,aI c_8,aI c_9,aI c_10,aI c_11,.str c_12,.osw 1 1]),(1,rT (cSl api_Shard.c) l),(2,rF (api_Order.c o_)),(3,rF [aI 0,aI 0,.esl]),(4,rF zr3)] 5 (fun h=>qE [(0,0),(1,1),(2,8),(3,16),(4,24)]) fun h=>?_;(conv=>whnf);left;refine bS h (fun h=>?_) fun h=>?_
 ·(conv=>whnf);left;(conv=>whnf);left;cases h;exact gW [(0,0),(1,1)]
 (conv=>whnf);refine gX h fun h=>?_;(conv=>whnf);refine oB h fun y_1 h=>?_;(conv=>whnf);refine oB h fun y_2 h=>?_;(conv=>whnf);left;(conv=>whnf);refine cR h (fun h=>FC_close (shard_Do_FC0 h) rfl) fun y_3 h=>?_;(conv=>whnf);left;(conv=>whnf);left;(conv=>whnf);refine aX ?_;(conv=>whnf);refine gX h fun h=>?_;(conv=>whnf);refine oB h fun y_4 h=>?_;(conv=>whnf);refine oB h fun y_5 h=>?_;(conv=>whnf);refine aX ?_;cases h;exact gE [(0,0),(1,1)]
theorem __matinslaw20_World__heard_i1_FC0 {have_ r_ s c c_4 c_5 c_6 c_7 c_8 c_9 c_10 c_11 c_12 c_13 l r} (h:__matinslaw20_World__heard_i1 F have_ r_ s c c_4 c_5 c_6 c_7 c_8 c_9 c_10 c_11 c_12 c_13 l=some r):FZ ml 16 [(0,rF [aI c,aI c_4,sM api_Span.c c_5,aI c_6,aI c_7,aI c_8,aI c_9,aI c_10,aI c_11,aI c_12,.str c_13,.osw 1 1]),(1,rT (cSl api_Shard.c) l)] [pp 0,.agg (api_Shard.c have_),.agg (api_Result.c r_),.agg (api_Shard.c s)] (.agg (api_Shard.c r.1)) [(0,rF [aI r.2.1,aI r.2.2.1,sM api_Span.c r.2.2.2.1,aI r.2.2.2.2.1,aI r.2.2.2.2.2.1,aI r.2.2.2.2.2.2.1,aI r.2.2.2.2.2.2.2.1,aI r.2.2.2.2.2.2.2.2.1,aI r.2.2.2.2.2.2.2.2.2.1,aI r.2.2.2.2.2.2.2.2.2.2.1,.str r.2.2.2.2.2.2.2.2.2.2.2,.osw 1 1]),(1,rT (cSl api_Shard.c) l)]:=by
 refine fG Tryz.func16 ?_
 unfold __matinslaw20_World__heard_i1 at h
 (conv=>whnf);left;(conv=>whnf);left;(conv=>whnf);left;(conv=>whnf);left;(conv=>whnf);left;(conv=>whnf);refine cR h mover_Heard_FC fun y_0 h=>?_;(conv=>whnf);left;(conv=>whnf);refine aX ?_;(conv=>whnf);refine jN h fun ⟨c_2,c_3,c_4,c_5,c_6,c_7,c_8,c_9,c_10,c_11,c_12⟩=>jM [(0,pp 0),(8,pp 2),(9,pp 3),(10,aI y_0.2)] [(0,rF [aI c_2,aI c_3,sM api_Span.c c_4,aI c_5,aI c_6,aI c_7,aI c_8,aI c_9,aI c_10,aI c_11,.str c_12,.osw 1 1]),(1,rT (cSl api_Shard.c) l),(2,rF zr3),(3,rF (api_Shard.c y_0.1))] 4 (fun h=>?_) fun h=>?_
 ·(conv=>whnf);left;refine bS h (fun h=>?_) fun h=>?_
  ·(conv=>whnf);left;(conv=>whnf);exact cR h atlas_Advance_FC fun y_13 h=>qE [(0,0),(1,1),(2,32),(3,128)]
  exact qE [(0,0),(1,1),(2,32),(3,128)]
 (conv=>whnf);refine jN h fun ⟨c_15,c_16,c_17,c_18,c_19,c_20,c_21,c_22,c_23,c_24,c_25⟩=>jM [(8,pp 2),(9,pp 3)] [(0,rF [aI c_15,aI c_16,sM api_Span.c c_17,aI c_18,aI c_19,aI c_20,aI c_21,aI c_22,aI c_23,aI c_24,.str c_25,.osw 1 1]),(1,rT (cSl api_Shard.c) l),(2,rF zr3),(3,rF (api_Shard.c y_0.1))] 4 (fun h=>?_) fun h=>?_
 ·(conv=>whnf);left;refine bS h (fun h=>?_) fun h=>?_
  ·(conv=>whnf);left;(conv=>whnf);exact cR h atlas_Abort_FC fun y_26 h=>qE [(0,0),(1,1),(2,2),(3,3)]
  exact qE [(0,0),(1,1),(2,2),(3,3)]
 exact qG [(0,0),(1,1)]
theorem __matinslaw20_World__fits_i1_FC0 {c c_1 c_2 c_3 c_4 c_5 c_6 c_7 c_8 c_9 c_10 l r} (h:__matinslaw20_World__fits_i1 F c c_1 c_2 c_3 c_4 c_5 c_6 c_7 c_8 c_9 c_10 l=some r):FZ ml 9 [(0,rF [aI c,aI c_1,sM api_Span.c c_2,aI c_3,aI c_4,aI c_5,aI c_6,aI c_7,aI c_8,aI c_9,.str c_10,.osw 1 1]),(1,rT (cSl api_Shard.c) l)] [pp 0] (.bool r) [(0,rF [aI c,aI c_1,sM api_Span.c c_2,aI c_3,aI c_4,aI c_5,aI c_6,aI c_7,aI c_8,aI c_9,.str c_10,.osw 1 1]),(1,rT (cSl api_Shard.c) l)]:=by
 refine fG Tryz.func9 ?_
 unfold __matinslaw20_World__fits_i1 at h
 (conv=>whnf);refine jS h fun o4 v=>jT [(0,pp 0),(3,aI 0)] [(0,rF [aI c,aI c_1,sM api_Span.c c_2,aI c_3,aI c_4,aI c_5,aI c_6,aI c_7,aI c_8,aI c_9,.str c_10,.osw 1 1]),(1,rT (cSl api_Shard.c) l)] 2 (fun h k4 e=>?_) fun h=>?_
 ·(conv=>whnf);left;(conv=>whnf);refine lI (fun n' x'=>__matinslaw20_World__fits_i1_l0 F c_2 l n' x') (fun x'=>[(0,pp 0),(3,aI 0),(4,aI x')]) (fun x'=>[(0,rF [aI c,aI c_1,sM api_Span.c c_2,aI c_3,aI c_4,aI c_5,aI c_6,aI c_7,aI c_8,aI c_9,.str c_10,.osw 1 1]),(1,rT (cSl api_Shard.c) l)]) 2 (0:Int) [(0,0),(1,1)] h ?_;rintro n_48 i_49 h;rw [__matinslaw20_World__fits_i1_l0.eq_2] at h;(conv=>whnf);left;refine bS h (fun h=>?_) fun h=>?_
  ·(conv=>whnf);left;(conv=>whnf);refine gX h fun h=>?_;(conv=>whnf);refine oB h fun y_58 h=>?_;(conv=>whnf);left;(conv=>whnf);refine gX h fun h=>?_;(conv=>whnf);refine oB h fun y_59 h=>?_;(conv=>whnf);refine oB h fun y_60 h=>?_;(conv=>whnf);left;(conv=>whnf);refine cL h matinsref18_Find_FC fun y_61 h=>?_;(conv=>whnf);refine aX ?_;(conv=>whnf);left;refine bS h (fun h=>?_) fun h=>?_
   ·cases h;cases k4;exact gI [(0,0),(1,1)]
   (conv=>whnf);refine gX h fun h=>?_;(conv=>whnf);refine oB h fun y_62 h=>?_;(conv=>whnf);refine oB h fun y_63 h=>?_;(conv=>whnf);refine gX h fun h=>?_;(conv=>whnf);refine oB h fun y_64 h=>?_;(conv=>whnf);left;(conv=>whnf);refine aX ?_;(conv=>whnf);refine jN h fun t77_65=>jM [(0,pp 0),(3,aI 0),(4,aI i_49),(77,.bool t77_65)] [(0,rF [aI c,aI c_1,sM api_Span.c c_2,aI c_3,aI c_4,aI c_5,aI c_6,aI c_7,aI c_8,aI c_9,.str c_10,.osw 1 1]),(1,rT (cSl api_Shard.c) l)] 2 (fun h=>qE [(0,0),(1,1)]) fun h=>?_;(conv=>whnf);left;refine bS h (fun h=>?_) fun h=>?_
   ·cases h;cases k4;exact gI [(0,0),(1,1)]
   exact rE (n_48,(IntKind.wrap IntKind.i64 (i_49+(1:Int)))) [(0,0),(1,1)] h
  exact qE [(0,0),(1,1)]
 (conv=>whnf);refine jN h fun n_88=>jM [(0,pp 0),(3,aI n_88)] [(0,rF [aI c,aI c_1,sM api_Span.c c_2,aI c_3,aI c_4,aI c_5,aI c_6,aI c_7,aI c_8,aI c_9,.str c_10,.osw 1 1]),(1,rT (cSl api_Shard.c) l)] 2 (fun h=>?_) fun h=>?_
 ·(conv=>whnf);left;(conv=>whnf);refine lI (fun n' x'=>__matinslaw20_World__fits_i1_l1 F l n' x'.1 x'.2) (fun x'=>[(0,pp 0),(3,aI x'.1),(8,aI x'.2)]) (fun x'=>[(0,rF [aI c,aI c_1,sM api_Span.c c_2,aI c_3,aI c_4,aI c_5,aI c_6,aI c_7,aI c_8,aI c_9,.str c_10,.osw 1 1]),(1,rT (cSl api_Shard.c) l)]) 2 ((0:Int),(0:Int)) [(0,0),(1,1)] h ?_;rintro n_97 ⟨n_98,g_99⟩ h;dsimp only at h;rw [__matinslaw20_World__fits_i1_l1.eq_2] at h;(conv=>whnf);left;refine bS h (fun h=>?_) fun h=>?_
  ·(conv=>whnf);refine jN h fun n_107=>jM [(0,pp 0),(3,aI n_107),(8,aI g_99)] [(0,rF [aI c,aI c_1,sM api_Span.c c_2,aI c_3,aI c_4,aI c_5,aI c_6,aI c_7,aI c_8,aI c_9,.str c_10,.osw 1 1]),(1,rT (cSl api_Shard.c) l)] 2 (fun h=>?_) fun h=>?_
   ·(conv=>whnf);left;(conv=>whnf);refine jN h fun n_114=>jM [(0,pp 0),(3,aI n_114),(8,aI g_99)] [(0,rF [aI c,aI c_1,sM api_Span.c c_2,aI c_3,aI c_4,aI c_5,aI c_6,aI c_7,aI c_8,aI c_9,.str c_10,.osw 1 1]),(1,rT (cSl api_Shard.c) l)] 2 (fun h=>?_) fun h=>?_
    ·(conv=>whnf);left;(conv=>whnf);refine lI (fun n' x'=>__matinslaw20_World__fits_i1_l2 F l g_99 n' x'.1 x'.2) (fun x'=>[(0,pp 0),(3,aI x'.1),(8,aI g_99),(9,aI x'.2)]) (fun x'=>[(0,rF [aI c,aI c_1,sM api_Span.c c_2,aI c_3,aI c_4,aI c_5,aI c_6,aI c_7,aI c_8,aI c_9,.str c_10,.osw 1 1]),(1,rT (cSl api_Shard.c) l)]) 2 (n_98,(0:Int)) [(0,0),(1,1)] h ?_;rintro n_121 ⟨n_122,k_123⟩ h;dsimp only at h;rw [__matinslaw20_World__fits_i1_l2.eq_2] at h;(conv=>whnf);refine gX h fun h=>?_;(conv=>whnf);refine oB h fun y_124 h=>?_;(conv=>whnf);refine oB h fun y_125 h=>?_;(conv=>whnf);left;refine bS h (fun h=>?_) fun h=>?_
     ·(conv=>whnf);refine jN h fun n_129=>jM [(0,pp 0),(3,aI n_129),(8,aI g_99),(9,aI k_123)] [(0,rF [aI c,aI c_1,sM api_Span.c c_2,aI c_3,aI c_4,aI c_5,aI c_6,aI c_7,aI c_8,aI c_9,.str c_10,.osw 1 1]),(1,rT (cSl api_Shard.c) l)] 2 (fun h=>?_) fun h=>?_
      ·(conv=>whnf);left;(conv=>whnf);refine gX h fun h=>?_;(conv=>whnf);refine oB h fun y_130 h=>?_;(conv=>whnf);refine oB h fun y_131 h=>?_;(conv=>whnf);refine gX h fun h=>?_;(conv=>whnf);refine oB h fun y_132 h=>?_;exact qE [(0,0),(1,1)]
      exact rE (n_121,n_129,(IntKind.wrap IntKind.i64 (k_123+(1:Int)))) [(0,0),(1,1)] h
     exact qE [(0,0),(1,1)]
    exact qE [(0,0),(1,1)]
   exact rE (n_97,n_107,(IntKind.wrap IntKind.i64 (g_99+(1:Int)))) [(0,0),(1,1)] h
  exact qE [(0,0),(1,1)]
 exact qG [(0,0),(1,1)]
theorem __matinslaw20_World__all_i1_FC0 {c c_1 c_2 c_3 c_4 c_5 c_6 c_7 c_8 c_9 c_10 l r} (h:__matinslaw20_World__all_i1 F c c_1 c_2 c_3 c_4 c_5 c_6 c_7 c_8 c_9 c_10 l=some r):FZ ml 10 [(0,rF [aI c,aI c_1,sM api_Span.c c_2,aI c_3,aI c_4,aI c_5,aI c_6,aI c_7,aI c_8,aI c_9,.str c_10,.osw 1 1]),(1,rT (cSl api_Shard.c) l)] [pp 0] (.tup [.osw 2 8,.osw 3 5]) [(0,rF [aI c,aI c_1,sM api_Span.c c_2,aI c_3,aI c_4,aI c_5,aI c_6,aI c_7,aI c_8,aI c_9,.str c_10,.osw 1 1]),(1,rT (cSl api_Shard.c) l),(2,rT api_Job.c r.1),(3,rT api_Seen.c r.2)]:=by
 refine fG Tryz.func10 ?_
 unfold __matinslaw20_World__all_i1 at h
 (conv=>whnf);refine jN h fun ⟨l_130,l_131⟩=>jM [(4,.osw 2 8),(5,.osw 3 5)] [(0,rF [aI c,aI c_1,sM api_Span.c c_2,aI c_3,aI c_4,aI c_5,aI c_6,aI c_7,aI c_8,aI c_9,.str c_10,.osw 1 1]),(1,rT (cSl api_Shard.c) l),(2,rT api_Job.c l_130),(3,rT api_Seen.c l_131)] 4 (fun h=>?_) fun h=>?_
 ·(conv=>whnf);left;(conv=>whnf);refine lI (fun n' x'=>__matinslaw20_World__all_i1_l0 F c_2 l n' x'.1 x'.2.1 x'.2.2) (fun x'=>[(0,pp 0),(4,.osw 2 8),(5,.osw 3 5),(6,aI x'.1)]) (fun x'=>[(0,rF [aI c,aI c_1,sM api_Span.c c_2,aI c_3,aI c_4,aI c_5,aI c_6,aI c_7,aI c_8,aI c_9,.str c_10,.osw 1 1]),(1,rT (cSl api_Shard.c) l),(2,rT api_Job.c x'.2.1),(3,rT api_Seen.c x'.2.2)]) 4 ((0:Int),[],[]) [(0,0),(1,1),(2,24),(3,32)] h ?_;rintro n_197 ⟨i_198,l_199,l_200⟩ h;dsimp only at h;rw [__matinslaw20_World__all_i1_l0.eq_2] at h;(conv=>whnf);left;refine bS h (fun h=>?_) fun h=>?_
  ·(conv=>whnf);left;(conv=>whnf);refine gX h fun h=>?_;(conv=>whnf);refine oB h fun y_234 h=>?_;(conv=>whnf);left;(conv=>whnf);refine gX h fun h=>?_;(conv=>whnf);refine oB h fun y_235 h=>?_;(conv=>whnf);refine oB h fun y_236 h=>?_;(conv=>whnf);left;(conv=>whnf);refine cL h matinsref18_Find_FC fun y_237 h=>?_;(conv=>whnf);refine aX ?_;(conv=>whnf);left;refine bS h (fun h=>?_) fun h=>?_
   ·(conv=>whnf);refine gX h fun h=>?_;(conv=>whnf);refine oB h fun y_259 h=>?_;(conv=>whnf);refine oB h fun y_260 h=>?_;(conv=>whnf);refine gX h fun h=>?_;(conv=>whnf);refine oB h fun y_261 h=>?_;(conv=>whnf);refine aX ?_;(conv=>whnf);refine aX ?_;(conv=>whnf);refine gS h fun h=>?_;(conv=>whnf);refine aX ?_;(conv=>whnf);refine gX h fun h=>?_;(conv=>whnf);refine oB h fun y_262 h=>?_;(conv=>whnf);refine oB h fun y_263 h=>?_;(conv=>whnf);refine gX h fun h=>?_;(conv=>whnf);refine oB h fun y_264 h=>?_;(conv=>whnf);left;obtain ⟨y_265,hy,h⟩:=bind_e h;refine ⟨_,_,(matinsref17_Join_i1_FC0 hy),Or.inr ⟨[3],rfl,?_⟩⟩;(conv=>whnf);refine aX ?_;exact rE (n_197,(IntKind.wrap IntKind.i64 (i_198+(1:Int))),(l_199++y_261.Jobs),y_265.2) [(0,0),(1,1),(2,380),(3,508)] h
   exact rE (n_197,(IntKind.wrap IntKind.i64 (i_198+(1:Int))),l_199,l_200) [(0,0),(1,1),(2,2),(3,3)] h
  exact qE [(0,0),(1,1),(2,2),(3,3)]
 exact qG [(0,0),(1,1),(2,2),(3,3)]
end Go.T
