import Derived.Test.YthohllgoneadhaaGreatDoorCertA
set_option linter.unusedVariables false
set_option maxRecDepth 200000
set_option maxHeartbeats 4000000
namespace Go.T
open Go Go.Ab Go.Proofs
variable {ml:Gv} {F:Nat}
theorem zone_Named_FC0 {name r} (h:zone_Named F name=some (Sum.inl r)):FZ ml 106 [] [.str name] (.tup [AV.con (Value.pointer none),aI r]) []:=by
 refine fG Tryz.func106 ?_
 unfold zone_Named at h
 (conv=>whnf);left;(conv=>whnf);left;(conv=>whnf);refine jS h fun o0 ⟨c_0,c_1,c_2,c_3,c_4,c_5,c_6,c_7⟩=>jT [(4,pp 0)] [(0,rF [aI (c_0),aI (c_1),aI (c_2),aI (c_3),aI 0,aI (c_4),aI (c_5),aI (c_6),aI 0,aI (c_7)])] 1 (fun h k0 e=>?_) fun h=>?_
 ·(conv=>whnf);left;(conv=>whnf);left;refine bS h (fun h=>qE [(0,32)]) fun h=>?_;(conv=>whnf);left;refine bS h (fun h=>qE [(0,32)]) fun h=>?_;(conv=>whnf);left;refine bS h (fun h=>qE [(0,32)]) fun h=>?_;(conv=>whnf);left;refine bS h (fun h=>qE [(0,32)]) fun h=>?_;(conv=>whnf);left;refine bS h (fun h=>qE [(0,32)]) fun h=>?_;(conv=>whnf);left;refine bS h (fun h=>qE [(0,32)]) fun h=>?_;(conv=>whnf);left;refine bS h (fun h=>qE [(0,32)]) fun h=>?_;cases h;cases k0;exact gI []
 (conv=>whnf);left;obtain ⟨y_8,hy,h⟩:=bind_e h;rcases y_8 with y_8 | y_8
 ·replace h:=elim_l h;refine ⟨_,_,(FC_close (zone_Make_FC0 hy) rfl),Or.inr ⟨[],rfl,?_⟩⟩;exact qG []
 replace h:=elim_r h;(conv=>whnf);refine ⟨_,_,(zone_Make_FC1 hy),Or.inr ⟨[],rfl,?_⟩⟩;cases h
theorem zone_Named_FC1 {name r} (h:zone_Named F name=some (Sum.inr r)):FZ ml 106 [] [.str name] (.tup [pp 0,aI r.1]) [(0,rF (zone_Zone.c r.2))]:=by
 refine fG Tryz.func106 ?_
 unfold zone_Named at h
 (conv=>whnf);left;(conv=>whnf);left;(conv=>whnf);refine jS h fun o0 ⟨c_0,c_1,c_2,c_3,c_4,c_5,c_6,c_7⟩=>jT [(4,pp 0)] [(0,rF [aI (c_0),aI (c_1),aI (c_2),aI (c_3),aI 0,aI (c_4),aI (c_5),aI (c_6),aI 0,aI (c_7)])] 1 (fun h k0 e=>?_) fun h=>?_
 ·(conv=>whnf);left;(conv=>whnf);left;refine bS h (fun h=>qE [(0,32)]) fun h=>?_;(conv=>whnf);left;refine bS h (fun h=>qE [(0,32)]) fun h=>?_;(conv=>whnf);left;refine bS h (fun h=>qE [(0,32)]) fun h=>?_;(conv=>whnf);left;refine bS h (fun h=>qE [(0,32)]) fun h=>?_;(conv=>whnf);left;refine bS h (fun h=>qE [(0,32)]) fun h=>?_;(conv=>whnf);left;refine bS h (fun h=>qE [(0,32)]) fun h=>?_;(conv=>whnf);left;refine bS h (fun h=>qE [(0,32)]) fun h=>?_;cases h;cases k0
 (conv=>whnf);left;obtain ⟨y_8,hy,h⟩:=bind_e h;rcases y_8 with y_8 | y_8
 ·replace h:=elim_l h;refine ⟨_,_,(FC_close (zone_Make_FC0 hy) rfl),Or.inr ⟨[],rfl,?_⟩⟩;cases h
 replace h:=elim_r h;(conv=>whnf);refine ⟨_,_,(zone_Make_FC1 hy),Or.inr ⟨[],rfl,?_⟩⟩;exact qG [(0,9)]
theorem __zone_Zone__Rules_FC {r} (h:__zone_Zone__Rules F=some r):FZ ml 107 [] [AV.con (Value.pointer none)] (.agg (api_Zone.c r)) []:=by
 refine fA Tryz.func107 ?_
 unfold __zone_Zone__Rules at h
 exact qR
theorem __zone_Zone__Rules_i1_FC0 {b r} (h:__zone_Zone__Rules_i1 F b=some r):FZ ml 107 [(0,rF (zone_Zone.c b))] [pp 0] (.agg (api_Zone.c r)) [(0,rF (zone_Zone.c b))]:=by
 refine fG Tryz.func107 ?_
 unfold __zone_Zone__Rules_i1 at h
 exact qG [(0,0)]
theorem jobs_read_FC {expr name r} (h:jobs_read F expr name=some r):FZ ml 90 [] [.str expr,.str name] (.tup [.agg (api_Cron.c r.1),.agg (api_Zone.c r.2.1),aI r.2.2]) []:=by
 refine fA Tryz.func90 ?_
 unfold jobs_read at h
 (conv=>whnf);left;(conv=>whnf);left;(conv=>whnf);left;(conv=>whnf);refine cL h cron_Parse_FC fun y_0 h=>?_;(conv=>whnf);left;(conv=>whnf);left;refine bS h (fun h=>qR) fun h=>?_;(conv=>whnf);left;obtain ⟨y_1,hy,h⟩:=bind_e h;rcases y_1 with y_1 | y_1
 ·replace h:=elim_l h;refine ⟨_,_,(FC_close (zone_Named_FC0 hy) rfl),Or.inr ⟨[],rfl,?_⟩⟩;(conv=>whnf);left;(conv=>whnf);exact cL h __zone_Zone__Rules_FC fun y_2 h=>qR
 replace h:=elim_r h;(conv=>whnf);refine ⟨_,_,(zone_Named_FC1 hy),Or.inr ⟨[],rfl,?_⟩⟩;(conv=>whnf);exact cG [136] h __zone_Zone__Rules_i1_FC0 fun y_3 h=>qR
theorem jobs_marked_FC {t r} (h:jobs_marked F t=some r):FZ ml 91 [] [aI t] (.bool r) []:=by
 refine fA Tryz.func91 ?_
 unfold jobs_marked at h
 exact qR
theorem cron_fields_FC {c r} (h:cron_fields F c=some r):FZ ml 109 [] [.agg (api_Cron.c c)] (.agg (A_5_uint64.c r)) []:=by
 refine fA Tryz.func109 ?_
 unfold cron_fields at h
 exact qR
theorem cron_full_FC {field r} (h:cron_full F field=some r):FZ ml 110 [] [aI field] (.int IntKind.u64 r) []:=by
 refine fA Tryz.func110 ?_
 unfold cron_full at h
 (conv=>whnf);left;refine bS h (fun h=>?_) fun h=>?_
 ·(conv=>whnf);left;(conv=>whnf);exact cL h cron_all_FC fun y_0 h=>qR
 (conv=>whnf);left;(conv=>whnf);refine gX h fun h=>?_;(conv=>whnf);refine gX h fun h=>?_;(conv=>whnf);refine Or.inr ?_;(conv=>whnf);refine bS h (fun h=>?_) fun h=>?_
 ·(conv=>whnf);refine gX h fun h=>?_;(conv=>whnf);refine gX h fun h=>?_;(conv=>whnf);refine Or.inr ?_;(conv=>whnf);refine bF h fun h=>?_;(conv=>whnf);left;(conv=>whnf);exact cL h cron_all_FC fun y_1 h=>qR
 (conv=>whnf);refine bS h (fun h=>?_) fun h=>?_
 ·(conv=>whnf);refine gX h fun h=>?_;(conv=>whnf);refine gX h fun h=>?_;(conv=>whnf);refine Or.inr ?_;(conv=>whnf);refine bT h fun h=>?_;(conv=>whnf);refine bF h fun h=>?_;(conv=>whnf);left;(conv=>whnf);exact cL h cron_all_FC fun y_2 h=>qR
 (conv=>whnf);refine bS h (fun h=>?_) fun h=>?_
 ·(conv=>whnf);refine gX h fun h=>?_;(conv=>whnf);refine gX h fun h=>?_;(conv=>whnf);refine Or.inr ?_;(conv=>whnf);refine bT h fun h=>?_;(conv=>whnf);refine bT h fun h=>?_;(conv=>whnf);refine bF h fun h=>?_;(conv=>whnf);left;(conv=>whnf);exact cL h cron_all_FC fun y_3 h=>qR
 (conv=>whnf);refine bS h (fun h=>?_) fun h=>?_
 ·(conv=>whnf);refine gX h fun h=>?_;(conv=>whnf);refine gX h fun h=>?_;(conv=>whnf);refine Or.inr ?_;(conv=>whnf);refine bT h fun h=>?_;(conv=>whnf);refine bT h fun h=>?_;(conv=>whnf);refine bT h fun h=>?_;(conv=>whnf);refine bF h fun h=>?_;(conv=>whnf);left;(conv=>whnf);exact cL h cron_all_FC fun y_4 h=>qR
 (conv=>whnf);refine bT h fun h=>?_;exact trivial
theorem cron_Check_FC {c r} (h:cron_Check F c=some r):FZ ml 108 [] [.agg (api_Cron.c c)] (.bool r) []:=by
 refine fA Tryz.func108 ?_
 unfold cron_Check at h
 (conv=>whnf);left;(conv=>whnf);left;(conv=>whnf);refine cL h cron_fields_FC fun y_0 h=>?_;(conv=>whnf);refine jS h fun o6 v=>jT [(1,pp 0)] [(0,rF [AV.int IntKind.u64 c.Minute,AV.int IntKind.u64 c.Hour,AV.int IntKind.u64 c.Day,AV.int IntKind.u64 c.Month,AV.int IntKind.u64 c.Week,.bool c.AnyDay,.bool c.AnyWeek])] 1 (fun h k6 e=>?_) fun h=>?_
 ·(conv=>whnf);left;(conv=>whnf);refine lI (fun n' x'=>cron_Check_l0 F y_0 n' x') (fun x'=>[(1,pp 0),(6,.agg [AV.int IntKind.u64 y_0.e0,AV.int IntKind.u64 y_0.e1,AV.int IntKind.u64 y_0.e2,AV.int IntKind.u64 y_0.e3,AV.int IntKind.u64 y_0.e4]),(7,aI x')]) (fun x'=>[(0,rF [AV.int IntKind.u64 c.Minute,AV.int IntKind.u64 c.Hour,AV.int IntKind.u64 c.Day,AV.int IntKind.u64 c.Month,AV.int IntKind.u64 c.Week,.bool c.AnyDay,.bool c.AnyWeek])]) 1 (0:Int) [(0,8)] h ?_;rintro n_17 t7_18 h;rw [cron_Check_l0.eq_2] at h;(conv=>whnf);left;refine bS h (fun h=>?_) fun h=>?_
  ·(conv=>whnf);left;(conv=>whnf);refine jN h fun b_22=>jM [(1,pp 0),(3,aI t7_18),(4,AV.int IntKind.u64 b_22),(6,.agg [AV.int IntKind.u64 y_0.e0,AV.int IntKind.u64 y_0.e1,AV.int IntKind.u64 y_0.e2,AV.int IntKind.u64 y_0.e3,AV.int IntKind.u64 y_0.e4]),(7,aI t7_18)] [(0,rF [AV.int IntKind.u64 c.Minute,AV.int IntKind.u64 c.Hour,AV.int IntKind.u64 c.Day,AV.int IntKind.u64 c.Month,AV.int IntKind.u64 c.Week,.bool c.AnyDay,.bool c.AnyWeek])] 1 (fun h=>?_) fun h=>?_
   ·(conv=>whnf);left;(conv=>whnf);refine gX h fun h=>?_;(conv=>whnf);refine gX h fun h=>?_;(conv=>whnf);refine Or.inr ?_;(conv=>whnf);refine bS h (fun h=>qE [(0,0)]) fun h=>?_;(conv=>whnf);refine bS h (fun h=>qE [(0,0)]) fun h=>?_;(conv=>whnf);refine bS h (fun h=>qE [(0,0)]) fun h=>?_;(conv=>whnf);refine bS h (fun h=>qE [(0,0)]) fun h=>?_;(conv=>whnf);refine bS h (fun h=>qE [(0,0)]) fun h=>?_;exact trivial
   (conv=>whnf);refine jN h fun t19_24=>jM [(1,pp 0),(6,.agg [AV.int IntKind.u64 y_0.e0,AV.int IntKind.u64 y_0.e1,AV.int IntKind.u64 y_0.e2,AV.int IntKind.u64 y_0.e3,AV.int IntKind.u64 y_0.e4]),(7,aI t7_18),(19,.bool t19_24)] [(0,rF [AV.int IntKind.u64 c.Minute,AV.int IntKind.u64 c.Hour,AV.int IntKind.u64 c.Day,AV.int IntKind.u64 c.Month,AV.int IntKind.u64 c.Week,.bool c.AnyDay,.bool c.AnyWeek])] 1 (fun h=>?_) fun h=>?_
   ·(conv=>whnf);left;refine bS h (fun h=>qE [(0,0)]) fun h=>?_;(conv=>whnf);left;(conv=>whnf);exact cL h cron_full_FC fun y_25 h=>qE [(0,0)]
   (conv=>whnf);left;refine bS h (fun h=>?_) fun h=>?_
   ·cases h;cases k6;exact rfl
   exact rE (n_17,(IntKind.wrap IntKind.i64 (t7_18+(1:Int)))) [(0,0)] h
  exact qE [(0,0)]
 (conv=>whnf);left;refine bS h (fun h=>?_) fun h=>?_
 ·(conv=>whnf);refine bS h (fun h=>qR) fun h=>?_;(conv=>whnf);left;(conv=>whnf);exact cL h cron_full_FC fun y_26 h=>qR
 (conv=>whnf);left;(conv=>whnf);refine cL h cron_full_FC fun y_27 h=>?_;(conv=>whnf);refine bS h (fun h=>?_) fun h=>?_
 ·(conv=>whnf);refine bS h (fun h=>qR) fun h=>?_;(conv=>whnf);left;(conv=>whnf);exact cL h cron_full_FC fun y_28 h=>qR
 exact qR
theorem math_bits_TrailingZeros64_FC {n r} (h:math_bits_TrailingZeros64 F n=some r):FZ ml 132 [] [.int .u64 n] (.int .i64 r) []:=by
 unfold math_bits_TrailingZeros64 at h
 obtain ⟨hg,h⟩:=grd_e h
 cases h
 exact FC_ctz (g:=1) (by kernel_rfl) rfl (fun x w a b=>Tryz.bits_TrailingZeros64 x a w b) n hg.1 hg.2
theorem strconv_Itoa_FC0 {i r} (h:strconv_Itoa F i=some r):FZ ml 133 [] [aI i] (AV.str r) []:=by
 unfold strconv_Itoa at h
 obtain ⟨hg,h⟩:=grd_e h
 cases h
 exact FC_itoa (g:=3) (by kernel_rfl) rfl (by kernel_rfl) (fun n a b w c=>Tryz.strconv_Itoa n a b w c) i hg.1 hg.2
theorem strings_Join_FC {xs sep r} (h:strings_Join F xs sep=some r):FZ ml 112 [] [.sl (List.map cStr xs),.str sep] (.str r) []:=by
 unfold strings_Join at h
 obtain ⟨hg,h⟩:=grd_e h
 cases h
 exact FC_join (by kernel_rfl) (fun a c sep w=>Tryz.strings_Join_none a c sep w) (fun bk o c xs sep w a b d e g=>Tryz.strings_Join bk o c xs sep w a b d e g) xs sep hg
theorem cron_runs_FC {b r} (h:cron_runs F b=some r):FZ ml 111 [] [AV.int IntKind.u64 b] (.str r) []:=by
 refine fA Tryz.func111 ?_
 unfold cron_runs at h
 (conv=>whnf);refine jN h fun l_12=>jM [(3,.osw 0 1)] [(0,rT cStr l_12)] 1 (fun h=>?_) fun h=>?_
 ·(conv=>whnf);left;(conv=>whnf);refine lI (fun n' x'=>cron_runs_l0 F n' x'.1 x'.2) (fun x'=>[(0,AV.int IntKind.u64 x'.1),(3,.osw 0 1)]) (fun x'=>[(0,rT cStr x'.2)]) 1 (b,[]) [(0,16)] h ?_;rintro n_19 ⟨b_20,l_21⟩ h;dsimp only at h;rw [cron_runs_l0.eq_2] at h;(conv=>whnf);left;refine bS h (fun h=>?_) fun h=>?_
  ·(conv=>whnf);left;(conv=>whnf);left;(conv=>whnf);refine cL h math_bits_TrailingZeros64_FC fun y_22 h=>?_;(conv=>whnf);refine gX h fun h=>?_;(conv=>whnf);left;(conv=>whnf);refine cL h math_bits_TrailingZeros64_FC fun y_23 h=>?_;(conv=>whnf);left;(conv=>whnf);refine cR h (fun h=>FC_close (strconv_Itoa_FC0 h) rfl) fun y_24 h=>?_;(conv=>whnf);refine jN h fun s_26=>jM [(0,AV.int IntKind.u64 b_20),(3,.osw 0 1),(4,aI y_22),(5,aI y_23),(6,.str s_26)] [(0,rT cStr l_21)] 1 (fun h=>?_) fun h=>?_
   ·(conv=>whnf);left;refine bS h (fun h=>?_) fun h=>?_
    ·(conv=>whnf);left;(conv=>whnf);exact cR h (fun h=>FC_close (strconv_Itoa_FC0 h) rfl) fun y_27 h=>qE [(0,0)]
    exact qE [(0,0)]
   (conv=>whnf);left;(conv=>whnf);refine aX ?_;(conv=>whnf);refine aX ?_;(conv=>whnf);refine gS h fun h=>?_;(conv=>whnf);left;(conv=>whnf);refine cL h cron_all_FC fun y_28 h=>?_;exact rE (n_19,(@ibits BinOp.andNot IntKind.u64 b_20 y_28),(l_21++(s_26::[]))) [(0,25)] h
  exact qE [(0,0)]
 (conv=>whnf);left;(conv=>whnf);exact cL h strings_Join_FC fun y_29 h=>qR
theorem cron_Print_FC {c r} (h:cron_Print F c=some r):FZ ml 92 [] [.agg (api_Cron.c c)] (.tup [.str r.1,aI r.2]) []:=by
 refine fA Tryz.func92 ?_
 unfold cron_Print at h
 (conv=>whnf);left;(conv=>whnf);left;(conv=>whnf);refine cL h cron_Check_FC fun y_0 h=>?_;(conv=>whnf);left;refine bS h (fun h=>qR) fun h=>?_;(conv=>whnf);left;(conv=>whnf);refine cL h cron_fields_FC fun y_1 h=>?_;(conv=>whnf);refine jN h fun l_10=>jM [(4,.osw 0 1)] [(0,rT cStr l_10)] 1 (fun h=>?_) fun h=>?_
 ·(conv=>whnf);left;(conv=>whnf);refine lI (fun n' x'=>cron_Print_l0 F c y_1 n' x'.1 x'.2) (fun x'=>[(1,pp 0),(4,.osw 1 1),(12,.agg [AV.int IntKind.u64 y_1.e0,AV.int IntKind.u64 y_1.e1,AV.int IntKind.u64 y_1.e2,AV.int IntKind.u64 y_1.e3,AV.int IntKind.u64 y_1.e4]),(13,aI x'.1)]) (fun x'=>[(0,rF [AV.int IntKind.u64 c.Minute,AV.int IntKind.u64 c.Hour,AV.int IntKind.u64 c.Day,AV.int IntKind.u64 c.Month,AV.int IntKind.u64 c.Week,.bool c.AnyDay,.bool c.AnyWeek]),(1,rT cStr x'.2)]) 2 ((0:Int),[]) [(0,8),(1,56)] h ?_;rintro n_16 ⟨t13_17,l_18⟩ h;dsimp only at h;rw [cron_Print_l0.eq_2] at h;(conv=>whnf);left;refine bS h (fun h=>?_) fun h=>?_
  ·(conv=>whnf);refine jN h fun l_23=>jM [(1,pp 0),(4,.osw 1 1),(12,.agg [AV.int IntKind.u64 y_1.e0,AV.int IntKind.u64 y_1.e1,AV.int IntKind.u64 y_1.e2,AV.int IntKind.u64 y_1.e3,AV.int IntKind.u64 y_1.e4]),(13,aI t13_17)] [(0,rF [AV.int IntKind.u64 c.Minute,AV.int IntKind.u64 c.Hour,AV.int IntKind.u64 c.Day,AV.int IntKind.u64 c.Month,AV.int IntKind.u64 c.Week,.bool c.AnyDay,.bool c.AnyWeek]),(1,rT cStr l_23)] 2 (fun h=>?_) fun h=>?_
   ·(conv=>whnf);left;(conv=>whnf);refine jN h fun b_24=>jM [(1,pp 0),(4,.osw 1 1),(5,aI t13_17),(6,AV.int IntKind.u64 b_24),(12,.agg [AV.int IntKind.u64 y_1.e0,AV.int IntKind.u64 y_1.e1,AV.int IntKind.u64 y_1.e2,AV.int IntKind.u64 y_1.e3,AV.int IntKind.u64 y_1.e4]),(13,aI t13_17)] [(0,rF [AV.int IntKind.u64 c.Minute,AV.int IntKind.u64 c.Hour,AV.int IntKind.u64 c.Day,AV.int IntKind.u64 c.Month,AV.int IntKind.u64 c.Week,.bool c.AnyDay,.bool c.AnyWeek]),(1,rT cStr l_18)] 2 (fun h=>?_) fun h=>?_
    ·(conv=>whnf);left;(conv=>whnf);refine gX h fun h=>?_;(conv=>whnf);refine gX h fun h=>?_;(conv=>whnf);refine Or.inr ?_;(conv=>whnf);refine bS h (fun h=>qE [(0,0),(1,1)]) fun h=>?_;(conv=>whnf);refine bS h (fun h=>qE [(0,0),(1,1)]) fun h=>?_;(conv=>whnf);refine bS h (fun h=>qE [(0,0),(1,1)]) fun h=>?_;(conv=>whnf);refine bS h (fun h=>qE [(0,0),(1,1)]) fun h=>?_;(conv=>whnf);refine bS h (fun h=>qE [(0,0),(1,1)]) fun h=>?_;exact trivial
    (conv=>whnf);left;(conv=>whnf);refine cL h cron_full_FC fun y_25 h=>?_;(conv=>whnf);refine jN h fun star_26=>jM [(1,pp 0),(4,.osw 1 1),(6,AV.int IntKind.u64 b_24),(7,.bool star_26),(12,.agg [AV.int IntKind.u64 y_1.e0,AV.int IntKind.u64 y_1.e1,AV.int IntKind.u64 y_1.e2,AV.int IntKind.u64 y_1.e3,AV.int IntKind.u64 y_1.e4]),(13,aI t13_17)] [(0,rF [AV.int IntKind.u64 c.Minute,AV.int IntKind.u64 c.Hour,AV.int IntKind.u64 c.Day,AV.int IntKind.u64 c.Month,AV.int IntKind.u64 c.Week,.bool c.AnyDay,.bool c.AnyWeek]),(1,rT cStr l_18)] 2 (fun h=>qE [(0,0),(1,1)]) fun h=>?_;(conv=>whnf);left;refine bS h (fun h=>?_) fun h=>?_
    ·(conv=>whnf);left;(conv=>whnf);refine aX ?_;(conv=>whnf);refine aX ?_;(conv=>whnf);refine gS h fun h=>?_;cases h;exact eE [(0,0),(1,26)]
    (conv=>whnf);left;(conv=>whnf);refine cL h cron_runs_FC fun y_27 h=>?_;(conv=>whnf);left;(conv=>whnf);refine aX ?_;(conv=>whnf);refine aX ?_;(conv=>whnf);refine gS h fun h=>?_;cases h;exact eE [(0,0),(1,42)]
   exact rE (n_16,(IntKind.wrap IntKind.i64 (t13_17+(1:Int))),l_23) [(0,0),(1,1)] h
  exact qE [(0,1)]
 (conv=>whnf);left;(conv=>whnf);exact cL h strings_Join_FC fun y_28 h=>qR
theorem jobs_right_FC {j r} (h:jobs_right F j=some r):FZ ml 72 [] [.agg (api_Job.c j)] (.bool r) []:=by
 refine fA Tryz.func72 ?_
 unfold jobs_right at h
 (conv=>whnf);left;(conv=>whnf);left;(conv=>whnf);refine cL h jobs_read_FC fun y_0 h=>?_;(conv=>whnf);left;(conv=>whnf);left;(conv=>whnf);refine jN h fun t51_3=>jM [(1,pp 0),(3,pp 1),(51,.bool t51_3)] [(0,rF (api_Job.c j)),(1,rF [AV.int IntKind.u64 y_0.1.Minute,AV.int IntKind.u64 y_0.1.Hour,AV.int IntKind.u64 y_0.1.Day,AV.int IntKind.u64 y_0.1.Month,AV.int IntKind.u64 y_0.1.Week,.bool y_0.1.AnyDay,.bool y_0.1.AnyWeek])] 2 (fun h=>?_) fun h=>?_
 ·(conv=>whnf);left;refine bS h (fun h=>qE [(0,8),(1,96)]) fun h=>?_;(conv=>whnf);left;(conv=>whnf);refine cL h jobs_Named_FC fun y_4 h=>?_;(conv=>whnf);refine bS h (fun h=>qE [(0,8),(1,96)]) fun h=>?_;(conv=>whnf);refine bS h (fun h=>qE [(0,8),(1,96)]) fun h=>?_;(conv=>whnf);refine bS h (fun h=>qE [(0,8),(1,96)]) fun h=>?_;(conv=>whnf);refine bS h (fun h=>qE [(0,8),(1,96)]) fun h=>?_;(conv=>whnf);refine bS h (fun h=>qE [(0,8),(1,96)]) fun h=>?_;(conv=>whnf);left;(conv=>whnf);exact cL h jobs_marked_FC fun y_5 h=>qE [(0,8),(1,96)]
 (conv=>whnf);left;refine bS h (fun h=>qR) fun h=>?_;(conv=>whnf);left;(conv=>whnf);exact cL h cron_Print_FC fun y_6 h=>qR
theorem jobs_Check_FC {list r} (h:jobs_Check F list=some r):FZ ml 54 [] [sM api_Job.c list] (.bool r) []:=by
 refine fA Tryz.func54 ?_
 unfold jobs_Check at h
 (conv=>whnf);refine jS h fun o4 v=>jT [(0,sM api_Job.c list)] [] 0 (fun h k4 e=>?_) fun h=>?_
 ·(conv=>whnf);left;(conv=>whnf);refine lI (fun n' x'=>jobs_Check_l0 F list n' x') (fun x'=>[(0,sM api_Job.c list),(5,sM api_Job.c list),(6,aI (@Nat.cast Int instNatCastInt (List.length (List.map api_Job.c list)))),(7,aI x')]) (fun x'=>[]) 0 (0:Int) [] h ?_;rintro n_22 t7_23 h;rw [jobs_Check_l0.eq_2] at h;(conv=>whnf);left;refine bS h (fun h=>?_) fun h=>?_
  ·(conv=>whnf);left;(conv=>whnf);refine gX h fun h=>?_;(conv=>whnf);refine oB h fun y_28 h=>?_;(conv=>whnf);left;(conv=>whnf);refine jN h fun t29_31=>jM [(0,sM api_Job.c list),(5,sM api_Job.c list),(6,aI (@Nat.cast Int instNatCastInt (List.length (List.map api_Job.c list)))),(7,aI t7_23),(29,.bool t29_31)] [] 0 (fun h=>?_) fun h=>?_
   ·(conv=>whnf);left;(conv=>whnf);left;(conv=>whnf);refine cL h jobs_right_FC fun y_32 h=>?_;(conv=>whnf);refine bS h (fun h=>qE []) fun h=>?_;(conv=>whnf);refine bS h (fun h=>?_) fun h=>?_
    ·(conv=>whnf);refine gX h fun h=>?_;(conv=>whnf);refine oB h fun y_33 h=>?_;exact qE []
    exact qE []
   (conv=>whnf);left;refine bS h (fun h=>?_) fun h=>?_
   ·cases h;cases k4;exact rfl
   exact rE (n_22,(IntKind.wrap IntKind.i64 (t7_23+(1:Int)))) [] h
  exact qE []
 exact qR
theorem seat_right_FC {client seq r} (h:seat_right F client seq=some r):FZ ml 73 [] [aI client,aI seq] (.bool r) []:=by
 refine fA Tryz.func73 ?_
 unfold seat_right at h
 exact qR
theorem seat_Check_FC {book r} (h:seat_Check F book=some r):FZ ml 55 [] [sM api_Seen.c book] (.bool r) []:=by
 refine fA Tryz.func55 ?_
 unfold seat_Check at h
 (conv=>whnf);refine jS h fun o4 v=>jT [] [] 0 (fun h k4 e=>?_) fun h=>?_
 ·(conv=>whnf);left;(conv=>whnf);refine lI (fun n' x'=>seat_Check_l0 F book n' x') (fun x'=>[(0,sM api_Seen.c book),(5,sM api_Seen.c book),(6,aI (@Nat.cast Int instNatCastInt (List.length (List.map api_Seen.c book)))),(7,aI x')]) (fun x'=>[]) 0 (0:Int) [] h ?_;rintro n_22 t7_23 h;rw [seat_Check_l0.eq_2] at h;(conv=>whnf);left;refine bS h (fun h=>?_) fun h=>?_
  ·(conv=>whnf);left;(conv=>whnf);refine gX h fun h=>?_;(conv=>whnf);refine oB h fun y_28 h=>?_;(conv=>whnf);left;(conv=>whnf);refine jN h fun t32_31=>jM [(0,sM api_Seen.c book),(5,sM api_Seen.c book),(6,aI (@Nat.cast Int instNatCastInt (List.length (List.map api_Seen.c book)))),(7,aI t7_23),(32,.bool t32_31)] [] 0 (fun h=>?_) fun h=>?_
   ·(conv=>whnf);left;(conv=>whnf);left;(conv=>whnf);refine cL h seat_right_FC fun y_32 h=>?_;(conv=>whnf);refine bS h (fun h=>qE []) fun h=>?_;(conv=>whnf);refine bS h (fun h=>?_) fun h=>?_
    ·(conv=>whnf);refine gX h fun h=>?_;(conv=>whnf);refine oB h fun y_33 h=>?_;exact qE []
    exact qE []
   (conv=>whnf);left;refine bS h (fun h=>?_) fun h=>?_
   ·cases h;cases k4;exact rfl
   exact rE (n_22,(IntKind.wrap IntKind.i64 (t7_23+(1:Int)))) [] h
  exact qE []
 exact qR
theorem shard_In_FC {s name r} (h:shard_In F s name=some r):FZ ml 58 [] [.agg (api_Shard.c s),.str name] (.bool r) []:=by
 refine fA Tryz.func58 ?_
 unfold shard_In at h
 (conv=>whnf);left;(conv=>whnf);refine jN h fun t26_2=>jM [(1,.str name),(2,pp 0),(26,.bool t26_2)] [(0,rF (api_Shard.c s))] 1 (fun h=>?_) fun h=>?_
 ·(conv=>whnf);left;(conv=>whnf);left;(conv=>whnf);refine cL h shard_key_FC fun y_3 h=>?_;(conv=>whnf);refine bS h (fun h=>qE [(0,8)]) fun h=>?_;(conv=>whnf);left;(conv=>whnf);exact cL h shard_key_FC fun y_4 h=>qE [(0,8)]
 (conv=>whnf);left;refine bS h (fun h=>qR) fun h=>?_;(conv=>whnf);left;(conv=>whnf);left;(conv=>whnf);exact cL h jobs_Named_FC fun y_5 h=>qR
theorem shard_right_1_FC {j a1 r} (h:shard_right_1 F j a1=some r):FZ ml 57 [] [.agg (api_Job.c j),AV.rp (api_Shard.c a1) 0] (.bool r) []:=by
 refine fA Tryz.func57 ?_
 unfold shard_right_1 at h
 (conv=>whnf);left;(conv=>whnf);left;(conv=>whnf);exact cL h shard_In_FC fun y_0 h=>qR
theorem slices_IndexFunc___api_Job_api_Job__FC {s f0 r} (h:slices_IndexFunc___api_Job_api_Job_ F s f0=some r):FZ ml 74 [] [sM api_Job.c s,AV.fn 57 ((AV.rp (api_Shard.c f0) 0)::[])] (aI r) []:=by
 refine fA Tryz.func74 ?_
 unfold slices_IndexFunc___api_Job_api_Job_ at h
 (conv=>whnf);refine jS h fun o0 v=>jT [] [] 0 (fun h k0 e=>?_) fun h=>?_
 ·(conv=>whnf);left;(conv=>whnf);refine lI (fun n' x'=>slices_IndexFunc___api_Job_api_Job__l0 F s f0 n' x') (fun x'=>[(0,sM api_Job.c s),(1,AV.fn 57 ((AV.rp ((AV.int IntKind.i64 f0.Id)::((AV.int IntKind.i64 f0.Epoch)::((AV.int IntKind.i64 f0.State)::((AV.str f0.From)::((AV.str f0.To)::((AV.sl (List.map api_Job.c f0.Jobs))::((AV.sl (List.map api_Seen.c f0.Seen))::[]))))))) 0)::[])),(7,aI (@Nat.cast Int instNatCastInt (List.length (List.map api_Job.c s)))),(8,aI x')]) (fun x'=>[]) 0 (0:Int) [] h ?_;rintro n_12 t8_13 h;rw [slices_IndexFunc___api_Job_api_Job__l0.eq_2] at h;(conv=>whnf);left;refine bS h (fun h=>?_) fun h=>?_
  ·(conv=>whnf);left;(conv=>whnf);refine gX h fun h=>?_;(conv=>whnf);refine oB h fun y_16 h=>?_;(conv=>whnf);left;(conv=>whnf);refine cL h shard_right_1_FC fun y_17 h=>?_;(conv=>whnf);left;refine bS h (fun h=>?_) fun h=>?_
   ·cases h;cases k0;exact rfl
   exact rE (n_12,(IntKind.wrap IntKind.i64 (t8_13+(1:Int)))) [] h
  exact qE []
 exact qR
theorem slices_ContainsFunc___api_Job_api_Job__FC0 {s b r} (h:slices_ContainsFunc___api_Job_api_Job_ F s b=some r):FZ ml 56 [(0,rF (api_Shard.c b))] [sM api_Job.c s,AV.fn 57 ((AV.ptr 0 0 0)::[])] (.bool r) [(0,rF (api_Shard.c b))]:=by
 refine fG Tryz.func56 ?_
 unfold slices_ContainsFunc___api_Job_api_Job_ at h
 (conv=>whnf);left;(conv=>whnf);exact cL h slices_IndexFunc___api_Job_api_Job__FC fun y_0 h=>qG [(0,0)]
theorem shard_right_FC {s r} (h:shard_right F s=some r):FZ ml 36 [] [.agg (api_Shard.c s)] (.bool r) []:=by
 refine fA Tryz.func36 ?_
 unfold shard_right at h
 (conv=>whnf);left;(conv=>whnf);refine jN h fun t49_2=>jM [(1,pp 0),(49,.bool t49_2)] [(0,rF (api_Shard.c s))] 1 (fun h=>?_) fun h=>?_
 ·(conv=>whnf);left;refine bS h (fun h=>qE [(0,8)]) fun h=>?_;(conv=>whnf);refine bS h (fun h=>qE [(0,8)]) fun h=>?_;(conv=>whnf);refine bS h (fun h=>qE [(0,8)]) fun h=>?_;(conv=>whnf);refine bS h (fun h=>qE [(0,8)]) fun h=>?_;(conv=>whnf);refine bS h (fun h=>qE [(0,8)]) fun h=>?_;(conv=>whnf);left;(conv=>whnf);refine cL h shard_key_FC fun y_3 h=>?_;(conv=>whnf);refine bS h (fun h=>qE [(0,8)]) fun h=>?_;(conv=>whnf);left;(conv=>whnf);exact cL h shard_key_FC fun y_4 h=>qE [(0,8)]
 (conv=>whnf);left;refine bS h (fun h=>qR) fun h=>?_;(conv=>whnf);refine jN h fun t74_7=>jM [(1,pp 0),(74,.bool t74_7)] [(0,rF (api_Shard.c s))] 1 (fun h=>?_) fun h=>?_
 ·(conv=>whnf);left;(conv=>whnf);left;(conv=>whnf);refine cL h jobs_Check_FC fun y_8 h=>?_;(conv=>whnf);refine bS h (fun h=>qE [(0,0)]) fun h=>?_;(conv=>whnf);left;(conv=>whnf);exact cL h seat_Check_FC fun y_9 h=>qE [(0,0)]
 (conv=>whnf);left;refine bS h (fun h=>qR) fun h=>?_;(conv=>whnf);exact cG [0] h slices_ContainsFunc___api_Job_api_Job__FC0 fun y_10 h=>qR
theorem shard_live_FC {list r} (h:shard_live F list=some r):FZ ml 37 [] [sM api_Shard.c list] (aI r) []:=by
 refine fA Tryz.func37 ?_
 unfold shard_live at h
 (conv=>whnf);refine jN h fun n_4=>jM [(3,aI n_4)] [] 0 (fun h=>?_) fun h=>?_
 ·(conv=>whnf);left;(conv=>whnf);refine lI (fun n' x'=>shard_live_l0 F list n' x'.1 x'.2) (fun x'=>[(3,aI x'.1),(6,sM api_Shard.c list),(7,aI (@Nat.cast Int instNatCastInt (List.length (List.map api_Shard.c list)))),(8,aI x'.2)]) (fun x'=>[]) 0 ((0:Int),(0:Int)) [] h ?_;rintro n_7 ⟨n_8,t8_9⟩ h;dsimp only at h;rw [shard_live_l0.eq_2] at h;(conv=>whnf);left;refine bS h (fun h=>?_) fun h=>?_
  ·(conv=>whnf);refine jN h fun n_11=>jM [(3,aI n_11),(6,sM api_Shard.c list),(7,aI (@Nat.cast Int instNatCastInt (List.length (List.map api_Shard.c list)))),(8,aI t8_9)] [] 0 (fun h=>?_) fun h=>?_
   ·(conv=>whnf);left;(conv=>whnf);refine gX h fun h=>?_;(conv=>whnf);refine oB h fun y_12 h=>?_;exact qE []
   exact rE (n_7,n_11,(IntKind.wrap IntKind.i64 (t8_9+(1:Int)))) [] h
  exact qE []
 exact qR
theorem shard_Check_FC {list r} (h:shard_Check F list=some r):FZ ml 20 [] [sM api_Shard.c list] (.bool r) []:=by
 refine fA Tryz.func20 ?_
 unfold shard_Check at h
 (conv=>whnf);refine jS h fun o4 v=>jT [(0,sM api_Shard.c list)] [] 0 (fun h k4 e=>?_) fun h=>?_
 ·(conv=>whnf);left;(conv=>whnf);refine lI (fun n' x'=>shard_Check_l0 F list n' x') (fun x'=>[(0,sM api_Shard.c list),(5,sM api_Shard.c list),(6,aI (@Nat.cast Int instNatCastInt (List.length (List.map api_Shard.c list)))),(7,aI x')]) (fun x'=>[]) 0 (0:Int) [] h ?_;rintro n_22 t7_23 h;rw [shard_Check_l0.eq_2] at h;(conv=>whnf);left;refine bS h (fun h=>?_) fun h=>?_
  ·(conv=>whnf);left;(conv=>whnf);refine gX h fun h=>?_;(conv=>whnf);refine oB h fun y_28 h=>?_;(conv=>whnf);left;(conv=>whnf);refine jN h fun t29_31=>jM [(0,sM api_Shard.c list),(5,sM api_Shard.c list),(6,aI (@Nat.cast Int instNatCastInt (List.length (List.map api_Shard.c list)))),(7,aI t7_23),(29,.bool t29_31)] [] 0 (fun h=>?_) fun h=>?_
   ·(conv=>whnf);left;(conv=>whnf);left;(conv=>whnf);refine cL h shard_right_FC fun y_32 h=>?_;(conv=>whnf);refine bS h (fun h=>qE []) fun h=>?_;(conv=>whnf);refine bS h (fun h=>?_) fun h=>?_
    ·(conv=>whnf);refine gX h fun h=>?_;(conv=>whnf);refine oB h fun y_33 h=>?_;exact qE []
    exact qE []
   (conv=>whnf);left;refine bS h (fun h=>?_) fun h=>?_
   ·cases h;cases k4;exact rfl
   exact rE (n_22,(IntKind.wrap IntKind.i64 (t7_23+(1:Int)))) [] h
  exact qE []
 (conv=>whnf);left;refine bS h (fun h=>?_) fun h=>?_
 ·(conv=>whnf);left;(conv=>whnf);exact cL h shard_live_FC fun y_34 h=>qR
 exact qR
theorem matinslaw20_start_FC0 {groups jobs seen r} (h:matinslaw20_start F groups jobs seen=some r):FZ ml 7 [] [aI groups,sM api_Job.c jobs,sM api_Seen.c seen] (.tup [.agg [aI r.1,aI r.2.1,sM api_Span.c r.2.2.1,aI r.2.2.2.1,aI r.2.2.2.2.1,aI r.2.2.2.2.2.1,aI r.2.2.2.2.2.2.1,aI r.2.2.2.2.2.2.2.1,aI r.2.2.2.2.2.2.2.2.1,aI r.2.2.2.2.2.2.2.2.2.1,.str r.2.2.2.2.2.2.2.2.2.2.1,.osw 0 1],.bool r.2.2.2.2.2.2.2.2.2.2.2.1]) [(0,rT (cSl api_Shard.c) r.2.2.2.2.2.2.2.2.2.2.2.2)]:=by
 refine fG Tryz.func7 ?_
 unfold matinslaw20_start at h
 (conv=>whnf);refine Or.inr (allocV_i 11 1 _ rfl rfl ?_);(conv=>whnf);left;(conv=>whnf);refine cR h atlas_New_FC fun y_0 h=>?_;(conv=>whnf);left;(conv=>whnf);refine Or.inr (buildV_i 11 1 _ rfl rfl ?_);(conv=>whnf);refine Or.inr (allocV_i 11 1 _ rfl rfl ?_);(conv=>whnf);left;refine bS h (fun h=>?_) fun h=>?_
 ·cases h;exact gE [(0,96)]
 (conv=>whnf);refine jN h fun l_1=>jM [(1,sM api_Job.c jobs),(2,sM api_Seen.c seen),(6,pp 0),(10,pp 1)] [(0,rF [aI 0,aI 0,.esl,aI 0,aI 0,aI 0,aI 0,aI 0,aI 0,aI 0,.str [],.osw 2 1]),(1,rF [aI y_0.1.Groups,aI y_0.1.Last,sM api_Span.c y_0.1.Spans,aI y_0.1.Plan.Kind,aI y_0.1.Plan.Phase,aI y_0.1.Plan.Shard,aI y_0.1.Plan.Other,aI y_0.1.Plan.Group,aI y_0.1.Plan.Past,aI y_0.1.Plan.Epoch,.str y_0.1.Plan.Key,.osw 3 1]),(2,rT (cSl api_Shard.c) []),(3,rT (cSl api_Shard.c) l_1)] 4 (fun h=>?_) fun h=>?_
 ·(conv=>whnf);left;(conv=>whnf);refine lI (fun n' x'=>matinslaw20_start_l0 F groups n' x'.1 x'.2) (fun x'=>[(0,aI groups),(1,sM api_Job.c jobs),(2,sM api_Seen.c seen),(6,pp 0),(10,pp 1),(11,aI x'.1)]) (fun x'=>[(0,rF [aI 0,aI 0,.esl,aI 0,aI 0,aI 0,aI 0,aI 0,aI 0,aI 0,.str [],.osw 2 1]),(1,rF [aI y_0.1.Groups,aI y_0.1.Last,sM api_Span.c y_0.1.Spans,aI y_0.1.Plan.Kind,aI y_0.1.Plan.Phase,aI y_0.1.Plan.Shard,aI y_0.1.Plan.Other,aI y_0.1.Plan.Group,aI y_0.1.Plan.Past,aI y_0.1.Plan.Epoch,.str y_0.1.Plan.Key,.osw 3 1]),(2,rT (cSl api_Shard.c) []),(3,rT (cSl api_Shard.c) x'.2)]) 4 ((0:Int),[]) [(0,8),(1,104),(2,9),(3,96)] h ?_;rintro n_2 ⟨i_3,l_4⟩ h;dsimp only at h;rw [matinslaw20_start_l0.eq_2] at h;(conv=>whnf);left;refine bS h (fun h=>?_) fun h=>?_
  ·(conv=>whnf);left;(conv=>whnf);left;(conv=>whnf);refine aX ?_;(conv=>whnf);refine aX ?_;(conv=>whnf);refine gS h fun h=>?_;(conv=>whnf);left;(conv=>whnf);exact round_w (n_2,(IntKind.wrap IntKind.i64 (i_3+(1:Int))),(l_4++([]::[]))) [(0,0),(1,1),(2,2),(3,52)] h (Nat.lt_succ_self _) (WkL.cons (Wk.eq rfl) (WkL.cons (Wk.eq rfl) (WkL.cons (Wk.eq rfl) (WkL.cons (Wk.eq rfl) (WkL.cons (Wk.eq rfl) (WkL.cons (Wk.eq rfl) WkL.nil)))))) (WkOs.cons (WkO.eq (Option.some.inj rfl)) (WkOs.cons (WkO.eq (Option.some.inj rfl)) (WkOs.cons (WkO.eq (Option.some.inj rfl)) (WkOs.cons (WkO.r ((List.map_append (f:=_))▸WkR.append (WkR.of_eq rQ) (WkR.cons (WkL.cons Wk.esl WkL.nil) (WkR.of_eq rQ)))) WkOs.nil)))) rfl
  exact qE [(0,0),(1,1),(2,2),(3,3)]
 (conv=>whnf);left;(conv=>whnf);left;(conv=>whnf);refine aX ?_;(conv=>whnf);refine oB h fun y_5 h=>?_;(conv=>whnf);refine Or.inr ?_;(conv=>whnf);refine oB h fun y_6 h=>?_;(conv=>whnf);refine aX ?_;(conv=>whnf);refine oB (c:=cSl api_Shard.c) h fun y_7 h=>?_;(conv=>whnf);refine oB (c:=cSl api_Shard.c) h fun y_8 h=>?_;(conv=>whnf);left;(conv=>whnf);refine cL h shard_Check_FC fun y_9 h=>?_;(conv=>whnf);refine aX ?_;cases h;exact gE [(0,3)]
theorem shard_copied_FC0 {s r} (h:shard_copied F s=some r):FZ ml 49 [] [.agg (api_Shard.c s)] (.agg [aI r.1,aI r.2.1,aI r.2.2.1,.str r.2.2.2.1,.str r.2.2.2.2.1,sM api_Job.c r.2.2.2.2.2.1,.osw 0 5]) [(0,rT api_Seen.c r.2.2.2.2.2.2)]:=by
 refine fG Tryz.func49 ?_
 unfold shard_copied at h
 (conv=>whnf);left;(conv=>whnf);left;(conv=>whnf);left;(conv=>whnf);refine cR h (fun h=>FC_close (slices_Clone___api_Job_api_Job__FC0 h) rfl) fun y_0 h=>?_;(conv=>whnf);left;(conv=>whnf);refine cR h slices_Clone___api_Seen_api_Seen__FC0 fun y_1 h=>?_;(conv=>whnf);left;(conv=>whnf);refine aX ?_;(conv=>whnf);refine jN h fun l_22=>jM [(1,pp 0),(2,pp 1)] [(0,rF [aI s.Id,aI s.Epoch,aI s.State,.str s.From,.str s.To,sM api_Job.c y_0,.osw 2 5]),(1,rF zr3),(2,rT api_Seen.c l_22)] 3 (fun h=>?_) fun h=>?_
 ·(conv=>whnf);left;(conv=>whnf);refine lI (fun n' x'=>shard_copied_l0 F y_1 n' x'.1 x'.2) (fun x'=>[(1,pp 0),(2,pp 1),(14,aI (@Nat.cast Int instNatCastInt (List.length (List.map api_Seen.c y_1)))),(15,aI x'.1)]) (fun x'=>[(0,rF [aI s.Id,aI s.Epoch,aI s.State,.str s.From,.str s.To,sM api_Job.c y_0,.osw 2 5]),(1,rF zr3),(2,rT api_Seen.c x'.2)]) 3 ((0:Int),y_1) [(0,8),(1,16),(2,64)] h ?_;rintro n_33 ⟨t15_34,l_35⟩ h;dsimp only at h;rw [shard_copied_l0.eq_2] at h;(conv=>whnf);left;refine bS h (fun h=>?_) fun h=>?_
  ·(conv=>whnf);left;(conv=>whnf);refine gX h fun h=>?_;(conv=>whnf);refine oB h fun y_41 h=>?_;(conv=>whnf);refine oB h fun y_42 h=>?_;(conv=>whnf);left;(conv=>whnf);refine cR h (fun h=>FC_close (slices_Clone___api_Job_api_Job__FC0 h) rfl) fun y_43 h=>?_;(conv=>whnf);refine gX h fun h=>?_;(conv=>whnf);refine oB h fun y_44 h=>?_;(conv=>whnf);refine oB h fun y_45 h=>?_;(conv=>whnf);refine aX ?_;exact rE (n_33,(IntKind.wrap IntKind.i64 (t15_34+(1:Int))),(List.set l_35 (Int.toNat t15_34) (api_Seen.mk y_45.Client y_45.Seq (api_Result.mk y_45.Result.Err y_45.Result.Time y_43)))) [(0,0),(1,1),(2,2)] h
  exact qE [(0,0),(1,1),(2,2)]
 exact qG [(0,2)]
theorem shard_orders_FC0 {r} (h:shard_orders F=some r):FZ ml 50 [] [] (AV.mapo 0) [(0,.mapo true [(aI r.1,AV.fn 62 []),(aI r.2.1,AV.fn 63 []),(aI r.2.2.1,AV.fn 64 []),(aI r.2.2.2.1,AV.fn 65 []),(aI r.2.2.2.2.1,AV.fn 66 []),(aI r.2.2.2.2.2.1,AV.fn 67 []),(aI r.2.2.2.2.2.2.1,AV.fn 68 []),(aI r.2.2.2.2.2.2.2,AV.fn 69 [])])]:=by
 refine fG Tryz.func50 ?_
 unfold shard_orders at h
 exact qG [(0,16)]
theorem cmp_isNaN_int__FC {x r} (h:cmp_isNaN_int_ F x=some r):FZ ml 125 [] [aI x] (.bool r) []:=by
 refine fA Tryz.func125 ?_
 unfold cmp_isNaN_int_ at h
 exact qR
theorem cmp_Compare_int__FC {x y r} (h:cmp_Compare_int_ F x y=some r):FZ ml 100 [] [aI x,aI y] (aI r) []:=by
 refine fA Tryz.func100 ?_
 unfold cmp_Compare_int_ at h
 (conv=>whnf);left;(conv=>whnf);refine cL h cmp_isNaN_int__FC fun y_0 h=>?_;(conv=>whnf);left;(conv=>whnf);exact cL h cmp_isNaN_int__FC fun y_1 h=>qR
theorem __shard_group__find_1_FC {s id r} (h:__shard_group__find_1 F s id=some r):FZ ml 99 [] [.agg (api_Shard.c s),aI id] (aI r) []:=by
 refine fA Tryz.func99 ?_
 unfold __shard_group__find_1 at h
 (conv=>whnf);left;(conv=>whnf);left;(conv=>whnf);exact cL h cmp_Compare_int__FC fun y_0 h=>qR
theorem slices_BinarySearchFunc___api_Shard_api_Shard_int__FC {x target r} (h:slices_BinarySearchFunc___api_Shard_api_Shard_int_ F x target=some r):FZ ml 98 [] [sM api_Shard.c x,aI target,AV.fn 99 []] (.tup [aI r.1,.bool r.2]) []:=by
 refine fA Tryz.func98 ?_
 unfold slices_BinarySearchFunc___api_Shard_api_Shard_int_ at h
 (conv=>whnf);refine jN h fun i_4=>jM [(0,sM api_Shard.c x),(1,aI target),(2,AV.fn 99 []),(8,aI (@Nat.cast Int instNatCastInt (List.length (List.map api_Shard.c x)))),(9,aI i_4)] [] 0 (fun h=>?_) fun h=>?_
 ·(conv=>whnf);left;(conv=>whnf);refine lI (fun n' x'=>slices_BinarySearchFunc___api_Shard_api_Shard_int__l0 F x target n' x'.1 x'.2) (fun x'=>[(0,sM api_Shard.c x),(1,aI target),(2,AV.fn 99 []),(8,aI (@Nat.cast Int instNatCastInt (List.length (List.map api_Shard.c x)))),(9,aI x'.1),(10,aI x'.2)]) (fun x'=>[]) 0 ((0:Int),(@Nat.cast Int instNatCastInt (List.length (List.map api_Shard.c x)))) [] h ?_;rintro n_7 ⟨i_8,j_9⟩ h;dsimp only at h;rw [slices_BinarySearchFunc___api_Shard_api_Shard_int__l0.eq_2] at h;(conv=>whnf);left;refine bS h (fun h=>?_) fun h=>?_
  ·(conv=>whnf);left;(conv=>whnf);refine aX ?_;(conv=>whnf);refine gX h fun h=>?_;(conv=>whnf);refine oB h fun y_10 h=>?_;(conv=>whnf);left;(conv=>whnf);refine cL h __shard_group__find_1_FC fun y_11 h=>?_;(conv=>whnf);left;refine bS h (fun h=>?_) fun h=>?_
   ·exact rE (n_7,(IntKind.wrap IntKind.i64 ((IntKind.wrap IntKind.i64 (@Int.fdiv (IntKind.wrap IntKind.u64 (IntKind.wrap IntKind.i64 (i_8+j_9))) ((2:Int) ^ (min (Int.toNat (1:Int)) 64))))+(1:Int))),j_9) [] h
   exact rE (n_7,i_8,(IntKind.wrap IntKind.i64 (@Int.fdiv (IntKind.wrap IntKind.u64 (IntKind.wrap IntKind.i64 (i_8+j_9))) ((2:Int) ^ (min (Int.toNat (1:Int)) 64))))) [] h
  exact qE []
 (conv=>whnf);left;refine bS h (fun h=>?_) fun h=>?_
 ·(conv=>whnf);refine gX h fun h=>?_;(conv=>whnf);refine oB h fun y_12 h=>?_;(conv=>whnf);left;(conv=>whnf);exact cL h __shard_group__find_1_FC fun y_13 h=>qR
 exact qR
theorem __shard_group__find_FC0 {id l r} (h:__shard_group__find F id l=some r):FZ ml 82 [(0,rF [.osw 1 7]),(1,rT api_Shard.c l)] [pp 0,aI id] (.tup [aI r.1,.bool r.2]) [(0,rF [.osw 1 7]),(1,rT api_Shard.c l)]:=by
 refine fG Tryz.func82 ?_
 unfold __shard_group__find at h
 (conv=>whnf);left;(conv=>whnf);exact cL h slices_BinarySearchFunc___api_Shard_api_Shard_int__FC fun y_0 h=>qG [(0,0),(1,1)]
theorem __shard_group__get_FC0 {id l r} (h:__shard_group__get F id l=some (Sum.inl r)):FZ ml 80 [(0,rF [.osw 1 7]),(1,rT api_Shard.c l)] [pp 0,aI id] (AV.con (Value.pointer none)) [(0,rF [.osw 1 7]),(1,rT api_Shard.c l)]:=by
 refine fG Tryz.func80 ?_
 unfold __shard_group__get at h
 (conv=>whnf);refine cG [0,1] h __shard_group__find_FC0 fun y_0 h=>?_;(conv=>whnf);refine jN h fun t25_3=>jM [(0,pp 0),(5,aI y_0.1),(25,.bool t25_3)] [(0,rF [.osw 1 7]),(1,rT api_Shard.c l)] 2 (fun h=>?_) fun h=>?_
 ·(conv=>whnf);left;refine bS h (fun h=>qE [(0,0),(1,1)]) fun h=>?_;(conv=>whnf);refine gX h fun h=>?_;(conv=>whnf);refine oB h fun y_4 h=>?_;(conv=>whnf);refine oB h fun y_5 h=>?_;exact qE [(0,0),(1,1)]
 (conv=>whnf);left;refine bS h (fun h=>qG [(0,0),(1,1)]) fun h=>?_;(conv=>whnf);refine gX h fun h=>?_;(conv=>whnf);refine oB h fun y_6 h=>?_;cases h
theorem __shard_group__get_FC1 {id l r} (h:__shard_group__get F id l=some (Sum.inr r)):FZ ml 80 [(0,rF [.osw 1 7]),(1,rT api_Shard.c l)] [pp 0,aI id] (AV.ptr 1 r 0) [(0,rF [.osw 1 7]),(1,rT api_Shard.c l)]:=by
 refine fG Tryz.func80 ?_
 unfold __shard_group__get at h
 (conv=>whnf);refine cG [0,1] h __shard_group__find_FC0 fun y_0 h=>?_;(conv=>whnf);refine jN h fun t25_3=>jM [(0,pp 0),(5,aI y_0.1),(25,.bool t25_3)] [(0,rF [.osw 1 7]),(1,rT api_Shard.c l)] 2 (fun h=>?_) fun h=>?_
 ·(conv=>whnf);left;refine bS h (fun h=>qE [(0,0),(1,1)]) fun h=>?_;(conv=>whnf);refine gX h fun h=>?_;(conv=>whnf);refine oB h fun y_4 h=>?_;(conv=>whnf);refine oB h fun y_5 h=>?_;exact qE [(0,0),(1,1)]
 (conv=>whnf);left;refine bS h (fun h=>?_) fun h=>?_
 ·cases h
 (conv=>whnf);refine gX h fun h=>?_;(conv=>whnf);refine oB h fun y_6 h=>?_;exact qG [(0,0),(1,1)]
theorem __shard_group__there_FC0 {id epoch l r} (h:__shard_group__there F id epoch l=some (Sum.inl r)):FZ ml 75 [(0,rF [.osw 1 7]),(1,rT api_Shard.c l)] [pp 0,aI id,aI epoch] (.tup [AV.con (Value.pointer none),aI r]) [(0,rF [.osw 1 7]),(1,rT api_Shard.c l)]:=by
 refine fG Tryz.func75 ?_
 unfold __shard_group__there at h
 obtain ⟨y_0,hy,h⟩:=bind_e h;rcases y_0 with y_0 | y_0
 ·replace h:=elim_l h;(conv=>whnf);refine cg [0,1] (__shard_group__get_FC0 hy) ?_;exact qG [(0,0),(1,1)]
 replace h:=elim_r h;(conv=>whnf);refine cg [0,1] (__shard_group__get_FC1 hy) ?_;(conv=>whnf);left;(conv=>whnf);left;(conv=>whnf);refine oB h fun y_2 h=>?_;exact qG [(0,0),(1,1)]
theorem __shard_group__there_FC1 {id epoch l r} (h:__shard_group__there F id epoch l=some (Sum.inr r)):FZ ml 75 [(0,rF [.osw 1 7]),(1,rT api_Shard.c l)] [pp 0,aI id,aI epoch] (.tup [AV.ptr 1 r.1 0,aI r.2]) [(0,rF [.osw 1 7]),(1,rT api_Shard.c l)]:=by
 refine fG Tryz.func75 ?_
 unfold __shard_group__there at h
 obtain ⟨y_0,hy,h⟩:=bind_e h;rcases y_0 with y_0 | y_0
 ·replace h:=elim_l h;(conv=>whnf);refine cg [0,1] (__shard_group__get_FC0 hy) ?_;(conv=>whnf);left;(conv=>whnf);left;cases h
 replace h:=elim_r h;(conv=>whnf);refine cg [0,1] (__shard_group__get_FC1 hy) ?_;(conv=>whnf);left;(conv=>whnf);left;(conv=>whnf);refine oB h fun y_2 h=>?_;(conv=>whnf);left;refine bS h (fun h=>?_) fun h=>?_
 ·cases h
 exact qG [(0,0),(1,1)]
theorem shard_says_FC {e r} (h:shard_says F e=some r):FZ ml 76 [] [aI e] (.tup [.agg (api_Result.c r.1),.agg (api_Shard.c r.2)]) []:=by
 refine fK Tryz.func76 ?_
 unfold shard_says at h
 exact qK
theorem __shard_group__freeze_FC0 {o_ l r} (h:__shard_group__freeze F o_ l=some r):FZ ml 63 [(0,rF [.osw 1 7]),(1,rT api_Shard.c l)] [pp 0,.agg (api_Order.c o_)] (.tup [.agg (api_Result.c r.1),.agg (api_Shard.c r.2.1)]) [(0,rF [.osw 1 7]),(1,rT api_Shard.c r.2.2)]:=by
 refine fG Tryz.func63 ?_
 unfold __shard_group__freeze at h
 (conv=>whnf);left;(conv=>whnf);left;(conv=>whnf);left;obtain ⟨y_0,hy,h⟩:=bind_e h;rcases y_0 with y_0 | y_0
 ·replace h:=elim_l h;(conv=>whnf);refine cg [0,1] (__shard_group__there_FC0 hy) ?_;(conv=>whnf);left;refine bF h fun h=>?_;(conv=>whnf);left;(conv=>whnf);exact cR h shard_says_FC fun y_1 h=>qG [(0,0),(1,1)]
 replace h:=elim_r h;(conv=>whnf);refine cg [0,1] (__shard_group__there_FC1 hy) ?_;(conv=>whnf);left;refine bS h (fun h=>?_) fun h=>?_
 ·(conv=>whnf);left;(conv=>whnf);exact cR h shard_says_FC fun y_2 h=>qG [(0,0),(1,1)]
 (conv=>whnf);refine oB h fun y_3 h=>?_;(conv=>whnf);left;refine bS h (fun h=>?_) fun h=>?_
 ·(conv=>whnf);left;(conv=>whnf);exact cR h shard_says_FC fun y_4 h=>qG [(0,0),(1,1)]
 (conv=>whnf);refine oB h fun y_5 h=>?_;(conv=>whnf);left;(conv=>whnf);refine oB (c:=api_Shard.c) h fun y_6 h=>?_;(conv=>whnf);left;(conv=>whnf);refine cR h (fun h=>FC_close (shard_copied_FC0 h) rfl) fun y_7 h=>?_;cases h;exact gW [(0,0),(1,1)]
theorem shard_past_FC {now next r} (h:shard_past F now next=some r):FZ ml 81 [] [aI now,aI next] (.bool r) []:=by
 refine fA Tryz.func81 ?_
 unfold shard_past at h
 exact qR
theorem __shard_group__thaw_FC0 {o_ l r} (h:__shard_group__thaw F o_ l=some r):FZ ml 64 [(0,rF [.osw 1 7]),(1,rT api_Shard.c l)] [pp 0,.agg (api_Order.c o_)] (.tup [.agg (api_Result.c r.1),.agg (api_Shard.c r.2.1)]) [(0,rF [.osw 1 7]),(1,rT api_Shard.c r.2.2)]:=by
 refine fG Tryz.func64 ?_
 unfold __shard_group__thaw at h
 (conv=>whnf);left;(conv=>whnf);left;(conv=>whnf);left;obtain ⟨y_0,hy,h⟩:=bind_e h;rcases y_0 with y_0 | y_0
 ·replace h:=elim_l h;(conv=>whnf);refine cg [0,1] (__shard_group__get_FC0 hy) ?_;(conv=>whnf);left;(conv=>whnf);refine aX ?_;(conv=>whnf);left;obtain ⟨y_1,hy,h⟩:=bind_e h;rcases y_1 with y_1 | y_1
  ·replace h:=elim_l h;(conv=>whnf);refine cg [0,1] (__shard_group__there_FC0 hy) ?_;(conv=>whnf);left;(conv=>whnf);left;refine bF h fun h=>?_;(conv=>whnf);left;(conv=>whnf);exact cR h shard_says_FC fun y_3 h=>qG [(0,0),(1,1)]
  replace h:=elim_r h;(conv=>whnf);refine cg [0,1] (__shard_group__there_FC1 hy) ?_;(conv=>whnf);left;(conv=>whnf);left;refine bS h (fun h=>?_) fun h=>?_
  ·(conv=>whnf);left;(conv=>whnf);exact cR h shard_says_FC fun y_10 h=>qG [(0,0),(1,1)]
  (conv=>whnf);refine oB h fun y_11 h=>?_;(conv=>whnf);left;refine bS h (fun h=>?_) fun h=>?_
  ·(conv=>whnf);left;(conv=>whnf);exact cR h shard_says_FC fun y_12 h=>qG [(0,0),(1,1)]
  (conv=>whnf);refine oB h fun y_13 h=>?_;(conv=>whnf);left;(conv=>whnf);refine cL h shard_past_FC fun y_14 h=>?_;(conv=>whnf);refine aX ?_;(conv=>whnf);left;refine bS h (fun h=>?_) fun h=>?_
  ·(conv=>whnf);left;(conv=>whnf);exact cR h shard_says_FC fun y_15 h=>qG [(0,0),(1,1)]
  (conv=>whnf);refine oB h fun y_16 h=>?_;(conv=>whnf);refine oB (c:=api_Shard.c) h fun y_17 h=>?_;(conv=>whnf);refine aX ?_;(conv=>whnf);left;(conv=>whnf);refine cR h shard_says_FC fun y_18 h=>?_;cases h;exact gE [(0,0),(1,1)]
 replace h:=elim_r h;(conv=>whnf);refine cg [0,1] (__shard_group__get_FC1 hy) ?_;(conv=>whnf);refine jN h fun t30_21=>jM [(0,pp 0),(3,pp 2),(4,pp 3),(5,pp 4),(30,.bool t30_21)] [(0,rF [.osw 1 7]),(1,rT api_Shard.c l),(2,rF (api_Order.c o_)),(3,rF [aI 0,aI 0,.esl]),(4,rF zr3)] 5 (fun h=>?_) fun h=>?_
 ·(conv=>whnf);left;(conv=>whnf);refine oB h fun y_22 h=>?_;(conv=>whnf);refine bS h (fun h=>?_) fun h=>?_
  ·(conv=>whnf);refine oB h fun y_23 h=>?_;exact qE [(0,0),(1,1),(2,8),(3,16),(4,24)]
  exact qE [(0,0),(1,1),(2,8),(3,16),(4,24)]
 (conv=>whnf);left;refine bS h (fun h=>?_) fun h=>?_
 ·(conv=>whnf);left;(conv=>whnf);exact cR h shard_says_FC fun y_24 h=>qG [(0,0),(1,1)]
 obtain ⟨y_25,hy,h⟩:=bind_e h;rcases y_25 with y_25 | y_25
 ·replace h:=elim_l h;(conv=>whnf);refine cg [0,1] (__shard_group__there_FC0 hy) ?_;(conv=>whnf);left;(conv=>whnf);left;refine bF h fun h=>?_;(conv=>whnf);left;(conv=>whnf);exact cR h shard_says_FC fun y_27 h=>qG [(0,0),(1,1)]
 replace h:=elim_r h;(conv=>whnf);refine cg [0,1] (__shard_group__there_FC1 hy) ?_;(conv=>whnf);left;(conv=>whnf);left;refine bS h (fun h=>?_) fun h=>?_
 ·(conv=>whnf);left;(conv=>whnf);exact cR h shard_says_FC fun y_34 h=>qG [(0,0),(1,1)]
 (conv=>whnf);refine oB h fun y_35 h=>?_;(conv=>whnf);left;refine bS h (fun h=>?_) fun h=>?_
 ·(conv=>whnf);left;(conv=>whnf);exact cR h shard_says_FC fun y_36 h=>qG [(0,0),(1,1)]
 (conv=>whnf);refine oB h fun y_37 h=>?_;(conv=>whnf);left;(conv=>whnf);refine cL h shard_past_FC fun y_38 h=>?_;(conv=>whnf);refine aX ?_;(conv=>whnf);left;refine bS h (fun h=>?_) fun h=>?_
 ·(conv=>whnf);left;(conv=>whnf);exact cR h shard_says_FC fun y_39 h=>qG [(0,0),(1,1)]
 (conv=>whnf);refine oB h fun y_40 h=>?_;(conv=>whnf);refine oB (c:=api_Shard.c) h fun y_41 h=>?_;(conv=>whnf);refine aX ?_;(conv=>whnf);left;(conv=>whnf);refine cR h shard_says_FC fun y_42 h=>?_;cases h;exact gE [(0,0),(1,1)]
theorem slices_Insert___api_Shard_api_Shard__i1_FC0 {i l l_2 r} (h:slices_Insert___api_Shard_api_Shard__i1 F i l l_2=some r):FZ ml 83 [(0,(AO.rows true (List.map api_Shard.c l))),(1,(AO.rows true (List.map api_Shard.c l_2)))] [(AV.osw 0 7),aI i,(AV.osw 1 7)] (AV.osw 2 7) [(2,(AO.rows true (List.map api_Shard.c r)))]:=by
 unfold slices_Insert___api_Shard_api_Shard__i1 at h
 cases l_2 with
 | nil=>cases h
 | cons x rr =>
  cases rr with
  | cons _ _=>cases h
  | nil =>
   obtain ⟨hg,h⟩:=grd_e h
   cases h
   have hF:=FC_insert (G:=GM ml) (s:=List.map api_Shard.c l) (p:=true) (q:=true) (row:=api_Shard.c x) (i:=Int.toNat i) ins_ok_83 (by decide) (fun r hr=>by obtain ⟨y,_,rfl⟩:=List.mem_map.1 hr;rfl) (by simpa using hg.2.1) (by simpa using hg.2.2) rfl
   rw [Int.toNat_of_nonneg hg.1] at hF
   have e:List.map api_Shard.c (List.take (Int.toNat i) l++x::List.drop (Int.toNat i) l)=List.take (Int.toNat i) (List.map api_Shard.c l)++api_Shard.c x::List.drop (Int.toNat i) (List.map api_Shard.c l):=by rw [List.map_append,List.map_cons,List.map_take,List.map_drop]
   rw [e]
   exact hF
end Go.T
