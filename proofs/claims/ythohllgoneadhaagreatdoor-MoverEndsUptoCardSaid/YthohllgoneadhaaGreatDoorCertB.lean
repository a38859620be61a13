import Derived.Test.YthohllgoneadhaaGreatDoorCertA
set_option linter.unusedVariables false
set_option maxRecDepth 200000
set_option maxHeartbeats 4000000
namespace Go.T
open Go Go.Ab Go.Proofs
variable {ml:Gv} {F:Nat}
theorem Ziz {name r} (h:Zef F name=some (Sum.inl r)):FZ ml 106 [] [.str name] (.tup [AV.con (Value.pointer none),aI r]) []:=by
 refine fG Tryz.func106 ?_
 unfold Zef at h
 (conv=>whnf);left;(conv=>whnf);left;(conv=>whnf);refine jS h fun o0 ⟨c_0,c_1,c_2,c_3,c_4,c_5,c_6,c_7⟩=>jT [(4,pp 0)] [(0,rF [aI (c_0),aI (c_1),aI (c_2),aI (c_3),aI 0,aI (c_4),aI (c_5),aI (c_6),aI 0,aI (c_7)])] 1 (fun h k0 e=>?_) fun h=>?_
 ·(conv=>whnf);left;(conv=>whnf);left;refine bS h (fun h=>qE [(0,32)]) fun h=>?_;(conv=>whnf);left;refine bS h (fun h=>qE [(0,32)]) fun h=>?_;(conv=>whnf);left;refine bS h (fun h=>qE [(0,32)]) fun h=>?_;(conv=>whnf);left;refine bS h (fun h=>qE [(0,32)]) fun h=>?_;(conv=>whnf);left;refine bS h (fun h=>qE [(0,32)]) fun h=>?_;(conv=>whnf);left;refine bS h (fun h=>qE [(0,32)]) fun h=>?_;(conv=>whnf);left;refine bS h (fun h=>qE [(0,32)]) fun h=>?_;cases h;cases k0;exact gI []
 (conv=>whnf);left;obtain ⟨y_8,hy,h⟩:=ZbE h;rcases y_8 with y_8 | y_8
 ·replace h:=Zc9 h;refine ⟨_,_,(Zba (ZgJ hy) rfl),Or.inr ⟨[],rfl,?_⟩⟩;exact qG []
 replace h:=Zc8 h;(conv=>whnf);refine ⟨_,_,(ZgI hy),Or.inr ⟨[],rfl,?_⟩⟩;cases h
theorem Ziy {name r} (h:Zef F name=some (Sum.inr r)):FZ ml 106 [] [.str name] (.tup [pp 0,aI r.1]) [(0,rF (Zcv.c r.2))]:=by
 refine fG Tryz.func106 ?_
 unfold Zef at h
 (conv=>whnf);left;(conv=>whnf);left;(conv=>whnf);refine jS h fun o0 ⟨c_0,c_1,c_2,c_3,c_4,c_5,c_6,c_7⟩=>jT [(4,pp 0)] [(0,rF [aI (c_0),aI (c_1),aI (c_2),aI (c_3),aI 0,aI (c_4),aI (c_5),aI (c_6),aI 0,aI (c_7)])] 1 (fun h k0 e=>?_) fun h=>?_
 ·(conv=>whnf);left;(conv=>whnf);left;refine bS h (fun h=>qE [(0,32)]) fun h=>?_;(conv=>whnf);left;refine bS h (fun h=>qE [(0,32)]) fun h=>?_;(conv=>whnf);left;refine bS h (fun h=>qE [(0,32)]) fun h=>?_;(conv=>whnf);left;refine bS h (fun h=>qE [(0,32)]) fun h=>?_;(conv=>whnf);left;refine bS h (fun h=>qE [(0,32)]) fun h=>?_;(conv=>whnf);left;refine bS h (fun h=>qE [(0,32)]) fun h=>?_;(conv=>whnf);left;refine bS h (fun h=>qE [(0,32)]) fun h=>?_;cases h;cases k0
 (conv=>whnf);left;obtain ⟨y_8,hy,h⟩:=ZbE h;rcases y_8 with y_8 | y_8
 ·replace h:=Zc9 h;refine ⟨_,_,(Zba (ZgJ hy) rfl),Or.inr ⟨[],rfl,?_⟩⟩;cases h
 replace h:=Zc8 h;(conv=>whnf);refine ⟨_,_,(ZgI hy),Or.inr ⟨[],rfl,?_⟩⟩;exact qG [(0,9)]
theorem Zf6 {r} (h:Zd9 F=some r):FZ ml 107 [] [AV.con (Value.pointer none)] (.agg (ZbT.c r)) []:=by
 refine fA Tryz.func107 ?_
 unfold Zd9 at h
 exact qR
theorem Ze9 {b r} (h:Zdr F b=some r):FZ ml 107 [(0,rF (Zcv.c b))] [pp 0] (.agg (ZbT.c r)) [(0,rF (Zcv.c b))]:=by
 refine fG Tryz.func107 ?_
 unfold Zdr at h
 exact qG [(0,0)]
theorem Zj9 {expr name r} (h:ZfY F expr name=some r):FZ ml 90 [] [.str expr,.str name] (.tup [.agg (ZbI.c r.1),.agg (ZbT.c r.2.1),aI r.2.2]) []:=by
 refine fA Tryz.func90 ?_
 unfold ZfY at h
 (conv=>whnf);left;(conv=>whnf);left;(conv=>whnf);left;(conv=>whnf);refine cL h Zjr fun y_0 h=>?_;(conv=>whnf);left;(conv=>whnf);left;refine bS h (fun h=>qR) fun h=>?_;(conv=>whnf);left;obtain ⟨y_1,hy,h⟩:=ZbE h;rcases y_1 with y_1 | y_1
 ·replace h:=Zc9 h;refine ⟨_,_,(Zba (Ziz hy) rfl),Or.inr ⟨[],rfl,?_⟩⟩;(conv=>whnf);left;(conv=>whnf);exact cL h Zf6 fun y_2 h=>qR
 replace h:=Zc8 h;(conv=>whnf);refine ⟨_,_,(Ziy hy),Or.inr ⟨[],rfl,?_⟩⟩;(conv=>whnf);exact cG [136] h Ze9 fun y_3 h=>qR
theorem ZiA {t r} (h:ZeL F t=some r):FZ ml 91 [] [aI t] (.bool r) []:=by
 refine fA Tryz.func91 ?_
 unfold ZeL at h
 exact qR
theorem Zgu {c r} (h:Zek F c=some r):FZ ml 109 [] [.agg (ZbI.c c)] (.agg (Zcu.c r)) []:=by
 refine fA Tryz.func109 ?_
 unfold Zek at h
 exact qR
theorem Zes {field r} (h:ZcC F field=some r):FZ ml 110 [] [aI field] (.int IntKind.u64 r) []:=by
 refine fA Tryz.func110 ?_
 unfold ZcC at h
 (conv=>whnf);left;refine bS h (fun h=>?_) fun h=>?_
 ·(conv=>whnf);left;(conv=>whnf);exact cL h ZdQ fun y_0 h=>qR
 (conv=>whnf);left;(conv=>whnf);refine gX h fun h=>?_;(conv=>whnf);refine gX h fun h=>?_;(conv=>whnf);refine Or.inr ?_;(conv=>whnf);refine bS h (fun h=>?_) fun h=>?_
 ·(conv=>whnf);refine gX h fun h=>?_;(conv=>whnf);refine gX h fun h=>?_;(conv=>whnf);refine Or.inr ?_;(conv=>whnf);refine bF h fun h=>?_;(conv=>whnf);left;(conv=>whnf);exact cL h ZdQ fun y_1 h=>qR
 (conv=>whnf);refine bS h (fun h=>?_) fun h=>?_
 ·(conv=>whnf);refine gX h fun h=>?_;(conv=>whnf);refine gX h fun h=>?_;(conv=>whnf);refine Or.inr ?_;(conv=>whnf);refine bT h fun h=>?_;(conv=>whnf);refine bF h fun h=>?_;(conv=>whnf);left;(conv=>whnf);exact cL h ZdQ fun y_2 h=>qR
 (conv=>whnf);refine bS h (fun h=>?_) fun h=>?_
 ·(conv=>whnf);refine gX h fun h=>?_;(conv=>whnf);refine gX h fun h=>?_;(conv=>whnf);refine Or.inr ?_;(conv=>whnf);refine bT h fun h=>?_;(conv=>whnf);refine bT h fun h=>?_;(conv=>whnf);refine bF h fun h=>?_;(conv=>whnf);left;(conv=>whnf);exact cL h ZdQ fun y_3 h=>qR
 (conv=>whnf);refine bS h (fun h=>?_) fun h=>?_
 ·(conv=>whnf);refine gX h fun h=>?_;(conv=>whnf);refine gX h fun h=>?_;(conv=>whnf);refine Or.inr ?_;(conv=>whnf);refine bT h fun h=>?_;(conv=>whnf);refine bT h fun h=>?_;(conv=>whnf);refine bT h fun h=>?_;(conv=>whnf);refine bF h fun h=>?_;(conv=>whnf);left;(conv=>whnf);exact cL h ZdQ fun y_4 h=>qR
 (conv=>whnf);refine bT h fun h=>?_;exact trivial
theorem Zjs {c r} (h:Zfn F c=some r):FZ ml 108 [] [.agg (ZbI.c c)] (.bool r) []:=by
 refine fA Tryz.func108 ?_
 unfold Zfn at h
 (conv=>whnf);left;(conv=>whnf);left;(conv=>whnf);refine cL h Zgu fun y_0 h=>?_;(conv=>whnf);refine jS h fun o6 v=>jT [(1,pp 0)] [(0,rF [AV.int IntKind.u64 c.Minute,AV.int IntKind.u64 c.Hour,AV.int IntKind.u64 c.Day,AV.int IntKind.u64 c.Month,AV.int IntKind.u64 c.Week,.bool c.AnyDay,.bool c.AnyWeek])] 1 (fun h k6 e=>?_) fun h=>?_
 ·(conv=>whnf);left;(conv=>whnf);refine lI (fun n' x'=>ZcD F y_0 n' x') (fun x'=>[(1,pp 0),(6,.agg [AV.int IntKind.u64 y_0.e0,AV.int IntKind.u64 y_0.e1,AV.int IntKind.u64 y_0.e2,AV.int IntKind.u64 y_0.e3,AV.int IntKind.u64 y_0.e4]),(7,aI x')]) (fun x'=>[(0,rF [AV.int IntKind.u64 c.Minute,AV.int IntKind.u64 c.Hour,AV.int IntKind.u64 c.Day,AV.int IntKind.u64 c.Month,AV.int IntKind.u64 c.Week,.bool c.AnyDay,.bool c.AnyWeek])]) 1 (0:Int) [(0,8)] h ?_;rintro n_17 t7_18 h;rw [ZcD.eq_2] at h;(conv=>whnf);left;refine bS h (fun h=>?_) fun h=>?_
  ·(conv=>whnf);left;(conv=>whnf);refine jN h fun b_22=>jM [(1,pp 0),(3,aI t7_18),(4,AV.int IntKind.u64 b_22),(6,.agg [AV.int IntKind.u64 y_0.e0,AV.int IntKind.u64 y_0.e1,AV.int IntKind.u64 y_0.e2,AV.int IntKind.u64 y_0.e3,AV.int IntKind.u64 y_0.e4]),(7,aI t7_18)] [(0,rF [AV.int IntKind.u64 c.Minute,AV.int IntKind.u64 c.Hour,AV.int IntKind.u64 c.Day,AV.int IntKind.u64 c.Month,AV.int IntKind.u64 c.Week,.bool c.AnyDay,.bool c.AnyWeek])] 1 (fun h=>?_) fun h=>?_
   ·(conv=>whnf);left;(conv=>whnf);refine gX h fun h=>?_;(conv=>whnf);refine gX h fun h=>?_;(conv=>whnf);refine Or.inr ?_;(conv=>whnf);refine bS h (fun h=>qE [(0,0)]) fun h=>?_;(conv=>whnf);refine bS h (fun h=>qE [(0,0)]) fun h=>?_;(conv=>whnf);refine bS h (fun h=>qE [(0,0)]) fun h=>?_;(conv=>whnf);refine bS h (fun h=>qE [(0,0)]) fun h=>?_;(conv=>whnf);refine bS h (fun h=>qE [(0,0)]) fun h=>?_;exact trivial
   (conv=>whnf);refine jN h fun t19_24=>jM [(1,pp 0),(6,.agg [AV.int IntKind.u64 y_0.e0,AV.int IntKind.u64 y_0.e1,AV.int IntKind.u64 y_0.e2,AV.int IntKind.u64 y_0.e3,AV.int IntKind.u64 y_0.e4]),(7,aI t7_18),(19,.bool t19_24)] [(0,rF [AV.int IntKind.u64 c.Minute,AV.int IntKind.u64 c.Hour,AV.int IntKind.u64 c.Day,AV.int IntKind.u64 c.Month,AV.int IntKind.u64 c.Week,.bool c.AnyDay,.bool c.AnyWeek])] 1 (fun h=>?_) fun h=>?_
   ·(conv=>whnf);left;refine bS h (fun h=>qE [(0,0)]) fun h=>?_;(conv=>whnf);left;(conv=>whnf);exact cL h Zes fun y_25 h=>qE [(0,0)]
   (conv=>whnf);left;refine bS h (fun h=>?_) fun h=>?_
   ·cases h;cases k6;exact rfl
   exact rE (n_17,(IntKind.wrap IntKind.i64 (t7_18+(1:Int)))) [(0,0)] h
  exact qE [(0,0)]
 (conv=>whnf);left;refine bS h (fun h=>?_) fun h=>?_
 ·(conv=>whnf);refine bS h (fun h=>qR) fun h=>?_;(conv=>whnf);left;(conv=>whnf);exact cL h Zes fun y_26 h=>qR
 (conv=>whnf);left;(conv=>whnf);refine cL h Zes fun y_27 h=>?_;(conv=>whnf);refine bS h (fun h=>?_) fun h=>?_
 ·(conv=>whnf);refine bS h (fun h=>qR) fun h=>?_;(conv=>whnf);left;(conv=>whnf);exact cL h Zes fun y_28 h=>qR
 exact qR
theorem Zdi {n r} (h:Zbp F n=some r):FZ ml 132 [] [.int .u64 n] (.int .i64 r) []:=by
 unfold Zbp at h
 obtain ⟨hg,h⟩:=grd_e h
 cases h
 exact Zrf (g:=1) (by kernel_rfl) rfl (fun x w a b=>Tryz.bits_TrailingZeros64 x a w b) n hg.1 hg.2
theorem ZfJ {i r} (h:strconv_Itoa F i=some r):FZ ml 133 [] [aI i] (AV.str r) []:=by
 unfold strconv_Itoa at h
 obtain ⟨hg,h⟩:=grd_e h
 cases h
 exact ZqG (g:=3) (by kernel_rfl) rfl (by kernel_rfl) (fun n a b w c=>Tryz.strconv_Itoa n a b w c) i hg.1 hg.2
theorem ZfM {xs sep r} (h:strings_Join F xs sep=some r):FZ ml 112 [] [.sl (List.map cStr xs),.str sep] (.str r) []:=by
 unfold strings_Join at h
 obtain ⟨hg,h⟩:=grd_e h
 cases h
 exact ZqF (by kernel_rfl) (fun a c sep w=>Tryz.strings_Join_none a c sep w) (fun bk o c xs sep w a b d e g=>Tryz.strings_Join bk o c xs sep w a b d e g) xs sep hg
theorem Zkt {b r} (h:ZeO F b=some r):FZ ml 111 [] [AV.int IntKind.u64 b] (.str r) []:=by
 refine fA Tryz.func111 ?_
 unfold ZeO at h
 (conv=>whnf);refine jN h fun l_12=>jM [(3,.osw 0 1)] [(0,rT cStr l_12)] 1 (fun h=>?_) fun h=>?_
 ·(conv=>whnf);left;(conv=>whnf);refine lI (fun n' x'=>ZdS F n' x'.1 x'.2) (fun x'=>[(0,AV.int IntKind.u64 x'.1),(3,.osw 0 1)]) (fun x'=>[(0,rT cStr x'.2)]) 1 (b,[]) [(0,16)] h ?_;rintro n_19 ⟨b_20,l_21⟩ h;dsimp only at h;rw [ZdS.eq_2] at h;(conv=>whnf);left;refine bS h (fun h=>?_) fun h=>?_
  ·(conv=>whnf);left;(conv=>whnf);left;(conv=>whnf);refine cL h Zdi fun y_22 h=>?_;(conv=>whnf);refine gX h fun h=>?_;(conv=>whnf);left;(conv=>whnf);refine cL h Zdi fun y_23 h=>?_;(conv=>whnf);left;(conv=>whnf);refine cR h (fun h=>Zba (ZfJ h) rfl) fun y_24 h=>?_;(conv=>whnf);refine jN h fun s_26=>jM [(0,AV.int IntKind.u64 b_20),(3,.osw 0 1),(4,aI y_22),(5,aI y_23),(6,.str s_26)] [(0,rT cStr l_21)] 1 (fun h=>?_) fun h=>?_
   ·(conv=>whnf);left;refine bS h (fun h=>?_) fun h=>?_
    ·(conv=>whnf);left;(conv=>whnf);exact cR h (fun h=>Zba (ZfJ h) rfl) fun y_27 h=>qE [(0,0)]
    exact qE [(0,0)]
   (conv=>whnf);left;(conv=>whnf);refine aX ?_;(conv=>whnf);refine aX ?_;(conv=>whnf);refine gS h fun h=>?_;(conv=>whnf);left;(conv=>whnf);refine cL h ZdQ fun y_28 h=>?_;exact rE (n_19,(@ibits BinOp.andNot IntKind.u64 b_20 y_28),(l_21++(s_26::[]))) [(0,25)] h
  exact qE [(0,0)]
 (conv=>whnf);left;(conv=>whnf);exact cL h ZfM fun y_29 h=>qR
theorem Zjq {c r} (h:ZdU F c=some r):FZ ml 92 [] [.agg (ZbI.c c)] (.tup [.str r.1,aI r.2]) []:=by
 refine fA Tryz.func92 ?_
 unfold ZdU at h
 (conv=>whnf);left;(conv=>whnf);left;(conv=>whnf);refine cL h Zjs fun y_0 h=>?_;(conv=>whnf);left;refine bS h (fun h=>qR) fun h=>?_;(conv=>whnf);left;(conv=>whnf);refine cL h Zgu fun y_1 h=>?_;(conv=>whnf);refine jN h fun l_10=>jM [(4,.osw 0 1)] [(0,rT cStr l_10)] 1 (fun h=>?_) fun h=>?_
 ·(conv=>whnf);left;(conv=>whnf);refine lI (fun n' x'=>ZbX F c y_1 n' x'.1 x'.2) (fun x'=>[(1,pp 0),(4,.osw 1 1),(12,.agg [AV.int IntKind.u64 y_1.e0,AV.int IntKind.u64 y_1.e1,AV.int IntKind.u64 y_1.e2,AV.int IntKind.u64 y_1.e3,AV.int IntKind.u64 y_1.e4]),(13,aI x'.1)]) (fun x'=>[(0,rF [AV.int IntKind.u64 c.Minute,AV.int IntKind.u64 c.Hour,AV.int IntKind.u64 c.Day,AV.int IntKind.u64 c.Month,AV.int IntKind.u64 c.Week,.bool c.AnyDay,.bool c.AnyWeek]),(1,rT cStr x'.2)]) 2 ((0:Int),[]) [(0,8),(1,56)] h ?_;rintro n_16 ⟨t13_17,l_18⟩ h;dsimp only at h;rw [ZbX.eq_2] at h;(conv=>whnf);left;refine bS h (fun h=>?_) fun h=>?_
  ·(conv=>whnf);refine jN h fun l_23=>jM [(1,pp 0),(4,.osw 1 1),(12,.agg [AV.int IntKind.u64 y_1.e0,AV.int IntKind.u64 y_1.e1,AV.int IntKind.u64 y_1.e2,AV.int IntKind.u64 y_1.e3,AV.int IntKind.u64 y_1.e4]),(13,aI t13_17)] [(0,rF [AV.int IntKind.u64 c.Minute,AV.int IntKind.u64 c.Hour,AV.int IntKind.u64 c.Day,AV.int IntKind.u64 c.Month,AV.int IntKind.u64 c.Week,.bool c.AnyDay,.bool c.AnyWeek]),(1,rT cStr l_23)] 2 (fun h=>?_) fun h=>?_
   ·(conv=>whnf);left;(conv=>whnf);refine jN h fun b_24=>jM [(1,pp 0),(4,.osw 1 1),(5,aI t13_17),(6,AV.int IntKind.u64 b_24),(12,.agg [AV.int IntKind.u64 y_1.e0,AV.int IntKind.u64 y_1.e1,AV.int IntKind.u64 y_1.e2,AV.int IntKind.u64 y_1.e3,AV.int IntKind.u64 y_1.e4]),(13,aI t13_17)] [(0,rF [AV.int IntKind.u64 c.Minute,AV.int IntKind.u64 c.Hour,AV.int IntKind.u64 c.Day,AV.int IntKind.u64 c.Month,AV.int IntKind.u64 c.Week,.bool c.AnyDay,.bool c.AnyWeek]),(1,rT cStr l_18)] 2 (fun h=>?_) fun h=>?_
    ·(conv=>whnf);left;(conv=>whnf);refine gX h fun h=>?_;(conv=>whnf);refine gX h fun h=>?_;(conv=>whnf);refine Or.inr ?_;(conv=>whnf);refine bS h (fun h=>qE [(0,0),(1,1)]) fun h=>?_;(conv=>whnf);refine bS h (fun h=>qE [(0,0),(1,1)]) fun h=>?_;(conv=>whnf);refine bS h (fun h=>qE [(0,0),(1,1)]) fun h=>?_;(conv=>whnf);refine bS h (fun h=>qE [(0,0),(1,1)]) fun h=>?_;(conv=>whnf);refine bS h (fun h=>qE [(0,0),(1,1)]) fun h=>?_;exact trivial
    (conv=>whnf);left;(conv=>whnf);refine cL h Zes fun y_25 h=>?_;(conv=>whnf);refine jN h fun star_26=>jM [(1,pp 0),(4,.osw 1 1),(6,AV.int IntKind.u64 b_24),(7,.bool star_26),(12,.agg [AV.int IntKind.u64 y_1.e0,AV.int IntKind.u64 y_1.e1,AV.int IntKind.u64 y_1.e2,AV.int IntKind.u64 y_1.e3,AV.int IntKind.u64 y_1.e4]),(13,aI t13_17)] [(0,rF [AV.int IntKind.u64 c.Minute,AV.int IntKind.u64 c.Hour,AV.int IntKind.u64 c.Day,AV.int IntKind.u64 c.Month,AV.int IntKind.u64 c.Week,.bool c.AnyDay,.bool c.AnyWeek]),(1,rT cStr l_18)] 2 (fun h=>qE [(0,0),(1,1)]) fun h=>?_;(conv=>whnf);left;refine bS h (fun h=>?_) fun h=>?_
    ·(conv=>whnf);left;(conv=>whnf);refine aX ?_;(conv=>whnf);refine aX ?_;(conv=>whnf);refine gS h fun h=>?_;cases h;exact eE [(0,0),(1,26)]
    (conv=>whnf);left;(conv=>whnf);refine cL h Zkt fun y_27 h=>?_;(conv=>whnf);left;(conv=>whnf);refine aX ?_;(conv=>whnf);refine aX ?_;(conv=>whnf);refine gS h fun h=>?_;cases h;exact eE [(0,0),(1,42)]
   exact rE (n_16,(IntKind.wrap IntKind.i64 (t13_17+(1:Int))),l_23) [(0,0),(1,1)] h
  exact qE [(0,1)]
 (conv=>whnf);left;(conv=>whnf);exact cL h ZfM fun y_28 h=>qR
theorem Zjh {j r} (h:ZdA F j=some r):FZ ml 72 [] [.agg (Zaf.c j)] (.bool r) []:=by
 refine fA Tryz.func72 ?_
 unfold ZdA at h
 (conv=>whnf);left;(conv=>whnf);left;(conv=>whnf);refine cL h Zj9 fun y_0 h=>?_;(conv=>whnf);left;(conv=>whnf);left;(conv=>whnf);refine jN h fun t51_3=>jM [(1,pp 0),(3,pp 1),(51,.bool t51_3)] [(0,rF (Zaf.c j)),(1,rF [AV.int IntKind.u64 y_0.1.Minute,AV.int IntKind.u64 y_0.1.Hour,AV.int IntKind.u64 y_0.1.Day,AV.int IntKind.u64 y_0.1.Month,AV.int IntKind.u64 y_0.1.Week,.bool y_0.1.AnyDay,.bool y_0.1.AnyWeek])] 2 (fun h=>?_) fun h=>?_
 ·(conv=>whnf);left;refine bS h (fun h=>qE [(0,8),(1,96)]) fun h=>?_;(conv=>whnf);left;(conv=>whnf);refine cL h Zd4 fun y_4 h=>?_;(conv=>whnf);refine bS h (fun h=>qE [(0,8),(1,96)]) fun h=>?_;(conv=>whnf);refine bS h (fun h=>qE [(0,8),(1,96)]) fun h=>?_;(conv=>whnf);refine bS h (fun h=>qE [(0,8),(1,96)]) fun h=>?_;(conv=>whnf);refine bS h (fun h=>qE [(0,8),(1,96)]) fun h=>?_;(conv=>whnf);refine bS h (fun h=>qE [(0,8),(1,96)]) fun h=>?_;(conv=>whnf);left;(conv=>whnf);exact cL h ZiA fun y_5 h=>qE [(0,8),(1,96)]
 (conv=>whnf);left;refine bS h (fun h=>qR) fun h=>?_;(conv=>whnf);left;(conv=>whnf);exact cL h Zjq fun y_6 h=>qR
theorem Zjk {list r} (h:ZdC F list=some r):FZ ml 54 [] [sM Zaf.c list] (.bool r) []:=by
 refine fA Tryz.func54 ?_
 unfold ZdC at h
 (conv=>whnf);refine jS h fun o4 v=>jT [(0,sM Zaf.c list)] [] 0 (fun h k4 e=>?_) fun h=>?_
 ·(conv=>whnf);left;(conv=>whnf);refine lI (fun n' x'=>Zcb F list n' x') (fun x'=>[(0,sM Zaf.c list),(5,sM Zaf.c list),(6,aI (@Nat.cast Int instNatCastInt (List.length (List.map Zaf.c list)))),(7,aI x')]) (fun x'=>[]) 0 (0:Int) [] h ?_;rintro n_22 t7_23 h;rw [Zcb.eq_2] at h;(conv=>whnf);left;refine bS h (fun h=>?_) fun h=>?_
  ·(conv=>whnf);left;(conv=>whnf);refine gX h fun h=>?_;(conv=>whnf);refine oB h fun y_28 h=>?_;(conv=>whnf);left;(conv=>whnf);refine jN h fun t29_31=>jM [(0,sM Zaf.c list),(5,sM Zaf.c list),(6,aI (@Nat.cast Int instNatCastInt (List.length (List.map Zaf.c list)))),(7,aI t7_23),(29,.bool t29_31)] [] 0 (fun h=>?_) fun h=>?_
   ·(conv=>whnf);left;(conv=>whnf);left;(conv=>whnf);refine cL h Zjh fun y_32 h=>?_;(conv=>whnf);refine bS h (fun h=>qE []) fun h=>?_;(conv=>whnf);refine bS h (fun h=>?_) fun h=>?_
    ·(conv=>whnf);refine gX h fun h=>?_;(conv=>whnf);refine oB h fun y_33 h=>?_;exact qE []
    exact qE []
   (conv=>whnf);left;refine bS h (fun h=>?_) fun h=>?_
   ·cases h;cases k4;exact rfl
   exact rE (n_22,(IntKind.wrap IntKind.i64 (t7_23+(1:Int)))) [] h
  exact qE []
 exact qR
theorem ZgM {client seq r} (h:Zdv F client seq=some r):FZ ml 73 [] [aI client,aI seq] (.bool r) []:=by
 refine fA Tryz.func73 ?_
 unfold Zdv at h
 exact qR
theorem ZeA {book r} (h:Zbl F book=some r):FZ ml 55 [] [sM Zac.c book] (.bool r) []:=by
 refine fA Tryz.func55 ?_
 unfold Zbl at h
 (conv=>whnf);refine jS h fun o4 v=>jT [] [] 0 (fun h k4 e=>?_) fun h=>?_
 ·(conv=>whnf);left;(conv=>whnf);refine lI (fun n' x'=>ZbG F book n' x') (fun x'=>[(0,sM Zac.c book),(5,sM Zac.c book),(6,aI (@Nat.cast Int instNatCastInt (List.length (List.map Zac.c book)))),(7,aI x')]) (fun x'=>[]) 0 (0:Int) [] h ?_;rintro n_22 t7_23 h;rw [ZbG.eq_2] at h;(conv=>whnf);left;refine bS h (fun h=>?_) fun h=>?_
  ·(conv=>whnf);left;(conv=>whnf);refine gX h fun h=>?_;(conv=>whnf);refine oB h fun y_28 h=>?_;(conv=>whnf);left;(conv=>whnf);refine jN h fun t32_31=>jM [(0,sM Zac.c book),(5,sM Zac.c book),(6,aI (@Nat.cast Int instNatCastInt (List.length (List.map Zac.c book)))),(7,aI t7_23),(32,.bool t32_31)] [] 0 (fun h=>?_) fun h=>?_
   ·(conv=>whnf);left;(conv=>whnf);left;(conv=>whnf);refine cL h ZgM fun y_32 h=>?_;(conv=>whnf);refine bS h (fun h=>qE []) fun h=>?_;(conv=>whnf);refine bS h (fun h=>?_) fun h=>?_
    ·(conv=>whnf);refine gX h fun h=>?_;(conv=>whnf);refine oB h fun y_33 h=>?_;exact qE []
    exact qE []
   (conv=>whnf);left;refine bS h (fun h=>?_) fun h=>?_
   ·cases h;cases k4;exact rfl
   exact rE (n_22,(IntKind.wrap IntKind.i64 (t7_23+(1:Int)))) [] h
  exact qE []
 exact qR
theorem ZeE {s name r} (h:Zdu F s name=some r):FZ ml 58 [] [.agg (Zaa.c s),.str name] (.bool r) []:=by
 refine fA Tryz.func58 ?_
 unfold Zdu at h
 (conv=>whnf);left;(conv=>whnf);refine jN h fun t26_2=>jM [(1,.str name),(2,pp 0),(26,.bool t26_2)] [(0,rF (Zaa.c s))] 1 (fun h=>?_) fun h=>?_
 ·(conv=>whnf);left;(conv=>whnf);left;(conv=>whnf);refine cL h Ze2 fun y_3 h=>?_;(conv=>whnf);refine bS h (fun h=>qE [(0,8)]) fun h=>?_;(conv=>whnf);left;(conv=>whnf);exact cL h Ze2 fun y_4 h=>qE [(0,8)]
 (conv=>whnf);left;refine bS h (fun h=>qR) fun h=>?_;(conv=>whnf);left;(conv=>whnf);left;(conv=>whnf);exact cL h Zd4 fun y_5 h=>qR
theorem Zhy {j a1 r} (h:Zez F j a1=some r):FZ ml 57 [] [.agg (Zaf.c j),AV.rp (Zaa.c a1) 0] (.bool r) []:=by
 refine fA Tryz.func57 ?_
 unfold Zez at h
 (conv=>whnf);left;(conv=>whnf);left;(conv=>whnf);exact cL h ZeE fun y_0 h=>qR
theorem Zdt {s f0 r} (h:Zbm F s f0=some r):FZ ml 74 [] [sM Zaf.c s,AV.fn 57 ((AV.rp (Zaa.c f0) 0)::[])] (aI r) []:=by
 refine fA Tryz.func74 ?_
 unfold Zbm at h
 (conv=>whnf);refine jS h fun o0 v=>jT [] [] 0 (fun h k0 e=>?_) fun h=>?_
 ·(conv=>whnf);left;(conv=>whnf);refine lI (fun n' x'=>ZaC F s f0 n' x') (fun x'=>[(0,sM Zaf.c s),(1,AV.fn 57 ((AV.rp ((AV.int IntKind.i64 f0.Id)::((AV.int IntKind.i64 f0.Epoch)::((AV.int IntKind.i64 f0.State)::((AV.str f0.From)::((AV.str f0.To)::((AV.sl (List.map Zaf.c f0.Jobs))::((AV.sl (List.map Zac.c f0.Seen))::[]))))))) 0)::[])),(7,aI (@Nat.cast Int instNatCastInt (List.length (List.map Zaf.c s)))),(8,aI x')]) (fun x'=>[]) 0 (0:Int) [] h ?_;rintro n_12 t8_13 h;rw [ZaC.eq_2] at h;(conv=>whnf);left;refine bS h (fun h=>?_) fun h=>?_
  ·(conv=>whnf);left;(conv=>whnf);refine gX h fun h=>?_;(conv=>whnf);refine oB h fun y_16 h=>?_;(conv=>whnf);left;(conv=>whnf);refine cL h Zhy fun y_17 h=>?_;(conv=>whnf);left;refine bS h (fun h=>?_) fun h=>?_
   ·cases h;cases k0;exact rfl
   exact rE (n_12,(IntKind.wrap IntKind.i64 (t8_13+(1:Int)))) [] h
  exact qE []
 exact qR
theorem Zc6 {s b r} (h:Zat F s b=some r):FZ ml 56 [(0,rF (Zaa.c b))] [sM Zaf.c s,AV.fn 57 ((AV.ptr 0 0 0)::[])] (.bool r) [(0,rF (Zaa.c b))]:=by
 refine fG Tryz.func56 ?_
 unfold Zat at h
 (conv=>whnf);left;(conv=>whnf);exact cL h Zdt fun y_0 h=>qG [(0,0)]
theorem Zgo {s r} (h:Zb2 F s=some r):FZ ml 36 [] [.agg (Zaa.c s)] (.bool r) []:=by
 refine fA Tryz.func36 ?_
 unfold Zb2 at h
 (conv=>whnf);left;(conv=>whnf);refine jN h fun t49_2=>jM [(1,pp 0),(49,.bool t49_2)] [(0,rF (Zaa.c s))] 1 (fun h=>?_) fun h=>?_
 ·(conv=>whnf);left;refine bS h (fun h=>qE [(0,8)]) fun h=>?_;(conv=>whnf);refine bS h (fun h=>qE [(0,8)]) fun h=>?_;(conv=>whnf);refine bS h (fun h=>qE [(0,8)]) fun h=>?_;(conv=>whnf);refine bS h (fun h=>qE [(0,8)]) fun h=>?_;(conv=>whnf);refine bS h (fun h=>qE [(0,8)]) fun h=>?_;(conv=>whnf);left;(conv=>whnf);refine cL h Ze2 fun y_3 h=>?_;(conv=>whnf);refine bS h (fun h=>qE [(0,8)]) fun h=>?_;(conv=>whnf);left;(conv=>whnf);exact cL h Ze2 fun y_4 h=>qE [(0,8)]
 (conv=>whnf);left;refine bS h (fun h=>qR) fun h=>?_;(conv=>whnf);refine jN h fun t74_7=>jM [(1,pp 0),(74,.bool t74_7)] [(0,rF (Zaa.c s))] 1 (fun h=>?_) fun h=>?_
 ·(conv=>whnf);left;(conv=>whnf);left;(conv=>whnf);refine cL h Zjk fun y_8 h=>?_;(conv=>whnf);refine bS h (fun h=>qE [(0,0)]) fun h=>?_;(conv=>whnf);left;(conv=>whnf);exact cL h ZeA fun y_9 h=>qE [(0,0)]
 (conv=>whnf);left;refine bS h (fun h=>qR) fun h=>?_;(conv=>whnf);exact cG [0] h Zc6 fun y_10 h=>qR
theorem ZcZ {list r} (h:Zcr F list=some r):FZ ml 37 [] [sM Zaa.c list] (aI r) []:=by
 refine fA Tryz.func37 ?_
 unfold Zcr at h
 (conv=>whnf);refine jN h fun n_4=>jM [(3,aI n_4)] [] 0 (fun h=>?_) fun h=>?_
 ·(conv=>whnf);left;(conv=>whnf);refine lI (fun n' x'=>Zcz F list n' x'.1 x'.2) (fun x'=>[(3,aI x'.1),(6,sM Zaa.c list),(7,aI (@Nat.cast Int instNatCastInt (List.length (List.map Zaa.c list)))),(8,aI x'.2)]) (fun x'=>[]) 0 ((0:Int),(0:Int)) [] h ?_;rintro n_7 ⟨n_8,t8_9⟩ h;dsimp only at h;rw [Zcz.eq_2] at h;(conv=>whnf);left;refine bS h (fun h=>?_) fun h=>?_
  ·(conv=>whnf);refine jN h fun n_11=>jM [(3,aI n_11),(6,sM Zaa.c list),(7,aI (@Nat.cast Int instNatCastInt (List.length (List.map Zaa.c list)))),(8,aI t8_9)] [] 0 (fun h=>?_) fun h=>?_
   ·(conv=>whnf);left;(conv=>whnf);refine gX h fun h=>?_;(conv=>whnf);refine oB h fun y_12 h=>?_;exact qE []
   exact rE (n_7,n_11,(IntKind.wrap IntKind.i64 (t8_9+(1:Int)))) [] h
  exact qE []
 exact qR
theorem Zgp {list r} (h:Zc0 F list=some r):FZ ml 20 [] [sM Zaa.c list] (.bool r) []:=by
 refine fA Tryz.func20 ?_
 unfold Zc0 at h
 (conv=>whnf);refine jS h fun o4 v=>jT [(0,sM Zaa.c list)] [] 0 (fun h k4 e=>?_) fun h=>?_
 ·(conv=>whnf);left;(conv=>whnf);refine lI (fun n' x'=>Zce F list n' x') (fun x'=>[(0,sM Zaa.c list),(5,sM Zaa.c list),(6,aI (@Nat.cast Int instNatCastInt (List.length (List.map Zaa.c list)))),(7,aI x')]) (fun x'=>[]) 0 (0:Int) [] h ?_;rintro n_22 t7_23 h;rw [Zce.eq_2] at h;(conv=>whnf);left;refine bS h (fun h=>?_) fun h=>?_
  ·(conv=>whnf);left;(conv=>whnf);refine gX h fun h=>?_;(conv=>whnf);refine oB h fun y_28 h=>?_;(conv=>whnf);left;(conv=>whnf);refine jN h fun t29_31=>jM [(0,sM Zaa.c list),(5,sM Zaa.c list),(6,aI (@Nat.cast Int instNatCastInt (List.length (List.map Zaa.c list)))),(7,aI t7_23),(29,.bool t29_31)] [] 0 (fun h=>?_) fun h=>?_
   ·(conv=>whnf);left;(conv=>whnf);left;(conv=>whnf);refine cL h Zgo fun y_32 h=>?_;(conv=>whnf);refine bS h (fun h=>qE []) fun h=>?_;(conv=>whnf);refine bS h (fun h=>?_) fun h=>?_
    ·(conv=>whnf);refine gX h fun h=>?_;(conv=>whnf);refine oB h fun y_33 h=>?_;exact qE []
    exact qE []
   (conv=>whnf);left;refine bS h (fun h=>?_) fun h=>?_
   ·cases h;cases k4;exact rfl
   exact rE (n_22,(IntKind.wrap IntKind.i64 (t7_23+(1:Int)))) [] h
  exact qE []
 (conv=>whnf);left;refine bS h (fun h=>?_) fun h=>?_
 ·(conv=>whnf);left;(conv=>whnf);exact cL h ZcZ fun y_34 h=>qR
 exact qR
theorem ZfW {groups jobs seen r} (h:Zci F groups jobs seen=some r):FZ ml 7 [] [aI groups,sM Zaf.c jobs,sM Zac.c seen] (.tup [.agg [aI r.1,aI r.2.1,sM Zab.c r.2.2.1,aI r.2.2.2.1,aI r.2.2.2.2.1,aI r.2.2.2.2.2.1,aI r.2.2.2.2.2.2.1,aI r.2.2.2.2.2.2.2.1,aI r.2.2.2.2.2.2.2.2.1,aI r.2.2.2.2.2.2.2.2.2.1,.str r.2.2.2.2.2.2.2.2.2.2.1,.osw 0 1],.bool r.2.2.2.2.2.2.2.2.2.2.2.1]) [(0,rT (cSl Zaa.c) r.2.2.2.2.2.2.2.2.2.2.2.2)]:=by
 refine fG Tryz.func7 ?_
 unfold Zci at h
 (conv=>whnf);refine Or.inr (ZjC 11 1 _ rfl rfl ?_);(conv=>whnf);left;(conv=>whnf);refine cR h Zhs fun y_0 h=>?_;(conv=>whnf);left;(conv=>whnf);refine Or.inr (Zmd 11 1 _ rfl rfl ?_);(conv=>whnf);refine Or.inr (ZjC 11 1 _ rfl rfl ?_);(conv=>whnf);left;refine bS h (fun h=>?_) fun h=>?_
 ·cases h;exact gE [(0,96)]
 (conv=>whnf);refine jN h fun l_1=>jM [(1,sM Zaf.c jobs),(2,sM Zac.c seen),(6,pp 0),(10,pp 1)] [(0,rF [aI 0,aI 0,.esl,aI 0,aI 0,aI 0,aI 0,aI 0,aI 0,aI 0,.str [],.osw 2 1]),(1,rF [aI y_0.1.Groups,aI y_0.1.Last,sM Zab.c y_0.1.Spans,aI y_0.1.Plan.Kind,aI y_0.1.Plan.Phase,aI y_0.1.Plan.Shard,aI y_0.1.Plan.Other,aI y_0.1.Plan.Group,aI y_0.1.Plan.Past,aI y_0.1.Plan.Epoch,.str y_0.1.Plan.Key,.osw 3 1]),(2,rT (cSl Zaa.c) []),(3,rT (cSl Zaa.c) l_1)] 4 (fun h=>?_) fun h=>?_
 ·(conv=>whnf);left;(conv=>whnf);refine lI (fun n' x'=>ZbC F groups n' x'.1 x'.2) (fun x'=>[(0,aI groups),(1,sM Zaf.c jobs),(2,sM Zac.c seen),(6,pp 0),(10,pp 1),(11,aI x'.1)]) (fun x'=>[(0,rF [aI 0,aI 0,.esl,aI 0,aI 0,aI 0,aI 0,aI 0,aI 0,aI 0,.str [],.osw 2 1]),(1,rF [aI y_0.1.Groups,aI y_0.1.Last,sM Zab.c y_0.1.Spans,aI y_0.1.Plan.Kind,aI y_0.1.Plan.Phase,aI y_0.1.Plan.Shard,aI y_0.1.Plan.Other,aI y_0.1.Plan.Group,aI y_0.1.Plan.Past,aI y_0.1.Plan.Epoch,.str y_0.1.Plan.Key,.osw 3 1]),(2,rT (cSl Zaa.c) []),(3,rT (cSl Zaa.c) x'.2)]) 4 ((0:Int),[]) [(0,8),(1,104),(2,9),(3,96)] h ?_;rintro n_2 ⟨i_3,l_4⟩ h;dsimp only at h;rw [ZbC.eq_2] at h;(conv=>whnf);left;refine bS h (fun h=>?_) fun h=>?_
  ·(conv=>whnf);left;(conv=>whnf);left;(conv=>whnf);refine aX ?_;(conv=>whnf);refine aX ?_;(conv=>whnf);refine gS h fun h=>?_;(conv=>whnf);left;(conv=>whnf);exact ZpR (n_2,(IntKind.wrap IntKind.i64 (i_3+(1:Int))),(l_4++([]::[]))) [(0,0),(1,1),(2,2),(3,52)] h (Nat.lt_succ_self _) (WkL.cons (Wk.eq rfl) (WkL.cons (Wk.eq rfl) (WkL.cons (Wk.eq rfl) (WkL.cons (Wk.eq rfl) (WkL.cons (Wk.eq rfl) (WkL.cons (Wk.eq rfl) WkL.nil)))))) (WkOs.cons (WkO.eq (Option.some.inj rfl)) (WkOs.cons (WkO.eq (Option.some.inj rfl)) (WkOs.cons (WkO.eq (Option.some.inj rfl)) (WkOs.cons (WkO.r ((List.map_append (f:=_))▸WkR.append (WkR.of_eq rQ) (WkR.cons (WkL.cons Wk.esl WkL.nil) (WkR.of_eq rQ)))) WkOs.nil)))) rfl
  exact qE [(0,0),(1,1),(2,2),(3,3)]
 (conv=>whnf);left;(conv=>whnf);left;(conv=>whnf);refine aX ?_;(conv=>whnf);refine oB h fun y_5 h=>?_;(conv=>whnf);refine Or.inr ?_;(conv=>whnf);refine oB h fun y_6 h=>?_;(conv=>whnf);refine aX ?_;(conv=>whnf);refine oB (c:=cSl Zaa.c) h fun y_7 h=>?_;(conv=>whnf);refine oB (c:=cSl Zaa.c) h fun y_8 h=>?_;(conv=>whnf);left;(conv=>whnf);refine cL h Zgp fun y_9 h=>?_;(conv=>whnf);refine aX ?_;cases h;exact gE [(0,3)]
theorem Zgz {a r} (h:Zb5 F a=some r):FZ ml 21 [] [.agg (Zag.c a)] (.tup [.agg (Zag.c r.1),aI r.2]) []:=by
 refine fK Tryz.func21 ?_
 unfold Zb5 at h
 (conv=>whnf);left;(conv=>whnf);left;(conv=>whnf);left;(conv=>whnf);refine cL h ZdM fun y_0 h=>?_;(conv=>whnf);left;refine bS h (fun h=>qK) fun h=>?_;(conv=>whnf);left;(conv=>whnf);refine cR h ZeV fun y_1 h=>?_;(conv=>whnf);refine jN h fun t19_2=>jM [(1,pp 0),(2,pp 1),(19,.bool t19_2)] [(0,rF [aI y_1.1,aI y_1.2.1,.osw 2 5,aI y_1.2.2.1,aI y_1.2.2.2.1,aI y_1.2.2.2.2.1,aI y_1.2.2.2.2.2.1,aI y_1.2.2.2.2.2.2.1,aI y_1.2.2.2.2.2.2.2.1,aI y_1.2.2.2.2.2.2.2.2.1,.str y_1.2.2.2.2.2.2.2.2.2.1]),(1,rF zr1),(2,rT Zab.c y_1.2.2.2.2.2.2.2.2.2.2)] 3 (fun h=>qE [(0,8),(1,16),(2,64)]) fun h=>?_;(conv=>whnf);left;refine bS h (fun h=>qK) fun h=>?_;(conv=>whnf);left;(conv=>whnf);refine cL h Zdb fun y_3 h=>?_;(conv=>whnf);refine gX h fun h=>?_;(conv=>whnf);refine oB h fun y_4 h=>?_;(conv=>whnf);refine oB h fun y_5 h=>?_;(conv=>whnf);refine gX h fun h=>?_;(conv=>whnf);refine oB h fun y_6 h=>?_;(conv=>whnf);refine oB h fun y_7 h=>?_;exact qK
theorem Zb3 {s r} (h:ZbS F s=some r):FZ ml 49 [] [.agg (Zaa.c s)] (.agg [aI r.1,aI r.2.1,aI r.2.2.1,.str r.2.2.2.1,.str r.2.2.2.2.1,sM Zaf.c r.2.2.2.2.2.1,.osw 0 5]) [(0,rT Zac.c r.2.2.2.2.2.2)]:=by
 refine fG Tryz.func49 ?_
 unfold ZbS at h
 (conv=>whnf);left;(conv=>whnf);left;(conv=>whnf);left;(conv=>whnf);refine cR h (fun h=>Zba (Zak h) rfl) fun y_0 h=>?_;(conv=>whnf);left;(conv=>whnf);refine cR h Zbh fun y_1 h=>?_;(conv=>whnf);left;(conv=>whnf);refine aX ?_;(conv=>whnf);refine jN h fun l_22=>jM [(1,pp 0),(2,pp 1)] [(0,rF [aI s.Id,aI s.Epoch,aI s.State,.str s.From,.str s.To,sM Zaf.c y_0,.osw 2 5]),(1,rF zr3),(2,rT Zac.c l_22)] 3 (fun h=>?_) fun h=>?_
 ·(conv=>whnf);left;(conv=>whnf);refine lI (fun n' x'=>ZbY F y_1 n' x'.1 x'.2) (fun x'=>[(1,pp 0),(2,pp 1),(14,aI (@Nat.cast Int instNatCastInt (List.length (List.map Zac.c y_1)))),(15,aI x'.1)]) (fun x'=>[(0,rF [aI s.Id,aI s.Epoch,aI s.State,.str s.From,.str s.To,sM Zaf.c y_0,.osw 2 5]),(1,rF zr3),(2,rT Zac.c x'.2)]) 3 ((0:Int),y_1) [(0,8),(1,16),(2,64)] h ?_;rintro n_33 ⟨t15_34,l_35⟩ h;dsimp only at h;rw [ZbY.eq_2] at h;(conv=>whnf);left;refine bS h (fun h=>?_) fun h=>?_
  ·(conv=>whnf);left;(conv=>whnf);refine gX h fun h=>?_;(conv=>whnf);refine oB h fun y_41 h=>?_;(conv=>whnf);refine oB h fun y_42 h=>?_;(conv=>whnf);left;(conv=>whnf);refine cR h (fun h=>Zba (Zak h) rfl) fun y_43 h=>?_;(conv=>whnf);refine gX h fun h=>?_;(conv=>whnf);refine oB h fun y_44 h=>?_;(conv=>whnf);refine oB h fun y_45 h=>?_;(conv=>whnf);refine aX ?_;exact rE (n_33,(IntKind.wrap IntKind.i64 (t15_34+(1:Int))),(List.set l_35 (Int.toNat t15_34) (Zac.mk y_45.Client y_45.Seq (Zam.mk y_45.Result.Err y_45.Result.Time y_43)))) [(0,0),(1,1),(2,2)] h
  exact qE [(0,0),(1,1),(2,2)]
 exact qG [(0,2)]
theorem Zhz {r} (h:Ze1 F=some r):FZ ml 50 [] [] (AV.mapo 0) [(0,.mapo true [(aI r.1,AV.fn 62 []),(aI r.2.1,AV.fn 63 []),(aI r.2.2.1,AV.fn 64 []),(aI r.2.2.2.1,AV.fn 65 []),(aI r.2.2.2.2.1,AV.fn 66 []),(aI r.2.2.2.2.2.1,AV.fn 67 []),(aI r.2.2.2.2.2.2.1,AV.fn 68 []),(aI r.2.2.2.2.2.2.2,AV.fn 69 [])])]:=by
 refine fG Tryz.func50 ?_
 unfold Ze1 at h
 exact qG [(0,16)]
theorem Zfo {x r} (h:ZdL F x=some r):FZ ml 125 [] [aI x] (.bool r) []:=by
 refine fA Tryz.func125 ?_
 unfold ZdL at h
 exact qR
theorem ZeQ {x y r} (h:Zct F x y=some r):FZ ml 100 [] [aI x,aI y] (aI r) []:=by
 refine fA Tryz.func100 ?_
 unfold Zct at h
 (conv=>whnf);left;(conv=>whnf);refine cL h Zfo fun y_0 h=>?_;(conv=>whnf);left;(conv=>whnf);exact cL h Zfo fun y_1 h=>qR
theorem ZdW {s id r} (h:ZbN F s id=some r):FZ ml 99 [] [.agg (Zaa.c s),aI id] (aI r) []:=by
 refine fA Tryz.func99 ?_
 unfold ZbN at h
 (conv=>whnf);left;(conv=>whnf);left;(conv=>whnf);exact cL h ZeQ fun y_0 h=>qR
theorem Zca {x target r} (h:ZaS F x target=some r):FZ ml 98 [] [sM Zaa.c x,aI target,AV.fn 99 []] (.tup [aI r.1,.bool r.2]) []:=by
 refine fA Tryz.func98 ?_
 unfold ZaS at h
 (conv=>whnf);refine jN h fun i_4=>jM [(0,sM Zaa.c x),(1,aI target),(2,AV.fn 99 []),(8,aI (@Nat.cast Int instNatCastInt (List.length (List.map Zaa.c x)))),(9,aI i_4)] [] 0 (fun h=>?_) fun h=>?_
 ·(conv=>whnf);left;(conv=>whnf);refine lI (fun n' x'=>Zaj F x target n' x'.1 x'.2) (fun x'=>[(0,sM Zaa.c x),(1,aI target),(2,AV.fn 99 []),(8,aI (@Nat.cast Int instNatCastInt (List.length (List.map Zaa.c x)))),(9,aI x'.1),(10,aI x'.2)]) (fun x'=>[]) 0 ((0:Int),(@Nat.cast Int instNatCastInt (List.length (List.map Zaa.c x)))) [] h ?_;rintro n_7 ⟨i_8,j_9⟩ h;dsimp only at h;rw [Zaj.eq_2] at h;(conv=>whnf);left;refine bS h (fun h=>?_) fun h=>?_
  ·(conv=>whnf);left;(conv=>whnf);refine aX ?_;(conv=>whnf);refine gX h fun h=>?_;(conv=>whnf);refine oB h fun y_10 h=>?_;(conv=>whnf);left;(conv=>whnf);refine cL h ZdW fun y_11 h=>?_;(conv=>whnf);left;refine bS h (fun h=>?_) fun h=>?_
   ·exact rE (n_7,(IntKind.wrap IntKind.i64 ((IntKind.wrap IntKind.i64 (@Int.fdiv (IntKind.wrap IntKind.u64 (IntKind.wrap IntKind.i64 (i_8+j_9))) ((2:Int) ^ (min (Int.toNat (1:Int)) 64))))+(1:Int))),j_9) [] h
   exact rE (n_7,i_8,(IntKind.wrap IntKind.i64 (@Int.fdiv (IntKind.wrap IntKind.u64 (IntKind.wrap IntKind.i64 (i_8+j_9))) ((2:Int) ^ (min (Int.toNat (1:Int)) 64))))) [] h
  exact qE []
 (conv=>whnf);left;refine bS h (fun h=>?_) fun h=>?_
 ·(conv=>whnf);refine gX h fun h=>?_;(conv=>whnf);refine oB h fun y_12 h=>?_;(conv=>whnf);left;(conv=>whnf);exact cL h ZdW fun y_13 h=>qR
 exact qR
theorem Za7 {id l r} (h:ZaR F id l=some r):FZ ml 82 [(0,rF [.osw 1 7]),(1,rT Zaa.c l)] [pp 0,aI id] (.tup [aI r.1,.bool r.2]) [(0,rF [.osw 1 7]),(1,rT Zaa.c l)]:=by
 refine fG Tryz.func82 ?_
 unfold ZaR at h
 (conv=>whnf);left;(conv=>whnf);exact cL h Zca fun y_0 h=>qG [(0,0),(1,1)]
theorem Za2 {id l r} (h:Zao F id l=some (Sum.inl r)):FZ ml 80 [(0,rF [.osw 1 7]),(1,rT Zaa.c l)] [pp 0,aI id] (AV.con (Value.pointer none)) [(0,rF [.osw 1 7]),(1,rT Zaa.c l)]:=by
 refine fG Tryz.func80 ?_
 unfold Zao at h
 (conv=>whnf);refine cG [0,1] h Za7 fun y_0 h=>?_;(conv=>whnf);refine jN h fun t25_3=>jM [(0,pp 0),(5,aI y_0.1),(25,.bool t25_3)] [(0,rF [.osw 1 7]),(1,rT Zaa.c l)] 2 (fun h=>?_) fun h=>?_
 ·(conv=>whnf);left;refine bS h (fun h=>qE [(0,0),(1,1)]) fun h=>?_;(conv=>whnf);refine gX h fun h=>?_;(conv=>whnf);refine oB h fun y_4 h=>?_;(conv=>whnf);refine oB h fun y_5 h=>?_;exact qE [(0,0),(1,1)]
 (conv=>whnf);left;refine bS h (fun h=>qG [(0,0),(1,1)]) fun h=>?_;(conv=>whnf);refine gX h fun h=>?_;(conv=>whnf);refine oB h fun y_6 h=>?_;cases h
theorem Za1 {id l r} (h:Zao F id l=some (Sum.inr r)):FZ ml 80 [(0,rF [.osw 1 7]),(1,rT Zaa.c l)] [pp 0,aI id] (AV.ptr 1 r 0) [(0,rF [.osw 1 7]),(1,rT Zaa.c l)]:=by
 refine fG Tryz.func80 ?_
 unfold Zao at h
 (conv=>whnf);refine cG [0,1] h Za7 fun y_0 h=>?_;(conv=>whnf);refine jN h fun t25_3=>jM [(0,pp 0),(5,aI y_0.1),(25,.bool t25_3)] [(0,rF [.osw 1 7]),(1,rT Zaa.c l)] 2 (fun h=>?_) fun h=>?_
 ·(conv=>whnf);left;refine bS h (fun h=>qE [(0,0),(1,1)]) fun h=>?_;(conv=>whnf);refine gX h fun h=>?_;(conv=>whnf);refine oB h fun y_4 h=>?_;(conv=>whnf);refine oB h fun y_5 h=>?_;exact qE [(0,0),(1,1)]
 (conv=>whnf);left;refine bS h (fun h=>?_) fun h=>?_
 ·cases h
 (conv=>whnf);refine gX h fun h=>?_;(conv=>whnf);refine oB h fun y_6 h=>?_;exact qG [(0,0),(1,1)]
theorem ZaF {id epoch l r} (h:Zan F id epoch l=some (Sum.inl r)):FZ ml 75 [(0,rF [.osw 1 7]),(1,rT Zaa.c l)] [pp 0,aI id,aI epoch] (.tup [AV.con (Value.pointer none),aI r]) [(0,rF [.osw 1 7]),(1,rT Zaa.c l)]:=by
 refine fG Tryz.func75 ?_
 unfold Zan at h
 obtain ⟨y_0,hy,h⟩:=ZbE h;rcases y_0 with y_0 | y_0
 ·replace h:=Zc9 h;(conv=>whnf);refine cg [0,1] (Za2 hy) ?_;exact qG [(0,0),(1,1)]
 replace h:=Zc8 h;(conv=>whnf);refine cg [0,1] (Za1 hy) ?_;(conv=>whnf);left;(conv=>whnf);left;(conv=>whnf);refine oB h fun y_2 h=>?_;exact qG [(0,0),(1,1)]
theorem ZaE {id epoch l r} (h:Zan F id epoch l=some (Sum.inr r)):FZ ml 75 [(0,rF [.osw 1 7]),(1,rT Zaa.c l)] [pp 0,aI id,aI epoch] (.tup [AV.ptr 1 r.1 0,aI r.2]) [(0,rF [.osw 1 7]),(1,rT Zaa.c l)]:=by
 refine fG Tryz.func75 ?_
 unfold Zan at h
 obtain ⟨y_0,hy,h⟩:=ZbE h;rcases y_0 with y_0 | y_0
 ·replace h:=Zc9 h;(conv=>whnf);refine cg [0,1] (Za2 hy) ?_;(conv=>whnf);left;(conv=>whnf);left;cases h
 replace h:=Zc8 h;(conv=>whnf);refine cg [0,1] (Za1 hy) ?_;(conv=>whnf);left;(conv=>whnf);left;(conv=>whnf);refine oB h fun y_2 h=>?_;(conv=>whnf);left;refine bS h (fun h=>?_) fun h=>?_
 ·cases h
 exact qG [(0,0),(1,1)]
theorem Zad {e r} (h:Zah F e=some r):FZ ml 76 [] [aI e] (.tup [.agg (Zam.c r.1),.agg (Zaa.c r.2)]) []:=by
 refine fK Tryz.func76 ?_
 unfold Zah at h
 exact qK
theorem Zfb {o_ l r} (h:ZaY F o_ l=some r):FZ ml 63 [(0,rF [.osw 1 7]),(1,rT Zaa.c l)] [pp 0,.agg (Zae.c o_)] (.tup [.agg (Zam.c r.1),.agg (Zaa.c r.2.1)]) [(0,rF [.osw 1 7]),(1,rT Zaa.c r.2.2)]:=by
 refine fG Tryz.func63 ?_
 unfold ZaY at h
 (conv=>whnf);left;(conv=>whnf);left;(conv=>whnf);left;obtain ⟨y_0,hy,h⟩:=ZbE h;rcases y_0 with y_0 | y_0
 ·replace h:=Zc9 h;(conv=>whnf);refine cg [0,1] (ZaF hy) ?_;(conv=>whnf);left;refine bF h fun h=>?_;(conv=>whnf);left;(conv=>whnf);exact cR h Zad fun y_1 h=>qG [(0,0),(1,1)]
 replace h:=Zc8 h;(conv=>whnf);refine cg [0,1] (ZaE hy) ?_;(conv=>whnf);left;refine bS h (fun h=>?_) fun h=>?_
 ·(conv=>whnf);left;(conv=>whnf);exact cR h Zad fun y_2 h=>qG [(0,0),(1,1)]
 (conv=>whnf);refine oB h fun y_3 h=>?_;(conv=>whnf);left;refine bS h (fun h=>?_) fun h=>?_
 ·(conv=>whnf);left;(conv=>whnf);exact cR h Zad fun y_4 h=>qG [(0,0),(1,1)]
 (conv=>whnf);refine oB h fun y_5 h=>?_;(conv=>whnf);left;(conv=>whnf);refine oB (c:=Zaa.c) h fun y_6 h=>?_;(conv=>whnf);left;(conv=>whnf);refine cR h (fun h=>Zba (Zb3 h) rfl) fun y_7 h=>?_;cases h;exact gW [(0,0),(1,1)]
theorem Zcy {now next r} (h:Zcg F now next=some r):FZ ml 81 [] [aI now,aI next] (.bool r) []:=by
 refine fA Tryz.func81 ?_
 unfold Zcg at h
 exact qR
theorem ZfH {o_ l r} (h:Zbn F o_ l=some r):FZ ml 64 [(0,rF [.osw 1 7]),(1,rT Zaa.c l)] [pp 0,.agg (Zae.c o_)] (.tup [.agg (Zam.c r.1),.agg (Zaa.c r.2.1)]) [(0,rF [.osw 1 7]),(1,rT Zaa.c r.2.2)]:=by
 refine fG Tryz.func64 ?_
 unfold Zbn at h
 (conv=>whnf);left;(conv=>whnf);left;(conv=>whnf);left;obtain ⟨y_0,hy,h⟩:=ZbE h;rcases y_0 with y_0 | y_0
 ·replace h:=Zc9 h;(conv=>whnf);refine cg [0,1] (Za2 hy) ?_;(conv=>whnf);left;(conv=>whnf);refine aX ?_;(conv=>whnf);left;obtain ⟨y_1,hy,h⟩:=ZbE h;rcases y_1 with y_1 | y_1
  ·replace h:=Zc9 h;(conv=>whnf);refine cg [0,1] (ZaF hy) ?_;(conv=>whnf);left;(conv=>whnf);left;refine bF h fun h=>?_;(conv=>whnf);left;(conv=>whnf);exact cR h Zad fun y_3 h=>qG [(0,0),(1,1)]
  replace h:=Zc8 h;(conv=>whnf);refine cg [0,1] (ZaE hy) ?_;(conv=>whnf);left;(conv=>whnf);left;refine bS h (fun h=>?_) fun h=>?_
  ·(conv=>whnf);left;(conv=>whnf);exact cR h Zad fun y_10 h=>qG [(0,0),(1,1)]
  (conv=>whnf);refine oB h fun y_11 h=>?_;(conv=>whnf);left;refine bS h (fun h=>?_) fun h=>?_
  ·(conv=>whnf);left;(conv=>whnf);exact cR h Zad fun y_12 h=>qG [(0,0),(1,1)]
  (conv=>whnf);refine oB h fun y_13 h=>?_;(conv=>whnf);left;(conv=>whnf);refine cL h Zcy fun y_14 h=>?_;(conv=>whnf);refine aX ?_;(conv=>whnf);left;refine bS h (fun h=>?_) fun h=>?_
  ·(conv=>whnf);left;(conv=>whnf);exact cR h Zad fun y_15 h=>qG [(0,0),(1,1)]
  (conv=>whnf);refine oB h fun y_16 h=>?_;(conv=>whnf);refine oB (c:=Zaa.c) h fun y_17 h=>?_;(conv=>whnf);refine aX ?_;(conv=>whnf);left;(conv=>whnf);refine cR h Zad fun y_18 h=>?_;cases h;exact gE [(0,0),(1,1)]
 replace h:=Zc8 h;(conv=>whnf);refine cg [0,1] (Za1 hy) ?_;(conv=>whnf);refine jN h fun t30_21=>jM [(0,pp 0),(3,pp 2),(4,pp 3),(5,pp 4),(30,.bool t30_21)] [(0,rF [.osw 1 7]),(1,rT Zaa.c l),(2,rF (Zae.c o_)),(3,rF [aI 0,aI 0,.esl]),(4,rF zr3)] 5 (fun h=>?_) fun h=>?_
 ·(conv=>whnf);left;(conv=>whnf);refine oB h fun y_22 h=>?_;(conv=>whnf);refine bS h (fun h=>?_) fun h=>?_
  ·(conv=>whnf);refine oB h fun y_23 h=>?_;exact qE [(0,0),(1,1),(2,8),(3,16),(4,24)]
  exact qE [(0,0),(1,1),(2,8),(3,16),(4,24)]
 (conv=>whnf);left;refine bS h (fun h=>?_) fun h=>?_
 ·(conv=>whnf);left;(conv=>whnf);exact cR h Zad fun y_24 h=>qG [(0,0),(1,1)]
 obtain ⟨y_25,hy,h⟩:=ZbE h;rcases y_25 with y_25 | y_25
 ·replace h:=Zc9 h;(conv=>whnf);refine cg [0,1] (ZaF hy) ?_;(conv=>whnf);left;(conv=>whnf);left;refine bF h fun h=>?_;(conv=>whnf);left;(conv=>whnf);exact cR h Zad fun y_27 h=>qG [(0,0),(1,1)]
 replace h:=Zc8 h;(conv=>whnf);refine cg [0,1] (ZaE hy) ?_;(conv=>whnf);left;(conv=>whnf);left;refine bS h (fun h=>?_) fun h=>?_
 ·(conv=>whnf);left;(conv=>whnf);exact cR h Zad fun y_34 h=>qG [(0,0),(1,1)]
 (conv=>whnf);refine oB h fun y_35 h=>?_;(conv=>whnf);left;refine bS h (fun h=>?_) fun h=>?_
 ·(conv=>whnf);left;(conv=>whnf);exact cR h Zad fun y_36 h=>qG [(0,0),(1,1)]
 (conv=>whnf);refine oB h fun y_37 h=>?_;(conv=>whnf);left;(conv=>whnf);refine cL h Zcy fun y_38 h=>?_;(conv=>whnf);refine aX ?_;(conv=>whnf);left;refine bS h (fun h=>?_) fun h=>?_
 ·(conv=>whnf);left;(conv=>whnf);exact cR h Zad fun y_39 h=>qG [(0,0),(1,1)]
 (conv=>whnf);refine oB h fun y_40 h=>?_;(conv=>whnf);refine oB (c:=Zaa.c) h fun y_41 h=>?_;(conv=>whnf);refine aX ?_;(conv=>whnf);left;(conv=>whnf);refine cR h Zad fun y_42 h=>?_;cases h;exact gE [(0,0),(1,1)]
theorem ZaB {i l l_2 r} (h:Zaq F i l l_2=some r):FZ ml 83 [(0,(AO.rows true (List.map Zaa.c l))),(1,(AO.rows true (List.map Zaa.c l_2)))] [(AV.osw 0 7),aI i,(AV.osw 1 7)] (AV.osw 2 7) [(2,(AO.rows true (List.map Zaa.c r)))]:=by
 unfold Zaq at h
 cases l_2 with
 | nil=>cases h
 | cons x rr =>
  cases rr with
  | cons _ _=>cases h
  | nil =>
   obtain ⟨hg,h⟩:=grd_e h
   cases h
   have hF:=Ziw (G:=GM ml) (s:=List.map Zaa.c l) (p:=true) (q:=true) (row:=Zaa.c x) (i:=Int.toNat i) ZnO (by decide) (fun r hr=>by obtain ⟨y,_,rfl⟩:=List.mem_map.1 hr;rfl) (by simpa using hg.2.1) (by simpa using hg.2.2) rfl
   rw [Int.toNat_of_nonneg hg.1] at hF
   have e:List.map Zaa.c (List.take (Int.toNat i) l++x::List.drop (Int.toNat i) l)=List.take (Int.toNat i) (List.map Zaa.c l)++Zaa.c x::List.drop (Int.toNat i) (List.map Zaa.c l):=by rw [List.map_append,List.map_cons,List.map_take,List.map_drop]
   rw [e]
   exact hF
end Go.T
