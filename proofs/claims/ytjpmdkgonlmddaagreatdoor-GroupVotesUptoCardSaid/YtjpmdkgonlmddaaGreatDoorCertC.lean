import Derived.Test.YtjpmdkgonlmddaaGreatDoorCertB
set_option linter.unusedVariables false
set_option maxRecDepth 200000
set_option maxHeartbeats 4000000
namespace Go.T
open Go Go.Ab Go.Proofs
variable {ml:Gv}{F:Nat}
theorem M1{id c e rf b d gs gk f tb l g i j n k m fs o r}(h:Ee F id c e rf b d gs gk f tb l g i j n k m fs o=some r):FZ ml 42 (Ni c e rf false b d gs gk f tb l g i j n k m fs o) [pp 0,aI id,pp 1] (aI r.1) (Nh c e r.2 f tb l g i j k m):=by
 refine fG Tryz.func42 ?_
 unfold Ee at h
 obtain⟨a,hy,h⟩:=dS h;rcases a with a|a
 ·replace h:=jH h;(conv=>whnf);refine cg [9,12,13] (Mz hy) ?_;(conv=>whnf);left;(conv=>whnf);refine aX ?_;(conv=>whnf);left;refine bS h (fun h=>?_) fun h=>?_
  ·(conv=>whnf);obtain⟨hg,h⟩:=cQ h;cases h;refine gF 2 1 gs gk (@Sum.inl ae af (ae.mk a.2.2.2.1 a.2.2.2.2 a.2.2.1 rf b d)) [1,9,12,355] ?_;exact gI (ii 14 [])
  (conv=>whnf);refine aX ?_;(conv=>whnf);left;(conv=>whnf);refine cL h wL fun q h=>?_;cases h
 replace h:=jI h;rcases a with a|a
 ·replace h:=jH h;(conv=>whnf);refine cg [9,12,13] (MA hy) ?_;(conv=>whnf);left;(conv=>whnf);refine aX ?_;(conv=>whnf);left;refine bS h (fun h=>?_) fun h=>?_
  ·(conv=>whnf);obtain⟨hg,h⟩:=cQ h;cases h;refine gF 2 1 gs gk (@Sum.inl ae af (ae.mk a.2.2.2.1 a.2.2.2.2.2 a.2.2.1 rf b d)) [1,9,12,356] ?_;exact gI (ii 14 [])
  (conv=>whnf);refine aX ?_;(conv=>whnf);left;(conv=>whnf);refine cL h wL fun s h=>?_;cases h
 replace h:=jI h;(conv=>whnf);refine cg [9,12,13] (MC hy) ?_;(conv=>whnf);left;(conv=>whnf);refine aX ?_;(conv=>whnf);left;refine bS h (fun h=>?_) fun h=>?_
 ·(conv=>whnf);obtain⟨hg,h⟩:=cQ h;cases h;refine gF 2 1 gs gk (@Sum.inl ae af (ae.mk a.2.2.2.1 a.2.2.2.2.2.1 a.2.2.1 rf b d)) [1,9,12,356] ?_;exact gI (ii 14 [])
 (conv=>whnf);refine aX ?_;(conv=>whnf);left;(conv=>whnf);refine cL h wL fun p h=>?_;(conv=>whnf);obtain⟨hg,h⟩:=cQ h;cases h;refine gF 2 1 gs gk (@Sum.inr ae af (af.mk a.2.2.2.1 a.2.2.2.2.2.1 a.2.2.1 a.2.2.2.2.2.2.1 a.2.2.2.2.2.2.2.1 a.2.2.2.2.2.2.2.2 a.2.2.2.2.1 a.1 p.1 p.2)) [1,9,12,356,355,357] ?_;exact gI (ii 14 [])
theorem DZ{b r}(h:rK F b=some (Sum.inl r)):FZ ml 15 [] [sM cJ b] (.bN [AV.ei (Value.pointer none),aI r]) []:=by
 refine fG Tryz.func15 ?_
 unfold rK at h
 (conv=>whnf);left;(conv=>whnf);refine cL h BA fun n h=>?_;(conv=>whnf);left;refine bS h (fun h=>qG []) fun h=>?_;(conv=>whnf);left;(conv=>whnf);refine cR h (fun h=>eT (wY h) rfl) fun c h=>?_;(conv=>whnf);refine Or.inr ?_;(conv=>whnf);refine⟨Or.inr ?_⟩;(conv=>whnf);left;(conv=>whnf);refine cR h Mm fun a h=>?_;(conv=>whnf);left;(conv=>whnf);refine cR h LR fun d h=>?_;(conv=>whnf);left;(conv=>whnf);left;(conv=>whnf);refine Or.inr (A5 4 2 _ rfl rfl ?_);(conv=>whnf);refine Or.inr (JR 7 2 _ rfl rfl ?_);(conv=>whnf);refine jN h fun e=>jM [(4,pp 0)] (T0 c false e a.1 d [] ((0:Int)::[]) ((0:Int)::[]) [] a.2.1 a.2.2) 10 (fun h=>?_) fun h=>?_
 ·(conv=>whnf);left;(conv=>whnf);refine lI (fun n' x'=>tj F b c a d n' x'.1 x'.2) (fun x'=>[(4,pp 0),(20,sM cJ b),(21,aI (@Nat.cast Int instNatCastInt (List.length (List.map cJ b)))),(22,aI x'.1)]) (fun x'=>(T0 c false x'.2 a.1 d [] ((0:Int)::[]) ((0:Int)::[]) [] a.2.1 a.2.2)) 10 ((0:Int),[]) [(0,448),(1,256),(2,288),(3,320),(4,416),(5,352),(6,384),(7,449),(8,289),(9,290)] h ?_;rintro f ⟨i,j⟩ h;dsimp only at h;rw[tj.eq_2]at h;(conv=>whnf);left;refine bS h (fun h=>?_) fun h=>?_
  ·(conv=>whnf);left;(conv=>whnf);refine gX h fun h=>?_;(conv=>whnf);refine oB h fun k h=>?_;(conv=>whnf);left;(conv=>whnf);refine cR h Mk fun o h=>?_;(conv=>whnf);left;(conv=>whnf);left;(conv=>whnf);refine aX ?_;(conv=>whnf);obtain⟨hg,h⟩:=cQ h;refine JC (ek:=(fun(l:Int)=>(AV.int IntKind.i64 l))) (gN:=aa.g) j k (Sum.inl default) 202 rfl rfl (jK Tryz.underlying3) hg rfl ?_;obtain⟨m,hy,h⟩:=dS h;refine cW [0,202,1,2,3,4,5,6,7,138,8,9,139,140] (M1 hy) ?_;exact rE (f,(IntKind.wrap IntKind.i64 (i+(1:Int))),m.2) (ii 10 []) h
  exact qE (ii 10 [])
 cases h
theorem D1{b r}(h:rK F b=some (Sum.inr r)):FZ ml 15 [] [sM cJ b] (.bN [pp 0,aI r.1]) (T0 r.2.1 r.2.2.1 r.2.2.2.1 r.2.2.2.2.1 r.2.2.2.2.2.1 r.2.2.2.2.2.2.1 r.2.2.2.2.2.2.2.1 r.2.2.2.2.2.2.2.2.1 r.2.2.2.2.2.2.2.2.2.1 r.2.2.2.2.2.2.2.2.2.2.1 r.2.2.2.2.2.2.2.2.2.2.2):=by
 refine fG Tryz.func15 ?_
 unfold rK at h
 (conv=>whnf);left;(conv=>whnf);refine cL h BA fun n h=>?_;(conv=>whnf);left;refine bS h (fun h=>?_) fun h=>?_
 ·cases h
 (conv=>whnf);left;(conv=>whnf);refine cR h (fun h=>eT (wY h) rfl) fun c h=>?_;(conv=>whnf);refine Or.inr ?_;(conv=>whnf);refine⟨Or.inr ?_⟩;(conv=>whnf);left;(conv=>whnf);refine cR h Mm fun a h=>?_;(conv=>whnf);left;(conv=>whnf);refine cR h LR fun d h=>?_;(conv=>whnf);left;(conv=>whnf);left;(conv=>whnf);refine Or.inr (A5 4 2 _ rfl rfl ?_);(conv=>whnf);refine Or.inr (JR 7 2 _ rfl rfl ?_);(conv=>whnf);refine jN h fun e=>jM [(4,pp 0)] (T0 c false e a.1 d [] ((0:Int)::[]) ((0:Int)::[]) [] a.2.1 a.2.2) 10 (fun h=>?_) fun h=>?_
 ·(conv=>whnf);left;(conv=>whnf);refine lI (fun n' x'=>tj F b c a d n' x'.1 x'.2) (fun x'=>[(4,pp 0),(20,sM cJ b),(21,aI (@Nat.cast Int instNatCastInt (List.length (List.map cJ b)))),(22,aI x'.1)]) (fun x'=>(T0 c false x'.2 a.1 d [] ((0:Int)::[]) ((0:Int)::[]) [] a.2.1 a.2.2)) 10 ((0:Int),[]) [(0,448),(1,256),(2,288),(3,320),(4,416),(5,352),(6,384),(7,449),(8,289),(9,290)] h ?_;rintro f ⟨i,j⟩ h;dsimp only at h;rw[tj.eq_2]at h;(conv=>whnf);left;refine bS h (fun h=>?_) fun h=>?_
  ·(conv=>whnf);left;(conv=>whnf);refine gX h fun h=>?_;(conv=>whnf);refine oB h fun k h=>?_;(conv=>whnf);left;(conv=>whnf);refine cR h Mk fun o h=>?_;(conv=>whnf);left;(conv=>whnf);left;(conv=>whnf);refine aX ?_;(conv=>whnf);obtain⟨hg,h⟩:=cQ h;refine JC (ek:=(fun(l:Int)=>(AV.int IntKind.i64 l))) (gN:=aa.g) j k (Sum.inl default) 202 rfl rfl (jK Tryz.underlying3) hg rfl ?_;obtain⟨m,hy,h⟩:=dS h;refine cW [0,202,1,2,3,4,5,6,7,138,8,9,139,140] (M1 hy) ?_;exact rE (f,(IntKind.wrap IntKind.i64 (i+(1:Int))),m.2) (ii 10 []) h
  exact qE (ii 10 [])
 exact qG (ii 10 [])
theorem U1{r}(h:DK F=some r):FZ ml 43 [] [] (AV.aw 0) [(0,.aw true [(aI r.1,AV.fn 54 []),(aI r.2.1,AV.fn 55 []),(aI r.2.2.1,AV.fn 56 []),(aI r.2.2.2.1,AV.fn 57 []),(aI r.2.2.2.2.1,AV.fn 58 []),(aI r.2.2.2.2.2.1,AV.fn 59 []),(aI r.2.2.2.2.2.2.1,AV.fn 60 []),(aI r.2.2.2.2.2.2.2.1,AV.fn 61 []),(aI r.2.2.2.2.2.2.2.2.1,AV.fn 62 []),(aI r.2.2.2.2.2.2.2.2.2,AV.fn 63 [])])]:=by
 refine fG Tryz.func43 ?_
 unfold DK at h;exact qG [(0,64)]
theorem B2{id c b gs d tb l e f i j m r}(h:pF F id c b gs d tb l e f i j m=some (Sum.inl r)):FZ ml 70 (T0 c b gs d tb l e f i j m) [pp 0,aI id] (.bN [AV.ei (Value.pointer none),aI r.1]) (T0 c b r.2 d tb l e f i j m):=by
 refine fG Tryz.func70 ?_
 unfold pF at h
 (conv=>whnf);refine aX ?_;(conv=>whnf);refine CP h (fun hm h=>?_) (fun k hm h=>?_) (fun n hm h=>?_)
 ·refine DH (ek:=(fun(a:Int)=>(AV.int IntKind.i64 a))) (gN:=aa.g) gs id (.ei (.pointer none)) rfl rfl (jK Tryz.underlying3) hm ⟨96,_,by kernel_rfl,by kernel_rfl,.refl _⟩ ?_;exact qG (ii 10 [])
 ·refine uE (ek:=(fun(a:Int)=>(AV.int IntKind.i64 a))) (gN:=aa.g) gs id _ rfl rfl (jK Tryz.underlying3) hm _ rfl rfl ?_;(conv=>whnf);left;(conv=>whnf);left;(conv=>whnf);left;(conv=>whnf);obtain⟨hg,h⟩:=cQ h;cases h;refine gF 1 256 gs id (@Sum.inl ae af k) [256,257,258,259] ?_;exact gI (ii 10 [])
 refine uE (ek:=(fun(a:Int)=>(AV.int IntKind.i64 a))) (gN:=aa.g) gs id _ rfl rfl (jK Tryz.underlying3) hm _ rfl rfl ?_;(conv=>whnf);left;(conv=>whnf);left;(conv=>whnf);left;cases h
theorem B3{id c b gs d tb l e f i j m r}(h:pF F id c b gs d tb l e f i j m=some (Sum.inr r)):FZ ml 70 (T0 c b gs d tb l e f i j m) [pp 0,aI id] (.bN [pp 10,aI r.1]) (Is c b++[(1,AO.bK (eG r.2.1) (some ((Option.getD (@mix Int aa Int.instDecidableEq r.2.2.1 r.2.1) 0),10))),(2,rF [.an 8 4,aI d,.aw 9]),(3,.rows true [(@dn tb)]),(4,rT bj.c l),(5,rT cJ e),(6,rT cU f),(7,rT cq.c i),(8,rT bQ.c j),(9,mP m),(10,rF ([pp 11,pp 12]++bn.c r.2.2.2.1++[.bool true,aI r.2.2.2.2.1,AV.int IntKind.u32 r.2.2.2.2.2.1])),(11,rF [.aw 13,.an 14 2,aI r.2.2.2.2.2.2.1]),(12,rF ([pp 15]++bn.c r.2.2.2.2.2.2.2.1)),(13,fS r.2.2.2.2.2.2.2.2.1),(14,rT bp.c r.2.2.2.2.2.2.2.2.2.1),(15,rF [pp 11,.str r.2.2.2.2.2.2.2.2.2.2.1,aI r.2.2.2.2.2.2.2.2.2.2.2.1,aI r.2.2.2.2.2.2.2.2.2.2.2.2])]):=by
 refine fG Tryz.func70 ?_
 unfold pF at h
 (conv=>whnf);refine aX ?_;(conv=>whnf);refine CP h (fun hm h=>?_) (fun k hm h=>?_) (fun n hm h=>?_)
 ·refine DH (ek:=(fun(a:Int)=>(AV.int IntKind.i64 a))) (gN:=aa.g) gs id (.ei (.pointer none)) rfl rfl (jK Tryz.underlying3) hm ⟨96,_,by kernel_rfl,by kernel_rfl,.refl _⟩ ?_;(conv=>whnf);left;(conv=>whnf);left;cases h
 ·refine uE (ek:=(fun(a:Int)=>(AV.int IntKind.i64 a))) (gN:=aa.g) gs id _ rfl rfl (jK Tryz.underlying3) hm _ rfl rfl ?_;(conv=>whnf);left;(conv=>whnf);left;(conv=>whnf);left;(conv=>whnf);obtain⟨hg,h⟩:=cQ h;cases h
 refine uE (ek:=(fun(a:Int)=>(AV.int IntKind.i64 a))) (gN:=aa.g) gs id _ rfl rfl (jK Tryz.underlying3) hm _ rfl rfl ?_;exact qG (ii 10 [(10,256),(11,257),(12,260),(13,258),(14,259),(15,261)])
theorem VM{r_ r}(h:DU F r_=some r):FZ ml 99 [] [.agg (bn.c r_)] (.agg [aI r.1,sM cJ r.2.1,aI r.2.2.1,aI r.2.2.2.1,aI r.2.2.2.2.1,aI r.2.2.2.2.2.1,aI r.2.2.2.2.2.2.1,aI r.2.2.2.2.2.2.2.1,sM bj.c r.2.2.2.2.2.2.2.2.1,.str r.2.2.2.2.2.2.2.2.2.1,aI r.2.2.2.2.2.2.2.2.2.2.1,aI r.2.2.2.2.2.2.2.2.2.2.2.1,aI r.2.2.2.2.2.2.2.2.2.2.2.2.1,.an 0 1,.an 1 1,.an 2 1]) (Ca r.2.2.2.2.2.2.2.2.2.2.2.2.2.1 r.2.2.2.2.2.2.2.2.2.2.2.2.2.2.1 r.2.2.2.2.2.2.2.2.2.2.2.2.2.2.2):=by
 refine fG Tryz.func99 ?_
 unfold DU at h
 (conv=>whnf);left;(conv=>whnf);left;(conv=>whnf);left;(conv=>whnf);refine cR h (fun h=>eT (wY h) rfl) fun a h=>?_;(conv=>whnf);left;(conv=>whnf);refine cR h wY fun b h=>?_;(conv=>whnf);left;(conv=>whnf);refine cR h Et fun d h=>?_;(conv=>whnf);left;(conv=>whnf);refine cR h Et fun e h=>?_;(conv=>whnf);left;(conv=>whnf);left;(conv=>whnf);left;(conv=>whnf);refine aX ?_;(conv=>whnf);left;(conv=>whnf);exact cR h (fun h=>eT (uP h) rfl) fun f h=>qG [(0,256),(1,352),(2,448)]
theorem DV{r_ r}(h:uF F r_=some r):FZ ml 100 [] [.agg (bn.c r_)] (pp 0) (T1 r.1 r.2.1 r.2.2.1 r.2.2.2.1 r.2.2.2.2):=by
 refine fG Tryz.func100 ?_
 unfold uF at h
 (conv=>whnf);left;(conv=>whnf);left;(conv=>whnf);refine cR h VM fun a h=>?_;(conv=>whnf);refine Or.inr (A5 16 10 _ rfl rfl ?_);(conv=>whnf);left;cases h;exact gE [(0,192),(1,128),(2,129),(3,130),(4,160)]
theorem qW{m rf l a b d r}(h:pc F m rf l a b d=some r):FZ ml 154 (T1 rf l a b d) [pp 0,.agg (bV.c m)] (.bN []) (Iv r.1 l a b r.2):=by
 refine fG Tryz.func154 ?_
 unfold pc at h
 (iterate 5 ((conv=>whnf);first|refine oL ?_|refine aX ?_));(conv=>whnf);refine gS h fun h=>?_;(conv=>whnf);left;(conv=>whnf);refine aX ?_;cases h;exact gE (ii 5 [(5,736)])
theorem U5{t a b r}(h:Bx F t a b=some r):FZ ml 195 [] [.agg (cD.c t),aI a,aI b] (sM bj.c r) []:=by
 refine fA Tryz.func195 ?_
 unfold Bx at h
 (conv=>whnf);left;(conv=>whnf);refine jN h fun d=>jM [(1,aI a),(2,aI b),(3,pp 0),(20,.bool d)] [(0,rF (cD.c t))] 1 (fun h=>?_) fun h=>?_
 ·(conv=>whnf);left;(conv=>whnf);left;(conv=>whnf);refine cL h uJ fun e h=>?_;(conv=>whnf);refine bS h (fun h=>qE [(0,32)]) fun h=>?_;(conv=>whnf);left;(conv=>whnf);exact cL h yb fun f h=>qE [(0,32)]
 (conv=>whnf);left;refine bS h (fun h=>qR) fun h=>?_;(conv=>whnf);refine aX ?_;(conv=>whnf);refine gX h fun h=>?_;(conv=>whnf);refine gS h fun h=>?_;(conv=>whnf);refine gS h fun h=>?_;(conv=>whnf);refine aX ?_;(conv=>whnf);refine gS h fun h=>?_;(conv=>whnf);refine gS h fun h=>?_;(conv=>whnf);refine gS h fun h=>?_;(conv=>whnf);left;(conv=>whnf);obtain⟨g,hy,h⟩:=dS h;refine⟨_,_,(lg (bZ (YF AV.sl rQ) rfl) (eT (uP hy) rfl)),Or.inr ⟨[],rfl,?_⟩⟩;exact qR
theorem H'{i rf l a b c r}(h:wI F i rf l a b c=some r):FZ ml 151 (T1 rf l a b c) [pp 0,aI i] (.bN []) (Iv r.1 l a b r.2):=by
 refine fG Tryz.func151 ?_
 unfold wI at h
 (conv=>whnf);refine gX h fun h=>?_;(conv=>whnf);refine oB h fun d h=>?_;(conv=>whnf);refine oB h fun e h=>?_;(conv=>whnf);left;refine bS h (fun h=>?_) fun h=>?_
 ·(conv=>whnf);refine gX h fun h=>?_;(conv=>whnf);refine oB h fun f h=>?_;(conv=>whnf);left;obtain⟨g,hy,h⟩:=dS h;refine cW [0,1,2,3,4] (qW hy) ?_;exact qG (ii 5 [(5,1445)])
 (conv=>whnf);left;(conv=>whnf);refine cL h ya fun j h=>?_;(conv=>whnf);refine gX h fun h=>?_;(conv=>whnf);refine oB h fun k h=>?_;(conv=>whnf);left;(conv=>whnf);refine cR h U5 fun m h=>?_;(conv=>whnf);left;(conv=>whnf);exact cG [0,1,2,3,4] h qW fun n h=>qG (ii 5 [(5,1797)])
theorem Ib{rf l a b c r}(h:wU F rf l a b c=some r):FZ ml 101 (T1 rf l a b c) [pp 0] (.bN []) (xa r.1 r.2.1 r.2.2.1 r.2.2.2.1 r.2.2.2.2):=by
 refine fG Tryz.func101 ?_
 unfold wU at h
 (conv=>whnf);refine jN h fun⟨g,i⟩=>jM [] (xa g l a b i) 9 (fun h=>?_) fun h=>?_
 ·(conv=>whnf);left;(conv=>whnf);refine lI (fun n' x'=>yB F rf l a b n' x'.1 x'.2.1 x'.2.2) (fun x'=>[(0,pp 0),(8,sM cJ rf.au),(9,aI (@Nat.cast Int instNatCastInt (List.length (List.map cJ rf.au)))),(10,aI x'.1)]) (fun x'=>(xa x'.2.1 l a b x'.2.2)) 9 ((0:Int),rf,c) [(0,0),(5,1),(6,2),(7,3),(8,4)] h ?_;rintro j ⟨d,k,m⟩ h;dsimp only at h;rw[yB.eq_2]at h;(conv=>whnf);left;refine bS h (fun h=>?_) fun h=>?_
  ·(conv=>whnf);refine jN h fun⟨e,f⟩=>jM [(0,pp 0),(8,sM cJ rf.au),(9,aI (@Nat.cast Int instNatCastInt (List.length (List.map cJ rf.au)))),(10,aI d)] (xa e l a b f) 9 (fun h=>?_) fun h=>?_
   ·(conv=>whnf);left;(conv=>whnf);refine gX h fun h=>?_;(conv=>whnf);refine oB h fun n h=>?_;(conv=>whnf);left;refine bS h (fun h=>?_) fun h=>?_
    ·(conv=>whnf);exact cG [0,5,6,7,8] h H' fun o h=>qE (ii 8 [(8,494)])
    exact qE (ii 9 [])
   exact rE (j,(IntKind.wrap IntKind.i64 (d+(1:Int))),e,f) (ii 9 []) h
  exact qE (ii 9 [])
 exact qG (ii 9 [])
theorem uN{rf l a b c r}(h:pI F rf l a b c=some r):FZ ml 121 (T1 rf l a b c) [pp 0] (aI r) (T1 rf l a b c):=by
 refine fG Tryz.func121 ?_
 unfold pI at h
 (conv=>whnf);left;(conv=>whnf);exact cL h wF fun d h=>qG (ii 5 [])
theorem VJ{x y r}(h:H0 F x y=some r):FZ ml 244 [] [AV.int IntKind.u64 x,AV.int IntKind.u64 y] (.bN [.int IntKind.u64 r.1,.int IntKind.u64 r.2]) []:=by
 refine fA Tryz.func244 ?_
 unfold H0 at h;exact qR
theorem Vw{x y r}(h:H4 F x y=some r):FZ ml 227 [] [AV.int IntKind.u64 x,AV.int IntKind.u64 y] (.bN [.int IntKind.u64 r.1,.int IntKind.u64 r.2]) []:=by
 refine fA Tryz.func227 ?_
 unfold H4 at h
 (conv=>whnf);left;(conv=>whnf);left;(conv=>whnf);exact cL h VJ fun a h=>qR
theorem XF{x count r}(h:qU F x count=some r):FZ ml 196 [] [sM cJ x,aI count] (.an 0 1) (jv r):=by
 refine fG Tryz.func196 ?_
 unfold qU at h
 (conv=>whnf);left;refine bT h fun h=>?_;(conv=>whnf);left;(conv=>whnf);refine cL h Vw fun c h=>?_;(conv=>whnf);refine jN h fun d=>jM [(0,sM cJ x),(6,AV.int IntKind.u64 c.2),(26,.bool d)] [] 0 (fun h=>qE []) fun h=>?_;(conv=>whnf);left;refine bT h fun h=>?_;(conv=>whnf);refine gX h fun h=>?_;(conv=>whnf);refine gX h fun h=>?_;(conv=>whnf);refine gX h fun h=>?_;(conv=>whnf);refine And.intro (dU.replicate rfl) ?_;(conv=>whnf);refine aX ?_;(conv=>whnf);refine jN h fun e=>jM [(7,.an 0 1)] (jv e) 1 (fun h=>?_) fun h=>?_
 ·(conv=>whnf);left;(conv=>whnf);refine lI (fun n' x'=>Eu F n' x'.1 x'.2) (fun x'=>[(7,.an 0 1),(8,aI x'.1)]) (fun x'=>(jv x'.2)) 1 ((@Nat.cast Int instNatCastInt (min (List.length (List.replicate (Int.toNat (IntKind.wrap IntKind.i64 c.2)) ((AV.int IntKind.i64 (0:Int))::[]))) (List.length (List.map cJ x)))),((List.take 0 (List.replicate (Int.toNat (IntKind.wrap IntKind.i64 c.2)) (0:Int)))++((List.take (min (List.length (List.replicate (Int.toNat (IntKind.wrap IntKind.i64 c.2)) ((AV.int IntKind.i64 (0:Int))::[]))) (List.length (List.map cJ x))) x)++(List.drop (0+(min (List.length (List.replicate (Int.toNat (IntKind.wrap IntKind.i64 c.2)) ((AV.int IntKind.i64 (0:Int))::[]))) (List.length (List.map cJ x)))) (List.replicate (Int.toNat (IntKind.wrap IntKind.i64 c.2)) (0:Int)))))) [(0,64)] h ?_;rintro f ⟨a,b⟩ h;dsimp only at h;rw[Eu.eq_2]at h;(conv=>whnf);left;refine bS h (fun h=>?_) fun h=>?_
  ·(conv=>whnf);left;(conv=>whnf);refine aX ?_;(conv=>whnf);left;(conv=>whnf);refine gX h fun h=>?_;(conv=>whnf);refine gS h fun h=>?_;(conv=>whnf);refine gS h fun h=>?_;(conv=>whnf);refine aX ?_;(conv=>whnf);left;(conv=>whnf);refine gX h fun h=>?_;(conv=>whnf);refine gX h fun h=>?_;(conv=>whnf);refine gS h fun h=>?_;(conv=>whnf);refine aX ?_;(conv=>whnf);refine And.intro (dU.take (dU.drop (dU.map (fun _=>rfl)))) ?_;(conv=>whnf);refine gS h fun h=>?_;(conv=>whnf);refine aX ?_;exact rE (f,(IntKind.wrap IntKind.i64 (a+(@Nat.cast Int instNatCastInt (min ((List.length (List.map cJ b))-(Int.toNat a)) (List.length (List.take ((Int.toNat a)-0) (List.drop 0 (List.map cJ b)))))))),((List.take (Int.toNat a) b)++((List.take (min ((List.length (List.map cJ b))-(Int.toNat a)) (List.length (List.take ((Int.toNat a)-0) (List.drop 0 (List.map cJ b))))) (List.take ((Int.toNat a)-0) (List.drop 0 b)))++(List.drop ((Int.toNat a)+(min ((List.length (List.map cJ b))-(Int.toNat a)) (List.length (List.take ((Int.toNat a)-0) (List.drop 0 (List.map cJ b)))))) b)))) [(0,0)] h
  exact qE [(0,0)]
 exact qG [(0,0)]
theorem D3{t a more r}(h:td F t a more=some r):FZ ml 166 [] [.agg (cD.c t),aI a,sM bj.c more] (.bN [.agg (cD.c r.1),.bool r.2]) []:=by
 refine fK Tryz.func166 ?_
 unfold td at h
 (conv=>whnf);left;(conv=>whnf);left;(conv=>whnf);left;(conv=>whnf);left;(conv=>whnf);refine aX ?_;(conv=>whnf);refine gX h fun h=>?_;(conv=>whnf);refine gX h fun h=>?_;(conv=>whnf);refine gS h fun h=>?_;(conv=>whnf);refine And.intro (dU.take (dU.map (fun _=>rfl))) ?_;(conv=>whnf);refine gX h fun h=>?_;(conv=>whnf);refine aX ?_;(conv=>whnf);refine And.intro (dU.take (dU.map (fun _=>rfl))) ?_;(conv=>whnf);refine gS h fun h=>?_;(conv=>whnf);left;(conv=>whnf);refine aX ?_;(conv=>whnf);left;(conv=>whnf);exact cL h (fun h=>aE (uJ h)) fun b h=>qK
theorem MJ{t e r}(h:yc F t e=some r):FZ ml 118 [] [.agg (cD.c t),.agg (bj.c e)] (.bN [.agg (cD.c r.1),.bool r.2]) []:=by
 refine fK Tryz.func118 ?_
 unfold yc at h
 (conv=>whnf);left;(conv=>whnf);left;(conv=>whnf);left;(conv=>whnf);left;(conv=>whnf);refine cL h uJ fun a h=>?_;(conv=>whnf);left;refine bS h (fun h=>qK) fun h=>?_;(conv=>whnf);left;(conv=>whnf);left;obtain⟨b,hy,h⟩:=dS h;refine⟨_,_,(lg (bZ rfl (bZ rfl (bZ (YF AV.sl rQ) rfl))) (D3 hy)),Or.inr ⟨[416],rfl,?_⟩⟩;exact qK
theorem MT{rf l b c a r}(h:yn F rf l b c a=some r):FZ ml 119 (T1 rf l b c a) [pp 0] (.bN []) (T1 rf l r.1 r.2 a):=by
 refine fG Tryz.func119 ?_
 unfold yn at h
 (conv=>whnf);left;(conv=>whnf);refine cL h Io fun d h=>?_;(conv=>whnf);refine aX ?_;(conv=>whnf);refine cH [0,1,2,3,4] h uN fun e h=>?_;(conv=>whnf);refine cH [0,1,2,3,4] h uN fun f h=>?_;(conv=>whnf);refine gX h fun h=>?_;(conv=>whnf);refine oB h fun g h=>?_;(conv=>whnf);refine oB h fun i h=>?_;(conv=>whnf);refine gX h fun h=>?_;(conv=>whnf);refine oB h fun j h=>?_;(conv=>whnf);refine oB h fun k h=>?_;(conv=>whnf);refine aX ?_;cases h;exact gE (ii 5 [])
theorem MP{x r}(h:BJ F x=some r):FZ ml 270 [] [aI x] (.bool r) []:=by
 refine fA Tryz.func270 ?_
 unfold BJ at h;exact qR
theorem VO{x y r}(h:Bz F x y=some r):FZ ml 255 [] [aI x,aI y] (.bool r) []:=by
 refine fA Tryz.func255 ?_
 unfold Bz at h
 (conv=>whnf);left;(conv=>whnf);left;(conv=>whnf);refine cL h MP fun a h=>?_;(conv=>whnf);refine bS h (fun h=>?_) fun h=>?_
 ·(conv=>whnf);left;(conv=>whnf);exact cL h MP fun b h=>qR
 exact qR
theorem XI{a b l r}(h:B8 F a b l=some r):FZ ml 249 (jv l) [.an 0 1,aI a,aI b] (.bN []) (jv r):=by
 refine fG Tryz.func249 ?_
 unfold B8 at h
 (conv=>whnf);refine jN h fun i=>jM [] (jv i) 1 (fun h=>?_) fun h=>?_
 ·(conv=>whnf);left;(conv=>whnf);refine lI (fun n' x'=>yM F a b n' x'.1 x'.2) (fun x'=>[(0,.an 0 1),(1,aI a),(2,aI b),(6,aI x'.1)]) (fun x'=>(jv x'.2)) 1 ((IntKind.wrap IntKind.i64 (a+(1:Int))),l) [(0,0)] h ?_;rintro j ⟨d,k⟩ h;dsimp only at h;rw[yM.eq_2]at h;(conv=>whnf);left;refine bS h (fun h=>?_) fun h=>?_
  ·(conv=>whnf);refine jN h fun f=>jM [(0,.an 0 1),(1,aI a),(2,aI b),(6,aI d)] (jv f) 1 (fun h=>?_) fun h=>?_
   ·(conv=>whnf);left;(conv=>whnf);refine jN h fun m=>jM [(0,.an 0 1),(1,aI a),(2,aI b),(6,aI d)] (jv m) 1 (fun h=>?_) fun h=>?_
    ·(conv=>whnf);left;(conv=>whnf);refine lI (fun n' x'=>wX F a n' x'.1 x'.2) (fun x'=>[(0,.an 0 1),(1,aI a),(2,aI b),(6,aI d),(7,aI x'.1)]) (fun x'=>(jv x'.2)) 1 (d,k) [(0,0)] h ?_;rintro n ⟨e,g⟩ h;dsimp only at h;rw[wX.eq_2]at h;(conv=>whnf);refine jN h fun o=>jM [(0,.an 0 1),(1,aI a),(2,aI b),(6,aI d),(7,aI e),(30,.bool o)] (jv g) 1 (fun h=>?_) fun h=>?_
     ·(conv=>whnf);left;refine bS h (fun h=>?_) fun h=>?_
      ·(conv=>whnf);refine gX h fun h=>?_;(conv=>whnf);refine oB h fun s h=>?_;(conv=>whnf);refine oB h fun t h=>?_;(conv=>whnf);refine gX h fun h=>?_;(conv=>whnf);refine oB h fun u h=>?_;(conv=>whnf);refine oB h fun v h=>?_;(conv=>whnf);left;(conv=>whnf);exact cL h VO fun w h=>qE [(0,0)]
      exact qE [(0,0)]
     (conv=>whnf);left;refine bS h (fun h=>?_) fun h=>?_
     ·(conv=>whnf);left;(conv=>whnf);refine gX h fun h=>?_;(conv=>whnf);refine oB h fun x h=>?_;(conv=>whnf);refine oB h fun p h=>?_;(conv=>whnf);refine gX h fun h=>?_;(conv=>whnf);refine oB h fun y h=>?_;(conv=>whnf);refine oB h fun q h=>?_;(conv=>whnf);refine gX h fun h=>?_;(conv=>whnf);refine oB h fun z h=>?_;(conv=>whnf);refine oB h fun A h=>?_;(conv=>whnf);refine gX h fun h=>?_;(conv=>whnf);refine oB (c:=bG IntKind.i64) h fun B h=>?_;(conv=>whnf);refine oB (c:=bG IntKind.i64) h fun C h=>?_;(conv=>whnf);refine aX ?_;exact rE (n,(IntKind.wrap IntKind.i64 (e-(1:Int))),(List.set (List.set g (Int.toNat e) p) (Int.toNat (IntKind.wrap IntKind.i64 (e-(1:Int)))) q)) [(0,0)] h
     exact qE [(0,0)]
    exact qE [(0,0)]
   exact rE (j,(IntKind.wrap IntKind.i64 (d+(1:Int))),f) [(0,0)] h
  exact qE [(0,0)]
 exact qG [(0,0)]
theorem XG{a b js l r}(h:Ip F a b js l=some r):FZ ml 230 (jv l) [.an 0 1,aI a,aI b,aI js] (.bN []) (jv r):=by
 refine fG Tryz.func230 ?_
 unfold Ip at h
 (conv=>whnf);left;(conv=>whnf);refine lI (fun n' (_:Unit)=>B' F a b js l n') (fun _=>[(0,.an 0 1),(1,aI a),(2,aI b),(3,aI js),(8,.bool true),(9,.bool true)]) (fun _=>(jv l)) 1 () [(0,0)] h ?_;rintro c-h;rw[B'.eq_2]at h;(conv=>whnf);left;(conv=>whnf);left;refine bS h (fun h=>?_) fun h=>?_
 ·(conv=>whnf);exact cG [0] h XI fun d h=>qG [(0,0)]
 (conv=>whnf);left;refine bS h (fun h=>?_) fun h=>?_
 ·(conv=>whnf);left;cases h
 (conv=>whnf);left;(conv=>whnf);left;cases h
theorem XE{l r}(h:B4 F l=some r):FZ ml 199 (jv l) [.an 0 1] (.bN []) (jv r):=by
 refine fG Tryz.func199 ?_
 unfold B4 at h
 (conv=>whnf);left;(conv=>whnf);refine cL h Vv fun a h=>?_;(conv=>whnf);exact cG [0] h XG fun b h=>qG [(0,0)]
theorem U9{a dB r}(h:BB F a dB=some r):FZ ml 167 [] [sM cJ a,sM cq.c dB] (aI r) []:=by
 refine fA Tryz.func167 ?_
 unfold BB at h
 (conv=>whnf);left;(conv=>whnf);refine cL h BA fun n h=>?_;(conv=>whnf);left;refine bS h (fun h=>qR) fun h=>?_;(conv=>whnf);refine jN h fun j=>jM [(5,.an 0 1)] (jv j) 1 (fun h=>?_) fun h=>?_
 ·(conv=>whnf);left;(conv=>whnf);refine lI (fun n' x'=>yw F a dB n' x'.1 x'.2) (fun x'=>[(1,sM cq.c dB),(5,.an 0 1),(14,sM cJ a),(15,aI (@Nat.cast Int instNatCastInt (List.length (List.map cJ a)))),(16,aI x'.1)]) (fun x'=>(jv x'.2)) 1 ((0:Int),[]) [(0,160)] h ?_;rintro k ⟨b,d⟩ h;dsimp only at h;rw[yw.eq_2]at h;(conv=>whnf);left;refine bS h (fun h=>?_) fun h=>?_
  ·(conv=>whnf);refine jN h fun f=>jM [(1,sM cq.c dB),(5,.an 0 1),(14,sM cJ a),(15,aI (@Nat.cast Int instNatCastInt (List.length (List.map cJ a)))),(16,aI b)] (jv f) 1 (fun h=>?_) fun h=>?_
   ·(conv=>whnf);left;(conv=>whnf);refine gX h fun h=>?_;(conv=>whnf);refine oB h fun e h=>?_;(conv=>whnf);refine jN h fun l=>jM [(1,sM cq.c dB),(5,.an 0 1),(8,aI l),(14,sM cJ a),(15,aI (@Nat.cast Int instNatCastInt (List.length (List.map cJ a)))),(16,aI b)] (jv d) 1 (fun h=>?_) fun h=>?_
    ·(conv=>whnf);left;(conv=>whnf);refine lI (fun n' x'=>wJ F dB e n' x'.1 x'.2) (fun x'=>[(1,sM cq.c dB),(5,.an 0 1),(7,aI e),(8,aI x'.1),(14,sM cJ a),(15,aI (@Nat.cast Int instNatCastInt (List.length (List.map cJ a)))),(16,aI b),(20,sM cq.c dB),(21,aI (@Nat.cast Int instNatCastInt (List.length (List.map cq.c dB)))),(22,aI x'.2)]) (fun x'=>(jv d)) 1 ((0:Int),(0:Int)) [(0,0)] h ?_;rintro m ⟨o,g⟩ h;dsimp only at h;rw[wJ.eq_2]at h;(conv=>whnf);left;refine bS h (fun h=>?_) fun h=>?_
     ·(conv=>whnf);refine jN h fun i=>jM [(1,sM cq.c dB),(5,.an 0 1),(7,aI e),(8,aI i),(14,sM cJ a),(15,aI (@Nat.cast Int instNatCastInt (List.length (List.map cJ a)))),(16,aI b),(20,sM cq.c dB),(21,aI (@Nat.cast Int instNatCastInt (List.length (List.map cq.c dB)))),(22,aI g)] (jv d) 1 (fun h=>?_) fun h=>?_
      ·(conv=>whnf);left;(conv=>whnf);refine gX h fun h=>?_;(conv=>whnf);refine oB h fun p h=>?_;exact qE [(0,0)]
      exact rE (m,i,(IntKind.wrap IntKind.i64 (g+(1:Int)))) [(0,0)] h
     exact qE [(0,0)]
    (conv=>whnf);left;(conv=>whnf);refine aX ?_;(conv=>whnf);refine aX ?_;(conv=>whnf);refine gS h fun h=>?_;cases h;exact eE [(0,97)]
   exact rE (k,(IntKind.wrap IntKind.i64 (b+(1:Int))),f) [(0,0)] h
  exact qE [(0,0)]
 (conv=>whnf);refine cG [0] h XE fun q h=>?_;(conv=>whnf);refine aX ?_;(conv=>whnf);refine gS h fun h=>?_;(conv=>whnf);refine oB h fun s h=>?_;(conv=>whnf);refine oB h fun t h=>?_;exact qR
theorem Il{rf l b a d r}(h:wW F rf l b a d=some r):FZ ml 120 (T1 rf l b a d) [pp 0] (.bN []) (T1 r l b a d):=by
 refine fG Tryz.func120 ?_
 unfold wW at h
 (conv=>whnf);refine jN h fun e=>jM [(0,pp 0),(2,.an 5 2)] (T1 rf l b a d++[(5,rT cq.c e)]) 6 (fun h=>?_) fun h=>?_
 ·(conv=>whnf);left;(conv=>whnf);refine lI (fun n' x'=>yF F rf a n' x'.1 x'.2) (fun x'=>[(0,pp 0),(2,.an 5 2),(12,sM cJ rf.au),(13,aI (@Nat.cast Int instNatCastInt (List.length (List.map cJ rf.au)))),(14,aI x'.1)]) (fun x'=>(T1 rf l b a d++[(5,rT cq.c x'.2)])) 6 ((0:Int),[]) (ii 5 [(5,32)]) h ?_;rintro f ⟨g,i⟩ h;dsimp only at h;rw[yF.eq_2]at h;(conv=>whnf);left;refine bS h (fun h=>?_) fun h=>?_
  ·(conv=>whnf);left;(conv=>whnf);refine gX h fun h=>?_;(conv=>whnf);refine oB h fun j h=>?_;(conv=>whnf);refine gX h fun h=>?_;(conv=>whnf);refine oB h fun o h=>?_;(conv=>whnf);refine oB h fun k h=>?_;(conv=>whnf);left;(conv=>whnf);left;(conv=>whnf);refine aX ?_;(conv=>whnf);refine aX ?_;(conv=>whnf);refine gS h fun h=>?_;exact rE (f,(IntKind.wrap IntKind.i64 (g+(1:Int))),(i++((cq.mk j k)::[]))) (ii 5 [(5,582)]) h
  exact qE (ii 6 [])
 (conv=>whnf);left;(conv=>whnf);refine cL h U9 fun m h=>?_;(conv=>whnf);left;(conv=>whnf);refine cL h ya fun p h=>?_;(conv=>whnf);exact jN h fun n=>jM [(0,pp 0),(5,aI m),(68,.bool n)] (T1 rf l b a d) 5 (fun h=>qE (ii 5 [])) fun h=>qG (ii 5 [])
theorem BN{rf l a b d r}(h:yu F rf l a b d=some r):FZ ml 153 (T1 rf l a b d) [pp 0] (.bN []) (T9 r.1 l a b r.2.1 r.2.2.1 r.2.2.2.1 r.2.2.2.2):=by
 refine fG Tryz.func153 ?_
 unfold yu at h
 (conv=>whnf);refine Or.inr (ij 1 _ _ rfl rfl rfl ?_);(conv=>whnf);refine cH [0,800,2,3,4] h uN fun g h=>?_;(conv=>whnf);left;(conv=>whnf);left;obtain⟨e,hy,h⟩:=dS h;refine⟨_,_,(lg (bZ (YF AV.sl rQ) rfl) (XF hy)),Or.inr ⟨[960],rfl,?_⟩⟩;(conv=>whnf);left;(conv=>whnf);refine aX ?_;(conv=>whnf);refine And.intro (by omega) ?_;(conv=>whnf);refine gS h fun h=>?_;(conv=>whnf);refine gS h fun h=>?_;(conv=>whnf);left;(conv=>whnf);left;(conv=>whnf);left;(conv=>whnf);refine cR h MJ fun i h=>?_;(conv=>whnf);left;(conv=>whnf);refine aX ?_;(conv=>whnf);refine jN h fun f=>jM [(0,pp 0)] [(0,rF (cy.c f++[.an 5 1,.an 6 1,.an 7 1,.an 4 10])),(1,rT cJ l),(2,rT cJ a),(3,rT cJ b),(4,rT bV.c d),(5,rT cJ []),(6,rT cJ e),(7,rT cJ (List.replicate (Int.toNat (@Nat.cast Int instNatCastInt (List.length (List.map cJ rf.au)))) (0:Int)))] 8 (fun h=>?_) fun h=>?_
 ·(conv=>whnf);left;refine bS h (fun h=>?_) fun h=>?_
  ·cases h;exact eE (ii 5 [(5,800),(6,1184),(7,1568)])
  cases h;exact eE (ii 5 [(5,800),(6,1184),(7,1568)])
 (conv=>whnf);refine cG [0,5,6,7,4] h MT fun j h=>?_;(conv=>whnf);refine cG [0,5,6,7,4] h Il fun k h=>?_;(conv=>whnf);exact cG [0,5,6,7,4] h Ib fun m h=>qG (ii 5 [(5,173),(6,174),(7,175),(8,176)])
theorem VX{g rf l a b e r}(h:tq F g rf l a b e=some (Sum.inl r)):FZ ml 102 (T1 rf l a b e) [pp 0,aI g] (.bN []) (T1 r.1 l a b r.2):=by
 refine fG Tryz.func102 ?_
 unfold tq at h
 (conv=>whnf);left;refine bS h (fun h=>qG (ii 5 [])) fun h=>?_;(conv=>whnf);refine jN h fun f=>jM [(0,pp 0),(1,aI f)] (T1 rf l a b e) 5 (fun h=>qE (ii 5 [])) fun h=>?_;(conv=>whnf);left;(conv=>whnf);left;(conv=>whnf);refine Or.inr (ij 1 _ _ rfl rfl rfl ?_);(conv=>whnf);refine Or.inr (ij 1 _ _ rfl rfl rfl ?_);(conv=>whnf);refine aX ?_;(conv=>whnf);refine aX ?_;(conv=>whnf);left;(conv=>whnf);refine cL h (fun h=>aE (yk h)) fun p h=>?_;(conv=>whnf);refine aX ?_;(conv=>whnf);left;refine bS h (fun h=>?_) fun h=>?_
 ·(conv=>whnf);refine cG [0,837,1477,1605,4] h BN fun q h=>?_;cases h
 (conv=>whnf);left;(conv=>whnf);refine cL h wF fun d h=>?_;(conv=>whnf);refine jN h fun⟨m,n⟩=>jM [] (EC m l a b++[(5,.rows true [[aI rf.Id]]),(6,.rows true []),(7,.rows true []),(8,rT bV.c n)]) 9 (fun h=>?_) fun h=>?_
 ·(conv=>whnf);left;(conv=>whnf);refine lI (fun n' x'=>rY F rf d n' x'.1 x'.2.1 x'.2.2) (fun x'=>[(0,pp 0),(4,aI d.1),(5,aI d.2),(105,sM cJ rf.au),(106,aI (@Nat.cast Int instNatCastInt (List.length (List.map cJ rf.au)))),(107,aI x'.1)]) (fun x'=>(T9 x'.2.1 l a b (rf.Id::[]) [] [] x'.2.2)) 9 ((0:Int),(cy.mk rf.Id rf.au (IntKind.wrap IntKind.i64 (rf.Term+(1:Int))) rf.Id (1:Int) (0:Int) rf.Trail rf.bM rf.aj (IntKind.wrap IntKind.i64 ((10:Int)+(@Int.tmod f (10:Int)))) (IntKind.wrap IntKind.i64 ((10:Int)+(@Int.tmod f (10:Int))))),e) (ii 4 [(5,837),(6,1477),(7,1605),(8,4)]) h ?_;rintro o ⟨i,s,t⟩ h;dsimp only at h;rw[rY.eq_2]at h;(conv=>whnf);left;refine bS h (fun h=>?_) fun h=>?_
  ·(conv=>whnf);refine jN h fun⟨j,k⟩=>jM [(0,pp 0),(4,aI d.1),(5,aI d.2),(105,sM cJ rf.au),(106,aI (@Nat.cast Int instNatCastInt (List.length (List.map cJ rf.au)))),(107,aI i)] (T9 j l a b (rf.Id::[]) [] [] k) 9 (fun h=>?_) fun h=>?_
   ·(conv=>whnf);left;(conv=>whnf);refine gX h fun h=>?_;(conv=>whnf);refine oB h fun u h=>?_;(conv=>whnf);left;refine bS h (fun h=>?_) fun h=>?_
    ·(conv=>whnf);left;obtain⟨v,hy,h⟩:=dS h;refine cW [0,5,6,7,8] (qW hy) ?_;exact qE (ii 8 [(8,526)])
    exact qE (ii 9 [])
   exact rE (o,(IntKind.wrap IntKind.i64 (i+(1:Int))),j,k) (ii 9 []) h
  exact qE (ii 9 [])
 cases h
theorem VY{g rf l a b e r}(h:tq F g rf l a b e=some (Sum.inr (Sum.inl r))):FZ ml 102 (T1 rf l a b e) [pp 0,aI g] (.bN []) (T9 r.1 l a b r.2.1 r.2.2.1 r.2.2.2.1 r.2.2.2.2):=by
 refine fG Tryz.func102 ?_
 unfold tq at h
 (conv=>whnf);left;refine bS h (fun h=>?_) fun h=>?_
 ·cases h
 (conv=>whnf);refine jN h fun f=>jM [(0,pp 0),(1,aI f)] (T1 rf l a b e) 5 (fun h=>qE (ii 5 [])) fun h=>?_;(conv=>whnf);left;(conv=>whnf);left;(conv=>whnf);refine Or.inr (ij 1 _ _ rfl rfl rfl ?_);(conv=>whnf);refine Or.inr (ij 1 _ _ rfl rfl rfl ?_);(conv=>whnf);refine aX ?_;(conv=>whnf);refine aX ?_;(conv=>whnf);left;(conv=>whnf);refine cL h (fun h=>aE (yk h)) fun p h=>?_;(conv=>whnf);refine aX ?_;(conv=>whnf);left;refine bS h (fun h=>?_) fun h=>?_
 ·(conv=>whnf);refine cG [0,837,1477,1605,4] h BN fun q h=>?_;(conv=>whnf);obtain rfl:=Sum.inl.inj (Vn (YO h));exact gI (ii 5 [(5,2602),(6,2603),(7,2604),(8,2605)])
 (conv=>whnf);left;(conv=>whnf);refine cL h wF fun d h=>?_;(conv=>whnf);refine jN h fun⟨m,n⟩=>jM [] (EC m l a b++[(5,.rows true [[aI rf.Id]]),(6,.rows true []),(7,.rows true []),(8,rT bV.c n)]) 9 (fun h=>?_) fun h=>?_
 ·(conv=>whnf);left;(conv=>whnf);refine lI (fun n' x'=>rY F rf d n' x'.1 x'.2.1 x'.2.2) (fun x'=>[(0,pp 0),(4,aI d.1),(5,aI d.2),(105,sM cJ rf.au),(106,aI (@Nat.cast Int instNatCastInt (List.length (List.map cJ rf.au)))),(107,aI x'.1)]) (fun x'=>(T9 x'.2.1 l a b (rf.Id::[]) [] [] x'.2.2)) 9 ((0:Int),(cy.mk rf.Id rf.au (IntKind.wrap IntKind.i64 (rf.Term+(1:Int))) rf.Id (1:Int) (0:Int) rf.Trail rf.bM rf.aj (IntKind.wrap IntKind.i64 ((10:Int)+(@Int.tmod f (10:Int)))) (IntKind.wrap IntKind.i64 ((10:Int)+(@Int.tmod f (10:Int))))),e) (ii 4 [(5,837),(6,1477),(7,1605),(8,4)]) h ?_;rintro o ⟨i,s,t⟩ h;dsimp only at h;rw[rY.eq_2]at h;(conv=>whnf);left;refine bS h (fun h=>?_) fun h=>?_
  ·(conv=>whnf);refine jN h fun⟨j,k⟩=>jM [(0,pp 0),(4,aI d.1),(5,aI d.2),(105,sM cJ rf.au),(106,aI (@Nat.cast Int instNatCastInt (List.length (List.map cJ rf.au)))),(107,aI i)] (T9 j l a b (rf.Id::[]) [] [] k) 9 (fun h=>?_) fun h=>?_
   ·(conv=>whnf);left;(conv=>whnf);refine gX h fun h=>?_;(conv=>whnf);refine oB h fun u h=>?_;(conv=>whnf);left;refine bS h (fun h=>?_) fun h=>?_
    ·(conv=>whnf);left;obtain⟨v,hy,h⟩:=dS h;refine cW [0,5,6,7,8] (qW hy) ?_;exact qE (ii 8 [(8,526)])
    exact qE (ii 9 [])
   exact rE (o,(IntKind.wrap IntKind.i64 (i+(1:Int))),j,k) (ii 9 []) h
  exact qE (ii 9 [])
 cases h
theorem VZ{g rf l a b e r}(h:tq F g rf l a b e=some (Sum.inr (Sum.inr r))):FZ ml 102 (T1 rf l a b e) [pp 0,aI g] (.bN []) (EC r.1 l a b++[(5,.rows true [[aI r.2.1]]),(6,.rows true []),(7,.rows true []),(8,rT bV.c r.2.2)]):=by
 refine fG Tryz.func102 ?_
 unfold tq at h
 (conv=>whnf);left;refine bS h (fun h=>?_) fun h=>?_
 ·cases h
 (conv=>whnf);refine jN h fun f=>jM [(0,pp 0),(1,aI f)] (T1 rf l a b e) 5 (fun h=>qE (ii 5 [])) fun h=>?_;(conv=>whnf);left;(conv=>whnf);left;(conv=>whnf);refine Or.inr (ij 1 _ _ rfl rfl rfl ?_);(conv=>whnf);refine Or.inr (ij 1 _ _ rfl rfl rfl ?_);(conv=>whnf);refine aX ?_;(conv=>whnf);refine aX ?_;(conv=>whnf);left;(conv=>whnf);refine cL h (fun h=>aE (yk h)) fun p h=>?_;(conv=>whnf);refine aX ?_;(conv=>whnf);left;refine bS h (fun h=>?_) fun h=>?_
 ·(conv=>whnf);refine cG [0,837,1477,1605,4] h BN fun q h=>?_;cases h
 (conv=>whnf);left;(conv=>whnf);refine cL h wF fun d h=>?_;(conv=>whnf);refine jN h fun⟨m,n⟩=>jM [] (EC m l a b++[(5,.rows true [[aI rf.Id]]),(6,.rows true []),(7,.rows true []),(8,rT bV.c n)]) 9 (fun h=>?_) fun h=>?_
 ·(conv=>whnf);left;(conv=>whnf);refine lI (fun n' x'=>rY F rf d n' x'.1 x'.2.1 x'.2.2) (fun x'=>[(0,pp 0),(4,aI d.1),(5,aI d.2),(105,sM cJ rf.au),(106,aI (@Nat.cast Int instNatCastInt (List.length (List.map cJ rf.au)))),(107,aI x'.1)]) (fun x'=>(T9 x'.2.1 l a b (rf.Id::[]) [] [] x'.2.2)) 9 ((0:Int),(cy.mk rf.Id rf.au (IntKind.wrap IntKind.i64 (rf.Term+(1:Int))) rf.Id (1:Int) (0:Int) rf.Trail rf.bM rf.aj (IntKind.wrap IntKind.i64 ((10:Int)+(@Int.tmod f (10:Int)))) (IntKind.wrap IntKind.i64 ((10:Int)+(@Int.tmod f (10:Int))))),e) (ii 4 [(5,837),(6,1477),(7,1605),(8,4)]) h ?_;rintro o ⟨i,s,t⟩ h;dsimp only at h;rw[rY.eq_2]at h;(conv=>whnf);left;refine bS h (fun h=>?_) fun h=>?_
  ·(conv=>whnf);refine jN h fun⟨j,k⟩=>jM [(0,pp 0),(4,aI d.1),(5,aI d.2),(105,sM cJ rf.au),(106,aI (@Nat.cast Int instNatCastInt (List.length (List.map cJ rf.au)))),(107,aI i)] (T9 j l a b (rf.Id::[]) [] [] k) 9 (fun h=>?_) fun h=>?_
   ·(conv=>whnf);left;(conv=>whnf);refine gX h fun h=>?_;(conv=>whnf);refine oB h fun u h=>?_;(conv=>whnf);left;refine bS h (fun h=>?_) fun h=>?_
    ·(conv=>whnf);left;obtain⟨v,hy,h⟩:=dS h;refine cW [0,5,6,7,8] (qW hy) ?_;exact qE (ii 8 [(8,526)])
    exact qE (ii 9 [])
   exact rE (o,(IntKind.wrap IntKind.i64 (i+(1:Int))),j,k) (ii 9 []) h
  exact qE (ii 9 [])
 (conv=>whnf);obtain rfl:=Vn (Vn (YO h));exact gI (ii 9 [])
theorem UI{r_ b r}(h:Bd F r_ b=some r):FZ ml 71 [] [.agg (bn.c r_),aI b] (.bN [.agg [aI r.1,sM cJ r.2.1,aI r.2.2.1,aI r.2.2.2.1,aI r.2.2.2.2.1,aI r.2.2.2.2.2.1,aI r.2.2.2.2.2.2.1,aI r.2.2.2.2.2.2.2.1,sM bj.c r.2.2.2.2.2.2.2.2.1,.str r.2.2.2.2.2.2.2.2.2.1,aI r.2.2.2.2.2.2.2.2.2.2.1,aI r.2.2.2.2.2.2.2.2.2.2.2.1,aI r.2.2.2.2.2.2.2.2.2.2.2.2.1,.an 0 1,.an 1 1,.an 2 1],.an 3 10]) (Ca r.2.2.2.2.2.2.2.2.2.2.2.2.2.1 r.2.2.2.2.2.2.2.2.2.2.2.2.2.2.1 r.2.2.2.2.2.2.2.2.2.2.2.2.2.2.2.1++[(3,rT bV.c r.2.2.2.2.2.2.2.2.2.2.2.2.2.2.2.2)]):=by
 refine fG Tryz.func71 ?_
 unfold Bd at h
 (conv=>whnf);left;(conv=>whnf);left;(conv=>whnf);left;(conv=>whnf);refine cR h DV fun j h=>?_;(conv=>whnf);left;(conv=>whnf);refine cL h pD fun k h=>?_;(conv=>whnf);left;refine bS h (fun h=>?_) fun h=>?_
 ·cases h;exact gE [(0,161),(1,162),(2,163),(3,480)]
 (conv=>whnf);refine jN h fun⟨d,e,f,g,i⟩=>jM [(4,pp 0),(6,pp 1)] (Cb d e f g i) 6 (fun h=>?_) fun h=>?_
 ·(conv=>whnf);left;(conv=>whnf);left;refine bS h (fun h=>qE [(0,64),(1,160),(2,161),(3,162),(4,163),(5,164)]) fun h=>?_;(conv=>whnf);left;refine bS h (fun h=>?_) fun h=>?_
  ·(conv=>whnf);exact cG [160,161,162,163,164] h Ib fun l h=>qE [(0,64),(1,160),(2,1349),(3,1350),(4,1351),(5,1352)]
  obtain⟨a,hy,h⟩:=dS h;rcases a with a|a
  ·replace h:=jH h;(conv=>whnf);refine cg [160,161,162,163,164] (VX hy) ?_;exact qE [(0,64),(1,160),(2,161),(3,162),(4,163),(5,164)]
  replace h:=jI h;rcases a with a|a
  ·replace h:=jH h;(conv=>whnf);refine cg [160,161,162,163,164] (VY hy) ?_;exact qE [(0,64),(1,160),(2,1221),(3,1222),(4,1223),(5,1224)]
  replace h:=jI h;(conv=>whnf);refine cg [160,161,162,163,164] (VZ hy) ?_;cases h;exact eE [(0,64),(1,160),(2,1221),(3,1222),(4,1223),(5,1224)]
 exact qG [(0,2),(1,3),(2,4),(3,5)]
theorem Xv{s1 s2 r}(h:BZ F s1 s2=some r):FZ ml 125 [] [sM cJ s1,sM cJ s2] (.bool r) []:=by
 refine fA Tryz.func125 ?_
 unfold BZ at h
 (conv=>whnf);left;refine bS h (fun h=>qR) fun h=>?_;(conv=>whnf);refine jS h fun o0 vu=>jT [] [] 0 (fun h k0 e=>?_) fun h=>?_
 ·(conv=>whnf);left;(conv=>whnf);refine lI (fun n' x'=>yC F s1 s2 n' x') (fun x'=>[(0,sM cJ s1),(1,sM cJ s2),(12,aI (@Nat.cast Int instNatCastInt (List.length (List.map cJ s1)))),(13,aI x')]) (fun x'=>[]) 0 (0:Int) [] h ?_;rintro a b h;rw[yC.eq_2]at h;(conv=>whnf);left;refine bS h (fun h=>?_) fun h=>?_
  ·(conv=>whnf);left;(conv=>whnf);refine gX h fun h=>?_;(conv=>whnf);refine oB h fun c h=>?_;(conv=>whnf);refine gX h fun h=>?_;(conv=>whnf);refine oB h fun d h=>?_;(conv=>whnf);refine aX ?_;(conv=>whnf);left;refine bS h (fun h=>?_) fun h=>?_
   ·cases h;cases k0;exact rfl
   exact rE (a,(IntKind.wrap IntKind.i64 (b+(1:Int)))) [] h
  exact qE []
 exact qR
theorem uG{n r}(h:nj F n=some r):FZ ml 169 [] [aI n] (.agg (bW.c r)) []:=by
 refine fA Tryz.func169 ?_
 unfold nj at h;exact qR
theorem Ed{kind fields r}(h:qO F kind fields=some r):FZ ml 168 [] [aI kind,sM bW.c fields] (sM cB r) []:=by
 refine fA Tryz.func168 ?_
 unfold qO at h
 (conv=>whnf);left;(conv=>whnf);refine cL h uG fun a h=>?_;(conv=>whnf);left;(conv=>whnf);refine aX ?_;(conv=>whnf);refine aX ?_;(conv=>whnf);refine gS h fun h=>?_;(conv=>whnf);left;obtain⟨b,hy,h⟩:=dS h;refine⟨_,_,(lg (bZ (YF AV.sl rQ) rfl) (eT (DX hy) rfl)),Or.inr ⟨[192],rfl,?_⟩⟩;exact qR
theorem MH{s r}(h:xP F s=some r):FZ ml 170 [] [.str s] (.agg (bW.c r)) []:=by
 refine fA Tryz.func170 ?_
 unfold xP at h;exact qR
end Go.T
