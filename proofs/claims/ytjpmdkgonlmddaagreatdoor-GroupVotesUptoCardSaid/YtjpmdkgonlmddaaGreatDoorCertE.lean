import Derived.Test.YtjpmdkgonlmddaaGreatDoorCertD
set_option linter.unusedVariables false
set_option maxRecDepth 200000
set_option maxHeartbeats 4000000
namespace Go.T
open Go Go.Ab Go.Proofs
variable {ml:Gv}{F:Nat}
theorem XA{id c l m r}(h:BK F id c l m=some r):FZ ml 73 (T6 c l m) [pp 0,aI id] (.bN [.agg (bQ.c r.1),.bool r.2.1]) (yQ r.2.2.1 m r.2.2.2):=by
 refine fG Tryz.func73 ?_
 unfold BK at h
 (conv=>whnf);left;(conv=>whnf);refine cH [0,1,2] h H9 fun a h=>?_;(conv=>whnf);refine jN h fun b=>jM [(0,pp 0),(4,pp 3),(6,aI a),(23,.bool b)] (T6 c l m++[(3,rF Nr)]) 4 (fun h=>?_) fun h=>?_
 ·(conv=>whnf);left;refine bS h (fun h=>qE [(0,0),(1,1),(2,2),(3,32)]) fun h=>?_;(conv=>whnf);refine gX h fun h=>?_;(conv=>whnf);refine oB h fun d h=>?_;(conv=>whnf);refine oB h fun e h=>?_;(conv=>whnf);exact cH [0,1,2] h Xi fun f h=>qE [(0,0),(1,1),(2,2),(3,32)]
 (conv=>whnf);left;refine bS h (fun h=>qG [(0,0),(2,2),(3,1)]) fun h=>?_;(conv=>whnf);exact cG [0,1,2] h M0 fun g h=>qG [(0,0),(1,1),(2,2),(3,71)]
theorem Vu{a r}(h:Bt F a=some r):FZ ml 32 [] [.str a] (.bN [aI r.1,.bool r.2]) []:=by
 refine fA Tryz.func32 ?_
 unfold Bt at h
 (conv=>whnf);refine jS h fun o4 vu=>jT [] [] 0 (fun h k4 e=>?_) fun h=>?_
 ·(conv=>whnf);left;(conv=>whnf);refine lI (fun n' x'=>yy F a n' x'.1 x'.2) (fun x'=>[(0,.str a),(4,aI x'.1),(5,aI x'.2)]) (fun x'=>[]) 0 ((0:Int),(9:Int)) [] h ?_;rintro d ⟨b,j⟩ h;dsimp only at h;rw[yy.eq_2]at h;(conv=>whnf);left;refine bS h (fun h=>?_) fun h=>?_
  ·(conv=>whnf);left;(conv=>whnf);refine gX h fun h=>?_;obtain⟨f,hy,h⟩:=dS h;refine fm f hy ?_;(conv=>whnf);refine jN h fun c=>jM [(0,.str a),(4,aI b),(5,aI c)] [] 0 (fun h=>qE []) fun h=>?_;(conv=>whnf);left;refine bS h (fun h=>?_) fun h=>?_
   ·(conv=>whnf);left;(conv=>whnf);refine gX h fun h=>?_;obtain⟨g,hy,h⟩:=dS h;refine fm g hy ?_;(conv=>whnf);refine bS h (fun h=>?_) fun h=>?_
    ·(conv=>whnf);refine gX h fun h=>?_;obtain⟨i,hy,h⟩:=dS h;refine fm i hy ?_;(conv=>whnf);refine aX ?_;cases h;cases k4;exact rfl
    (conv=>whnf);refine aX ?_;cases h;cases k4;exact rfl
   exact rE (d,(IntKind.wrap IntKind.i64 (b+(1:Int))),c) [] h
  exact qE []
 exact qR
theorem U8{f n r}(h:D2 F f n=some r):FZ ml 34 [] [sM bW.c f,aI n] (.agg [aI r.1,aI r.2.1,aI r.2.2.1,aI r.2.2.2.1,aI r.2.2.2.2.1,aI r.2.2.2.2.2.1,aI r.2.2.2.2.2.2.1,.bool r.2.2.2.2.2.2.2.1,.an 0 2,.str r.2.2.2.2.2.2.2.2.1]) [(0,rT bj.c r.2.2.2.2.2.2.2.2.2)]:=by
 refine fG Tryz.func34 ?_
 unfold D2 at h
 (conv=>whnf);refine Or.inr (K0 8 2 _ rfl rfl ?_);(conv=>whnf);refine aX ?_;(conv=>whnf);refine oB h fun a h=>?_;(conv=>whnf);refine aX ?_;(conv=>whnf);refine oB h fun b h=>?_;(conv=>whnf);refine aX ?_;(conv=>whnf);refine oB h fun d h=>?_;(conv=>whnf);refine aX ?_;(conv=>whnf);refine oB h fun e h=>?_;(conv=>whnf);refine aX ?_;(conv=>whnf);refine oB h fun g h=>?_;(conv=>whnf);refine aX ?_;(conv=>whnf);refine oB h fun i h=>?_;(conv=>whnf);refine aX ?_;(conv=>whnf);refine oB h fun j h=>?_;(conv=>whnf);refine aX ?_;(conv=>whnf);refine oB h fun k h=>?_;(conv=>whnf);refine gS h fun h=>?_;(conv=>whnf);refine oB h fun l h=>?_;(conv=>whnf);refine Or.inr (A5 8 2 _ rfl rfl ?_);(conv=>whnf);refine Or.inr (K0 8 2 _ rfl rfl ?_);(conv=>whnf);refine aX ?_;(conv=>whnf);refine jN h fun m=>jM [(4,pp 0),(5,pp 1)] [(0,rF [aI 0,aI 0,aI 0,aI 0,aI 0,aI 0,aI 0,.bool false,.an 2 2,.str []]),(1,rF [aI a.N,aI b.N,aI d.N,aI e.N,aI g.N,aI i.N,aI j.N,.bool (k.N==(1:Int)),.an 3 2,.str l.S]),(2,rT bj.c []),(3,rT bj.c m)] 4 (fun h=>?_) fun h=>?_
 ·(conv=>whnf);left;(conv=>whnf);refine lI (fun n' x'=>yz F f n n' x'.1 x'.2) (fun x'=>[(0,sM bW.c f),(4,pp 0),(5,pp 1),(48,aI n),(49,aI x'.1)]) (fun x'=>[(0,rF [aI 0,aI 0,aI 0,aI 0,aI 0,aI 0,aI 0,.bool false,.an 2 2,.str []]),(1,rF [aI a.N,aI b.N,aI d.N,aI e.N,aI g.N,aI i.N,aI j.N,.bool (k.N==(1:Int)),.an 3 2,.str l.S]),(2,rT bj.c []),(3,rT bj.c x'.2)]) 4 ((0:Int),[]) [(0,32),(1,1376),(2,33),(3,1344)] h ?_;rintro o ⟨p,q⟩ h;dsimp only at h;rw[yz.eq_2]at h;(conv=>whnf);left;refine bS h (fun h=>?_) fun h=>?_
  ·(conv=>whnf);left;(conv=>whnf);refine gX h fun h=>?_;(conv=>whnf);refine oB h fun s h=>?_;(conv=>whnf);refine gX h fun h=>?_;(conv=>whnf);refine oB h fun t h=>?_;(conv=>whnf);left;(conv=>whnf);left;(conv=>whnf);refine aX ?_;(conv=>whnf);refine aX ?_;(conv=>whnf);refine gS h fun h=>?_;(conv=>whnf);left;(conv=>whnf);refine aX ?_;exact rE (o,(IntKind.wrap IntKind.i64 (p+(1:Int))),(q++((bj.mk s.N t.S)::[]))) [(0,0),(1,1),(2,2),(3,676)] h
  exact qE (ii 4 [])
 exact qG [(0,3)]
theorem UW{b r}(h:Bv F b=some r):FZ ml 11 [] [.str b] (.bN [.agg (bV.c r.1),aI r.2]) []:=by
 refine fK Tryz.func11 ?_
 unfold Bv at h
 (conv=>whnf);left;(conv=>whnf);left;(conv=>whnf);left;(conv=>whnf);refine cL h Vu fun a h=>?_;(conv=>whnf);left;refine bS h (fun h=>qK) fun h=>?_;(conv=>whnf);refine jN h fun d=>jM [(0,.str b),(2,pp 0),(4,.an 1 1),(5,aI a.1)] [(0,rF [aI 0,aI 0,aI 0,aI 0,aI 0,aI 0,aI 0,.bool false,.dq,.str []]),(1,rT cJ d)] 2 (fun h=>?_) fun h=>?_
 ·(conv=>whnf);left;(conv=>whnf);refine lI (fun n' x'=>yg F a n' x'.1 x'.2) (fun x'=>[(0,.str b),(2,pp 0),(4,.an 1 1),(5,aI a.1),(18,aI a.1),(19,aI x'.1)]) (fun x'=>[(0,rF [aI 0,aI 0,aI 0,aI 0,aI 0,aI 0,aI 0,.bool false,.dq,.str []]),(1,rT cJ x'.2)]) 2 ((0:Int),((1:Int)::((1:Int)::((1:Int)::((1:Int)::((1:Int)::((1:Int)::((1:Int)::((1:Int)::((1:Int)::[])))))))))) [(0,32),(1,96)] h ?_;rintro e ⟨f,g⟩ h;dsimp only at h;rw[yg.eq_2]at h;(conv=>whnf);left;refine bS h (fun h=>?_) fun h=>?_
  ·(conv=>whnf);left;(conv=>whnf);left;(conv=>whnf);refine And.intro (dU.cons rfl (dU.cons rfl dU.nil)) ?_;(conv=>whnf);refine aX ?_;(conv=>whnf);refine gS h fun h=>?_;exact rE (e,(IntKind.wrap IntKind.i64 (f+(1:Int))),(g++((1:Int)::((3:Int)::[])))) [(0,0),(1,98)] h
  exact qE [(0,0),(1,1)]
 (conv=>whnf);left;(conv=>whnf);refine aX ?_;(conv=>whnf);refine aX ?_;(conv=>whnf);refine gS h fun h=>?_;(conv=>whnf);refine gX h fun h=>?_;(conv=>whnf);left;obtain⟨i,hy,h⟩:=dS h;refine⟨_,_,(lg (bZ (YF AV.sl rQ) (bZ (YF AV.sl rQ) rfl)) (eT (DW hy) rfl)),Or.inr ⟨[66,130],rfl,?_⟩⟩;(conv=>whnf);refine jN h fun j=>jM [(2,pp 0),(5,aI a.1),(7,sM bW.c i.2),(42,.bool j)] [(0,rF [aI 0,aI 0,aI 0,aI 0,aI 0,aI 0,aI 0,.bool false,.dq,.str []])] 1 (fun h=>?_) fun h=>?_
 ·(conv=>whnf);left;refine bS h (fun h=>qE [(0,0)]) fun h=>?_;(conv=>whnf);refine aX ?_;(conv=>whnf);refine oB h fun k h=>?_;exact qE [(0,0)]
 (conv=>whnf);left;refine bS h (fun h=>qK) fun h=>?_;(conv=>whnf);left;(conv=>whnf);exact cR h (fun h=>eT (U8 h) rfl) fun l h=>qK
theorem Xa{m rf l a b d r}(h:BX F m rf l a b d=some r):FZ ml 110 (T1 rf l a b d) [pp 0,.agg (bV.c m)] (.bool r) (T1 rf l a b d):=by
 refine fG Tryz.func110 ?_
 unfold BX at h
 (conv=>whnf);left;(conv=>whnf);refine jN h fun i=>jM [(3,pp 5),(56,.bool i)] (T1 rf l a b d++[(5,rF (bV.c m))]) 6 (fun h=>?_) fun h=>?_
 ·(conv=>whnf);left;refine bS h (fun h=>qE (ii 5 [(5,32)])) fun h=>?_;(conv=>whnf);refine bS h (fun h=>qE (ii 5 [(5,32)])) fun h=>?_;(conv=>whnf);refine bS h (fun h=>qE (ii 5 [(5,32)])) fun h=>?_;(conv=>whnf);refine bS h (fun h=>qE (ii 5 [(5,32)])) fun h=>?_;(conv=>whnf);left;(conv=>whnf);exact cL h wZ fun o h=>qE (ii 5 [(5,32)])
 (conv=>whnf);left;refine bS h (fun h=>qG (ii 5 [])) fun h=>?_;(conv=>whnf);refine jN h fun j=>jM [(3,pp 5),(98,.bool j)] (T1 rf l a b d++[(5,rF (bV.c m))]) 6 (fun h=>qE (ii 6 [])) fun h=>?_;(conv=>whnf);left;refine bS h (fun h=>qG (ii 5 [])) fun h=>?_;(conv=>whnf);refine jS h fun o6 vu=>jT [] (T1 rf l a b d) 5 (fun h k6 e=>?_) fun h=>?_
 ·(conv=>whnf);left;(conv=>whnf);refine lI (fun n' x'=>wN F m n' x'.1 x'.2) (fun x'=>[(3,pp 5),(5,aI x'.1),(102,sM bj.c m.Entries),(103,aI (@Nat.cast Int instNatCastInt (List.length (List.map bj.c m.Entries)))),(104,aI x'.2)]) (fun x'=>(T1 rf l a b d++[(5,rF (bV.c m))])) 6 (m.da,(0:Int)) (ii 6 []) h ?_;rintro k ⟨p,f⟩ h;dsimp only at h;rw[wN.eq_2]at h;(conv=>whnf);left;refine bS h (fun h=>?_) fun h=>?_
  ·(conv=>whnf);left;(conv=>whnf);refine gX h fun h=>?_;(conv=>whnf);refine oB h fun g h=>?_;(conv=>whnf);left;(conv=>whnf);refine jN h fun n=>jM [(3,pp 5),(7,pp 6),(102,sM bj.c m.Entries),(103,aI (@Nat.cast Int instNatCastInt (List.length (List.map bj.c m.Entries)))),(104,aI f),(125,.bool n)] (T1 rf l a b d++[(5,rF (bV.c m)),(6,rF (bj.c g))]) 7 (fun h=>qE (ii 6 [(6,102)])) fun h=>?_;(conv=>whnf);left;refine bS h (fun h=>?_) fun h=>?_
   ·cases h;cases k6;exact gI (ii 5 [])
   exact rE (k,g.Term,(IntKind.wrap IntKind.i64 (f+(1:Int)))) (ii 6 []) h
  exact qE (ii 5 [])
 exact qG (ii 5 [])
theorem Xj{m rf l a b d r}(h:BD F m rf l a b d=some r):FZ ml 111 (T1 rf l a b d) [pp 0,.agg (bV.c m)] (.bN []) (xa r.1 r.2.1 r.2.2.1 r.2.2.2.1 r.2.2.2.2):=by
 refine fG Tryz.func111 ?_
 unfold BD at h
 (conv=>whnf);left;(conv=>whnf);left;(conv=>whnf);left;refine bS h (fun h=>?_) fun h=>?_
 ·(conv=>whnf);left;obtain⟨f,hy,h⟩:=dS h;refine cW [0,1,2,3,4] (qW hy) ?_;exact qG [(0,0),(4,4),(5,1),(6,2),(7,3),(8,325)]
 (conv=>whnf);refine jN h fun e=>jM [(0,pp 0),(3,pp 5),(13,.bool e)] (T1 rf l a b d++[(5,rF (bV.c m))]) 6 (fun h=>qE (ii 5 [(5,32)])) fun h=>?_;(conv=>whnf);left;refine bS h (fun h=>?_) fun h=>?_
 ·(conv=>whnf);left;obtain⟨g,hy,h⟩:=dS h;refine cW [0,1,2,3,4] (qW hy) ?_;exact qG [(0,0),(4,4),(5,1),(6,2),(7,3),(8,139)]
 exact qG [(0,0),(5,1),(6,2),(7,3),(8,4)]
theorem MD{t n of r}(h:wB F t n of=some r):FZ ml 162 [] [.agg (cD.c t),aI n,aI of] (.bool r) []:=by
 refine fA Tryz.func162 ?_
 unfold wB at h
 (conv=>whnf);left;(conv=>whnf);left;(conv=>whnf);refine cL h uJ fun a h=>?_;(conv=>whnf);left;refine bS h (fun h=>qR) fun h=>?_;(conv=>whnf);left;(conv=>whnf);exact cL h wF fun b h=>qR
theorem VF{m rf l a b d r}(h:BI F m rf l a b d=some r):FZ ml 112 (T1 rf l a b d) [pp 0,.agg (bV.c m)] (.bN []) (Iv r.1 l a b r.2):=by
 refine fG Tryz.func112 ?_
 unfold BI at h
 (conv=>whnf);left;(conv=>whnf);refine jN h fun e=>jM [(0,pp 0),(3,pp 5),(4,.bool e)] (T1 rf l a b d++[(5,rF (bV.c m))]) 6 (fun h=>?_) fun h=>?_
 ·(conv=>whnf);left;refine bS h (fun h=>?_) fun h=>?_
  ·(conv=>whnf);refine bS h (fun h=>?_) fun h=>?_
   ·(conv=>whnf);left;(conv=>whnf);exact cL h MD fun g h=>qE (ii 5 [(5,32)])
   exact qE (ii 5 [(5,32)])
  (conv=>whnf);refine bS h (fun h=>?_) fun h=>?_
  ·(conv=>whnf);refine bS h (fun h=>?_) fun h=>?_
   ·(conv=>whnf);left;(conv=>whnf);exact cL h MD fun i h=>qE (ii 5 [(5,32)])
   exact qE (ii 5 [(5,32)])
  exact qE (ii 5 [(5,32)])
 (conv=>whnf);refine jN h fun f=>jM [(0,pp 0),(3,pp 5),(4,.bool e)] (T1 f l a b d++[(5,rF (bV.c m))]) 6 (fun h=>qE (ii 6 [])) fun h=>?_;(conv=>whnf);left;obtain⟨j,hy,h⟩:=dS h;refine cW [0,1,2,3,4] (qW hy) ?_;exact qG (ii 5 [(5,171)])
theorem VU{m rf l a b d r}(h:wQ F m rf l a b d=some (Sum.inl r)):FZ ml 113 (T1 rf l a b d) [pp 0,.agg (bV.c m)] (.bN []) (xa r.1 r.2.1 r.2.2.1 r.2.2.2.1 r.2.2.2.2):=by
 refine fG Tryz.func113 ?_
 unfold wQ at h
 (conv=>whnf);left;(conv=>whnf);refine jN h fun e=>jM [(0,pp 0),(3,pp 5),(24,.bool e)] (T1 rf l a b d++[(5,rF (bV.c m))]) 6 (fun h=>?_) fun h=>?_
 ·(conv=>whnf);left;refine bS h (fun h=>qE (ii 5 [(5,32)])) fun h=>?_;(conv=>whnf);refine bS h (fun h=>qE (ii 5 [(5,32)])) fun h=>?_;(conv=>whnf);left;(conv=>whnf);exact cL h wZ fun f h=>qE (ii 5 [(5,32)])
 (conv=>whnf);left;refine bS h (fun h=>qG [(0,0),(5,1),(6,2),(7,3),(8,4)]) fun h=>?_;(conv=>whnf);left;(conv=>whnf);refine aX ?_;(conv=>whnf);refine aX ?_;(conv=>whnf);refine gS h fun h=>?_;(conv=>whnf);left;(conv=>whnf);refine aX ?_;(conv=>whnf);left;(conv=>whnf);refine cL h (fun h=>aE (yk h)) fun g h=>?_;(conv=>whnf);refine aX ?_;(conv=>whnf);left;refine bS h (fun h=>?_) fun h=>?_
 ·(conv=>whnf);refine cG [0,294,2,3,4] h BN fun i h=>?_;cases h
 cases h;exact gE [(0,0),(1,1),(5,294),(6,2),(7,3),(8,4)]
theorem VV{m rf l a b d r}(h:wQ F m rf l a b d=some (Sum.inr r)):FZ ml 113 (T1 rf l a b d) [pp 0,.agg (bV.c m)] (.bN []) [(0,rF (cy.c r.1++[.an 5 1,.an 6 1,.an 7 1,.an 8 10])),(2,rT cJ r.2.1),(3,rT cJ r.2.2.1),(5,rT cJ r.2.2.2.1),(6,rT cJ r.2.2.2.2.1),(7,rT cJ r.2.2.2.2.2.1),(8,rT bV.c r.2.2.2.2.2.2)]:=by
 refine fG Tryz.func113 ?_
 unfold wQ at h
 (conv=>whnf);left;(conv=>whnf);refine jN h fun e=>jM [(0,pp 0),(3,pp 5),(24,.bool e)] (T1 rf l a b d++[(5,rF (bV.c m))]) 6 (fun h=>?_) fun h=>?_
 ·(conv=>whnf);left;refine bS h (fun h=>qE (ii 5 [(5,32)])) fun h=>?_;(conv=>whnf);refine bS h (fun h=>qE (ii 5 [(5,32)])) fun h=>?_;(conv=>whnf);left;(conv=>whnf);exact cL h wZ fun f h=>qE (ii 5 [(5,32)])
 (conv=>whnf);left;refine bS h (fun h=>?_) fun h=>?_
 ·cases h
 (conv=>whnf);left;(conv=>whnf);refine aX ?_;(conv=>whnf);refine aX ?_;(conv=>whnf);refine gS h fun h=>?_;(conv=>whnf);left;(conv=>whnf);refine aX ?_;(conv=>whnf);left;(conv=>whnf);refine cL h (fun h=>aE (yk h)) fun g h=>?_;(conv=>whnf);refine aX ?_;(conv=>whnf);left;refine bS h (fun h=>?_) fun h=>?_
 ·(conv=>whnf);exact cG [0,294,2,3,4] h BN fun i h=>qG (ii 5 [(5,843),(6,844),(7,845),(8,846)])
 cases h
theorem VE{m rf l a b d r}(h:BH F m rf l a b d=some r):FZ ml 114 (T1 rf l a b d) [pp 0,.agg (bV.c m)] (.bN []) (xa r.1 r.2.1 r.2.2.1 r.2.2.2.1 r.2.2.2.2):=by
 refine fG Tryz.func114 ?_
 unfold BH at h
 (conv=>whnf);left;(conv=>whnf);refine jN h fun e=>jM [(0,pp 0),(3,pp 5),(17,.bool e)] (T1 rf l a b d++[(5,rF (bV.c m))]) 6 (fun h=>?_) fun h=>?_
 ·(conv=>whnf);left;refine bS h (fun h=>qE (ii 5 [(5,32)])) fun h=>?_;(conv=>whnf);exact cH [0,1,2,3,4] h uN fun f h=>qE (ii 5 [(5,32)])
 (conv=>whnf);left;refine bS h (fun h=>qG [(0,0),(5,1),(6,2),(7,3),(8,4)]) fun h=>?_;(conv=>whnf);left;(conv=>whnf);refine cL h Io fun g h=>?_;(conv=>whnf);refine aX ?_;(conv=>whnf);left;refine bS h (fun h=>?_) fun h=>?_
 ·(conv=>whnf);refine gX h fun h=>?_;(conv=>whnf);refine oB h fun i h=>?_;(conv=>whnf);refine oB h fun j h=>?_;(conv=>whnf);refine gX h fun h=>?_;(conv=>whnf);refine oB h fun k h=>?_;(conv=>whnf);refine oB h fun n h=>?_;(conv=>whnf);refine gX h fun h=>?_;(conv=>whnf);refine oB h fun o h=>?_;(conv=>whnf);refine oB h fun p h=>?_;(conv=>whnf);refine aX ?_;(conv=>whnf);exact cG [0,1,2,3,4] h H' fun q h=>qG [(0,0),(4,4),(5,1),(6,2),(7,3),(8,1451)]
 (conv=>whnf);refine gX h fun h=>?_;(conv=>whnf);refine oB h fun s h=>?_;(conv=>whnf);refine oB h fun t h=>?_;(conv=>whnf);refine gX h fun h=>?_;(conv=>whnf);refine oB h fun u h=>?_;(conv=>whnf);refine oB h fun v h=>?_;(conv=>whnf);refine aX ?_;(conv=>whnf);refine gX h fun h=>?_;(conv=>whnf);refine oB (c:=bG IntKind.i64) h fun w h=>?_;(conv=>whnf);refine oB (c:=bG IntKind.i64) h fun x h=>?_;(conv=>whnf);refine gX h fun h=>?_;(conv=>whnf);refine oB h fun y h=>?_;(conv=>whnf);refine oB h fun z h=>?_;(conv=>whnf);refine aX ?_;(conv=>whnf);refine cG [0,1,2,3,4] h Il fun A h=>?_;(conv=>whnf);refine gX h fun h=>?_;(conv=>whnf);refine oB h fun B h=>?_;(conv=>whnf);refine oB h fun C h=>?_;(conv=>whnf);refine cH [0,1,2,3,4] h uN fun D h=>?_;(conv=>whnf);refine aX ?_;(conv=>whnf);left;refine bS h (fun h=>?_) fun h=>?_
 ·(conv=>whnf);exact cG [0,1,2,3,4] h H' fun E h=>qG [(0,0),(4,4),(5,1),(6,2),(7,3),(8,2027)]
 exact qG [(0,0),(5,1),(6,2),(7,3),(8,4)]
theorem MS{m rf l a b d r}(h:ym F m rf l a b d=some r):FZ ml 164 (T1 rf l a b d) [pp 0,.agg (bV.c m)] (.bN []) [(0,rF (cy.c r++[.an 5 1,.an 2 1,.an 3 1,.an 4 10])),(1,rT cJ l),(2,rT cJ a),(3,rT cJ b),(4,rT bV.c d),(5,.rows true [])]:=by
 refine fG Tryz.func164 ?_
 unfold ym at h
 (conv=>whnf);left;(conv=>whnf);refine Or.inr (ij 1 _ _ rfl rfl rfl ?_);exact qG (ii 5 [(5,640)])
theorem UO{t a of b fixed r}(h:A7 F t a of b fixed=some r):FZ ml 165 [] [.agg (cD.c t),aI a,aI of,sM bj.c b,aI fixed] (.bN [.agg (cD.c r.1),.bool r.2]) []:=by
 refine fK Tryz.func165 ?_
 unfold A7 at h
 (conv=>whnf);left;(conv=>whnf);left;(conv=>whnf);refine jN h fun j=>jM [(1,aI a),(2,aI of),(3,sM bj.c b),(4,aI fixed),(5,pp 0),(10,pp 1),(32,.bool j)] (w9 t 0 0) 2 (fun h=>?_) fun h=>?_
 ·(conv=>whnf);left;(conv=>whnf);left;(conv=>whnf);refine cL h uJ fun q h=>?_;(conv=>whnf);refine bS h (fun h=>qE [(0,32),(1,64)]) fun h=>?_;(conv=>whnf);refine bS h (fun h=>qE [(0,32),(1,64)]) fun h=>?_;(conv=>whnf);refine bS h (fun h=>qE [(0,32),(1,64)]) fun h=>?_;(conv=>whnf);left;(conv=>whnf);exact cL h H7 fun s h=>qE [(0,32),(1,64)]
 (conv=>whnf);left;refine bS h (fun h=>qK) fun h=>?_;(conv=>whnf);refine jS h fun o1 ⟨d,k,f⟩=>jT [(1,aI (d)),(2,aI (k)),(3,sM bj.c f),(4,aI fixed),(5,pp 0),(10,pp 1)] (w9 t 0 0) 2 (fun h k1 e=>?_) fun h=>?_
 ·(conv=>whnf);left;refine bS h (fun h=>?_) fun h=>?_
  ·(conv=>whnf);left;refine bS h (fun h=>?_) fun h=>?_
   ·(conv=>whnf);left;(conv=>whnf);refine cR h (fun h=>aW (D3 h)) fun u h=>?_;cases h;cases k1;exact kV
   (conv=>whnf);refine gX h fun h=>?_;(conv=>whnf);refine oB h fun v h=>?_;(conv=>whnf);refine aX ?_;(conv=>whnf);left;refine bS h (fun h=>?_) fun h=>?_
   ·(conv=>whnf);left;cases h;cases k1;exact kV
   (conv=>whnf);refine aX ?_;(conv=>whnf);refine gX h fun h=>?_;(conv=>whnf);refine gS h fun h=>?_;(conv=>whnf);refine gS h fun h=>?_;(conv=>whnf);refine aX ?_;cases h;cases e;exact eV [(0,0),(1,1)]
  exact qE [(0,0),(1,1)]
 (conv=>whnf);left;(conv=>whnf);refine cL h ya fun w h=>?_;(conv=>whnf);refine jN h fun l=>jM [(1,aI d),(3,sM bj.c f),(4,aI fixed),(5,pp 0),(10,pp 1),(80,.bool l)] (w9 t 0 0) 2 (fun h=>qE [(0,0),(1,1)]) fun h=>?_;(conv=>whnf);left;refine bS h (fun h=>qK) fun h=>?_;(conv=>whnf);refine jN h fun⟨m,n⟩=>jM [(3,sM bj.c m),(4,aI fixed),(5,pp 0),(10,pp 1),(15,aI n)] (w9 t 0 0) 2 (fun h=>?_) fun h=>?_
 ·(conv=>whnf);left;(conv=>whnf);refine lI (fun n' x'=>ye F t n' x'.1 x'.2) (fun x'=>[(3,sM bj.c x'.1),(4,aI fixed),(5,pp 0),(10,pp 1),(15,aI x'.2)]) (fun x'=>(w9 t 0 0)) 2 (f,(IntKind.wrap IntKind.i64 (d-t.ar))) [(0,0),(1,1)] h ?_;rintro o ⟨g,i⟩ h;dsimp only at h;rw[ye.eq_2]at h;(conv=>whnf);refine jN h fun p=>jM [(3,sM bj.c g),(4,aI fixed),(5,pp 0),(10,pp 1),(15,aI i),(108,.bool p)] (w9 t 0 0) 2 (fun h=>?_) fun h=>?_
  ·(conv=>whnf);left;refine bS h (fun h=>?_) fun h=>?_
   ·(conv=>whnf);refine bS h (fun h=>?_) fun h=>?_
    ·(conv=>whnf);refine gX h fun h=>?_;(conv=>whnf);refine oB h fun x h=>?_;(conv=>whnf);refine aX ?_;(conv=>whnf);refine oB h fun y h=>?_;exact qE [(0,0),(1,1)]
    exact qE [(0,0),(1,1)]
   exact qE [(0,0),(1,1)]
  (conv=>whnf);left;refine bS h (fun h=>?_) fun h=>?_
  ·(conv=>whnf);left;(conv=>whnf);refine aX ?_;(conv=>whnf);refine aX ?_;(conv=>whnf);refine gS h fun h=>?_;(conv=>whnf);refine gS h fun h=>?_;(conv=>whnf);refine aX ?_;exact rV (o,(List.drop (Int.toNat (1:Int)) g),(IntKind.wrap IntKind.i64 (i+(1:Int)))) [(0,0),(1,1)] h
  exact qE [(0,0),(1,1)]
 (conv=>whnf);left;refine bS h (fun h=>?_) fun h=>?_
 ·(conv=>whnf);left;(conv=>whnf);exact cR h (fun h=>aW (D3 h)) fun z h=>qK
 (conv=>whnf);left;refine bS h (fun h=>qK) fun h=>?_;(conv=>whnf);left;(conv=>whnf);exact cR h D3 fun A h=>qK
theorem Xk{m rf l a b d r}(h:BE F m rf l a b d=some r):FZ ml 115 (T1 rf l a b d) [pp 0,.agg (bV.c m)] (.bN []) [(0,rF (cy.c r.1++[.an 5 1,.an 2 1,.an 3 1,.an 6 10])),(1,rT cJ l),(2,rT cJ a),(3,rT cJ b),(5,.rows true []),(6,rT bV.c r.2)]:=by
 refine fG Tryz.func115 ?_
 unfold BE at h
 (conv=>whnf);left;(conv=>whnf);refine cG [0,1,2,3,4] h MS fun e h=>?_;(conv=>whnf);left;(conv=>whnf);refine cR h UO fun f h=>?_;(conv=>whnf);left;(conv=>whnf);refine aX ?_;(conv=>whnf);left;refine bS h (fun h=>?_) fun h=>?_
 ·(conv=>whnf);refine cH [0,133,2,3,4] h uN fun g h=>?_;(conv=>whnf);left;obtain⟨i,hy,h⟩:=dS h;refine cW [0,133,2,3,4] (qW hy) ?_;exact qG (ii 5 [(5,133),(6,1317)])
 (conv=>whnf);refine cH [0,133,2,3,4] h uN fun j h=>?_;(conv=>whnf);refine aX ?_;(conv=>whnf);left;obtain⟨k,hy,h⟩:=dS h;refine cW [0,133,2,3,4] (qW hy) ?_;exact qG (ii 5 [(5,133),(6,2309)])
theorem XD{m rf l a b d r}(h:BU F m rf l a b d=some r):FZ ml 116 (T1 rf l a b d) [pp 0,.agg (bV.c m)] (.bN []) [(0,rF (cy.c r.1++[.an 5 1,.an 2 1,.an 3 1,.an 6 10])),(1,rT cJ l),(2,rT cJ a),(3,rT cJ b),(5,.rows true []),(6,rT bV.c r.2)]:=by
 refine fG Tryz.func116 ?_
 unfold BU at h
 (conv=>whnf);left;(conv=>whnf);refine cG [0,1,2,3,4] h MS fun e h=>?_;(conv=>whnf);refine aX ?_;(conv=>whnf);refine jN h fun f=>jM [(0,pp 0),(3,pp 5)] [(0,rF (cy.c f++[.an 6 1,.an 2 1,.an 3 1,.an 4 10])),(1,rT cJ l),(2,rT cJ a),(3,rT cJ b),(4,rT bV.c d),(5,rF (bV.c m)),(6,rT cJ [])] 7 (fun h=>?_) fun h=>?_
 ·(conv=>whnf);left;refine bS h (fun h=>?_) fun h=>?_
  ·(conv=>whnf);left;(conv=>whnf);left;(conv=>whnf);left;(conv=>whnf);refine cL h ya fun n h=>?_;(conv=>whnf);refine aX ?_;(conv=>whnf);refine jN h fun g=>jM [(0,pp 0),(3,pp 5),(4,pp 6),(40,.bool g)] [(0,rF (cy.c e++[.an 7 1,.an 2 1,.an 3 1,.an 4 10])),(1,rT cJ l),(2,rT cJ a),(3,rT cJ b),(4,rT bV.c d),(5,rF (bV.c m)),(6,rF [aI m.Index,aI m.da,.dq]),(7,rT cJ [])] 8 (fun h=>?_) fun h=>?_
   ·(conv=>whnf);left;refine bS h (fun h=>?_) fun h=>?_
    ·cases h;exact eE (ii 5 [(5,32),(6,576),(7,133)])
    cases h;exact eE (ii 5 [(5,32),(6,576),(7,133)])
   (conv=>whnf);refine jN h fun⟨i,j,k⟩=>jM [(0,pp 0),(3,pp 5),(4,pp 6)] [(0,rF (cy.c e++[.an 7 1,.an 2 1,.an 3 1,.an 4 10])),(1,rT cJ l),(2,rT cJ a),(3,rT cJ b),(4,rT bV.c d),(5,rF (bV.c m)),(6,rF [aI i,aI j,sM bj.c k]),(7,rT cJ [])] 8 (fun h=>?_) fun h=>?_
   ·(conv=>whnf);left;refine bS h (fun h=>?_) fun h=>?_
    ·(conv=>whnf);left;(conv=>whnf);exact cR h HU fun o h=>qE (ii 8 [])
    cases h;exact eW (ii 8 [])
   exact qE (ii 6 [(6,7)])
  cases h;exact eE (ii 5 [(5,32),(6,133)])
 (conv=>whnf);left;obtain⟨p,hy,h⟩:=dS h;refine cW [0,6,2,3,4] (qW hy) ?_;exact qG (ii 5 [(5,6),(6,300)])
theorem Vs{r_ m r}(h:Bj F r_ m=some r):FZ ml 74 [] [.agg (bn.c r_),.agg (bV.c m)] (.bN [.agg [aI r.1,sM cJ r.2.1,aI r.2.2.1,aI r.2.2.2.1,aI r.2.2.2.2.1,aI r.2.2.2.2.2.1,aI r.2.2.2.2.2.2.1,aI r.2.2.2.2.2.2.2.1,sM bj.c r.2.2.2.2.2.2.2.2.1,.str r.2.2.2.2.2.2.2.2.2.1,aI r.2.2.2.2.2.2.2.2.2.2.1,aI r.2.2.2.2.2.2.2.2.2.2.2.1,aI r.2.2.2.2.2.2.2.2.2.2.2.2.1,.an 0 1,.an 1 1,.an 2 1],.an 3 10]) (Ca r.2.2.2.2.2.2.2.2.2.2.2.2.2.1 r.2.2.2.2.2.2.2.2.2.2.2.2.2.2.1 r.2.2.2.2.2.2.2.2.2.2.2.2.2.2.2.1++[(3,rT bV.c r.2.2.2.2.2.2.2.2.2.2.2.2.2.2.2.2)]):=by
 refine fG Tryz.func74 ?_
 unfold Bj at h
 (conv=>whnf);left;(conv=>whnf);left;(conv=>whnf);left;(conv=>whnf);left;(conv=>whnf);refine cR h DV fun a h=>?_;(conv=>whnf);refine jN h fun d=>jM [(3,pp 0),(4,pp 1),(6,pp 2),(17,.bool d)] (M9 m a.1 a.2.1 a.2.2.1 a.2.2.2.1 a.2.2.2.2) 7 (fun h=>?_) fun h=>?_
 ·(conv=>whnf);left;(conv=>whnf);left;(conv=>whnf);refine cL h pD fun p h=>?_;(conv=>whnf);refine bS h (fun h=>qE [(0,64),(1,96),(2,192),(3,193),(4,194),(5,195),(6,196)]) fun h=>?_;(conv=>whnf);exact cH [192,193,194,195,196] h Xa fun q h=>qE [(0,64),(1,96),(2,192),(3,193),(4,194),(5,195),(6,196)]
 (conv=>whnf);left;refine bS h (fun h=>?_) fun h=>?_
 ·cases h;exact gE [(0,3),(1,4),(2,5),(3,167)]
 (conv=>whnf);refine aX ?_;(conv=>whnf);refine jN h fun⟨e,f,g,i⟩=>jM [(3,pp 0),(4,pp 1),(6,pp 2)] (M9 m e f g i a.2.2.2.2) 7 (fun h=>?_) fun h=>?_
 ·(conv=>whnf);left;refine bS h (fun h=>?_) fun h=>?_
  ·(conv=>whnf);refine Or.inr (ij 1 _ _ rfl rfl rfl ?_);(conv=>whnf);refine Or.inr (ij 1 _ _ rfl rfl rfl ?_);(conv=>whnf);refine Or.inr (ij 1 _ _ rfl rfl rfl ?_);cases h;exact eE [(0,0),(1,1),(2,2),(3,1159),(4,1287),(5,1415),(6,6)]
  exact qE (ii 7 [])
 (conv=>whnf);refine aX ?_;(conv=>whnf);left;refine bS h (fun h=>?_) fun h=>?_
 ·(conv=>whnf);exact cG [2,3,4,5,6] h Xj fun s h=>qG [(0,332),(1,333),(2,334),(3,335)]
 (conv=>whnf);refine jN h fun⟨j,k,l,n,o⟩=>jM [(4,pp 0),(6,pp 1)] (Cb j k l n o) 6 (fun h=>?_) fun h=>?_
 ·(conv=>whnf);left;(conv=>whnf);left;refine bS h (fun h=>?_) fun h=>?_
  ·(conv=>whnf);exact cG [2,3,4,5,6] h VF fun t h=>qE [(0,1),(1,2),(2,3),(3,4),(4,5),(5,460)]
  (conv=>whnf);left;refine bS h (fun h=>?_) fun h=>?_
  ·obtain⟨b,hy,h⟩:=dS h;rcases b with b|b
   ·replace h:=jH h;(conv=>whnf);refine cg [2,3,4,5,6] (VU hy) ?_;exact qE [(0,1),(1,2),(2,588),(3,589),(4,590),(5,591)]
   replace h:=jI h;(conv=>whnf);refine cg [2,3,4,5,6] (VV hy) ?_;exact qE [(0,1),(1,2),(2,588),(3,589),(4,590),(5,591)]
  (conv=>whnf);left;refine bS h (fun h=>?_) fun h=>?_
  ·(conv=>whnf);exact cG [2,3,4,5,6] h VE fun u h=>qE [(0,1),(1,2),(2,716),(3,717),(4,718),(5,719)]
  (conv=>whnf);left;refine bS h (fun h=>qE [(0,1),(1,2),(2,3),(3,4),(4,5),(5,6)]) fun h=>?_;(conv=>whnf);left;refine bS h (fun h=>?_) fun h=>?_
  ·(conv=>whnf);refine cG [2,3,4,5,6] h Xk fun v h=>?_;cases h;exact eE [(0,1),(1,2),(2,1068),(3,4),(4,5),(5,1069)]
  (conv=>whnf);left;refine bS h (fun h=>?_) fun h=>?_
  ·(conv=>whnf);refine cG [2,3,4,5,6] h XD fun w h=>?_;cases h;exact eE [(0,1),(1,2),(2,1196),(3,4),(4,5),(5,1197)]
  exact qE [(0,1),(1,2),(2,3),(3,4),(4,5),(5,6)]
 exact qG [(0,2),(1,3),(2,4),(3,5)]
theorem Xs{a c e gs k tb l f g i n m r}(h:BO F a c e gs k tb l f g i n m=some r):FZ ml 55 (T0 c e gs k tb l f g i n m) [pp 0,.agg (dP.c a)] (aI r.1) (EF r.2.1 r.2.2.1 r.2.2.2.1 r.2.2.2.2.1 r.2.2.2.2.2.1 m r.2.2.2.2.2.2.1 r.2.2.2.2.2.2.2.1 r.2.2.2.2.2.2.2.2.1 r.2.2.2.2.2.2.2.2.2.1 r.2.2.2.2.2.2.2.2.2.2):=by
 refine fG Tryz.func55 ?_
 unfold BO at h
 (conv=>whnf);left;(conv=>whnf);refine cG [2,8,9] h XA fun d h=>?_;(conv=>whnf);left;(conv=>whnf);refine aX ?_;(conv=>whnf);left;refine bS h (fun h=>qG (ii 4 [(8,8),(9,9),(10,4),(11,5),(12,6),(13,7),(14,291)])) fun h=>?_;(conv=>whnf);left;(conv=>whnf);refine cR h UW fun o h=>?_;(conv=>whnf);left;obtain⟨b,hy,h⟩:=dS h;rcases b with b|b
 ·replace h:=jH h;(conv=>whnf);refine cg [0,1,2,3,4,5,6,7,291,9] (B2 hy) ?_;(conv=>whnf);exact jN h fun p=>jM [(0,pp 0),(3,pp 10),(5,pp 11),(7,pp 12),(9,AV.ei (Value.pointer none)),(43,.bool p)] (Is c e++[(1,AO.bK (eG b.2) none),(2,rF [.an 13 4,aI d.2.2.1,.aw 9]),(3,.rows true [(@dn tb)]),(4,rT bj.c l),(5,rT cJ f),(6,rT cU g),(7,rT cq.c i),(9,mP m),(10,rF (dP.c a)),(11,rF (bQ.c d.1)),(12,rF (bV.c o.1)),(13,rT bQ.c d.2.2.2)]) 14 (fun h=>qE (ii 10 [(10,32),(11,416),(12,768),(13,291)])) fun h=>qG (ii 4 [(8,8),(9,9),(10,4),(11,5),(12,6),(13,7),(14,13)])
 replace h:=jI h;(conv=>whnf);refine cg [0,1,2,3,4,5,6,7,291,9] (B3 hy) ?_;(conv=>whnf);refine jN h fun q=>jM [(0,pp 0),(3,pp 10),(5,pp 11),(7,pp 12),(9,pp 13),(43,.bool q)] (Is c e++[(1,AO.bK (eG b.2.1) (some ((Option.getD (@mix Int aa Int.instDecidableEq b.2.2.1 b.2.1) 0),13))),(2,rF [.an 14 4,aI d.2.2.1,.aw 9]),(3,.rows true [(@dn tb)]),(4,rT bj.c l),(5,rT cJ f),(6,rT cU g),(7,rT cq.c i),(9,mP m),(10,rF (dP.c a)),(11,rF (bQ.c d.1)),(12,rF (bV.c o.1)),(13,rF ([pp 15,pp 16]++bn.c b.2.2.2.1++[.bool true,aI b.2.2.2.2.1,AV.int IntKind.u32 b.2.2.2.2.2.1])),(14,rT bQ.c d.2.2.2),(15,rF [.aw 17,.an 18 2,aI b.2.2.2.2.2.2.1]),(16,rF ([pp 19]++bn.c b.2.2.2.2.2.2.2.1)),(17,fS b.2.2.2.2.2.2.2.2.1),(18,rT bp.c b.2.2.2.2.2.2.2.2.2.1),(19,rF [pp 15,.str b.2.2.2.2.2.2.2.2.2.2.1,aI b.2.2.2.2.2.2.2.2.2.2.2.1,aI b.2.2.2.2.2.2.2.2.2.2.2.2])]) 20 (fun h=>qE (ii 10 [(10,32),(11,416),(12,768),(13,970),(14,291),(15,971),(16,972),(17,973),(18,974),(19,975)])) fun h=>?_;(conv=>whnf);left;refine bS h (fun h=>?_) fun h=>?_
 ·(conv=>whnf);obtain⟨hg,h⟩:=cQ h;cases h;refine gF 1 13 b.2.1 b.2.2.1 (@Sum.inr ae af (af.mk b.2.2.2.2.2.2.2.2.1 b.2.2.2.2.2.2.2.2.2.1 b.2.2.2.2.2.2.1 b.2.2.2.2.2.2.2.2.2.2.1 b.2.2.2.2.2.2.2.2.2.2.2.1 b.2.2.2.2.2.2.2.2.2.2.2.2 b.2.2.2.2.2.2.2.1 b.2.2.2.1 b.2.2.2.2.1 b.2.2.2.2.2.1)) [13,15,17,18,16,19] ?_;exact gI (ii 4 [(8,8),(9,9),(10,4),(11,5),(12,6),(13,7),(14,14)])
 (conv=>whnf);left;(conv=>whnf);refine cR h (fun h=>eT (Vs h) rfl) fun s h=>?_;(conv=>whnf);left;(conv=>whnf);refine aX ?_;obtain⟨j,hy,h⟩:=dS h;rcases j with j|j
 ·replace h:=jH h;(conv=>whnf);refine cg [0,1,2,3,4,5,6,7,13,14,9,15,16,17,18,19] (Ih hy) ?_;exact qG (ii 10 [(10,612),(11,613),(12,614),(13,615),(14,616)])
 replace h:=jI h;(conv=>whnf);refine cg [0,1,2,3,4,5,6,7,13,14,9,15,16,17,18,19] (Ii hy) ?_;exact qG (ii 10 [(10,612),(11,613),(12,614),(13,615),(14,616)])
theorem Xo{id c l m r}(h:Ea F id c l m=some r):FZ ml 75 (T6 c l m) [pp 0,aI id] (.bool r.1) (yQ r.2.1 m r.2.2):=by
 refine fG Tryz.func75 ?_
 unfold Ea at h
 (conv=>whnf);refine cH [0,1,2] h H9 fun a h=>?_;(conv=>whnf);left;refine bS h (fun h=>qG [(0,0),(2,2),(3,1)]) fun h=>?_;(conv=>whnf);exact cG [0,1,2] h M0 fun b h=>qG [(0,0),(1,1),(2,2),(3,323)]
theorem Xc{a c b gs g tb l d e f i m r}(h:BQ F a c b gs g tb l d e f i m=some r):FZ ml 56 (T0 c b gs g tb l d e f i m) [pp 0,.agg (dP.c a)] (aI r.1) (Ng c b gs r.2.1 tb l d e f m r.2.2):=by
 refine fG Tryz.func56 ?_
 unfold BQ at h
 (conv=>whnf);left;(conv=>whnf);exact cG [2,8,9] h Xo fun j h=>qG (ii 10 [(10,291)])
theorem XB{id c l m r}(h:El F id c l m=some r):FZ ml 76 (T6 c l m) [pp 0,aI id] (.bN [aI r.1,aI r.2.1]) (yQ r.2.2.1 m r.2.2.2):=by
 refine fG Tryz.func76 ?_
 unfold El at h
 (conv=>whnf);refine cH [0,1,2] h H9 fun a h=>?_;(conv=>whnf);left;refine bS h (fun h=>qG [(0,0),(2,2),(3,1)]) fun h=>?_;(conv=>whnf);refine gX h fun h=>?_;(conv=>whnf);refine oB h fun b h=>?_;(conv=>whnf);refine oB h fun d h=>?_;(conv=>whnf);exact cG [0,1,2] h MU fun e h=>qG [(0,0),(1,1),(2,2),(3,547)]
theorem Xq{a c b gs g tb l d e f i m r}(h:BM F a c b gs g tb l d e f i m=some r):FZ ml 57 (T0 c b gs g tb l d e f i m) [pp 0,.agg (dP.c a)] (aI r.1) (Ng c b gs r.2.1 tb l d e f m r.2.2):=by
 refine fG Tryz.func57 ?_
 unfold BM at h
 (conv=>whnf);left;(conv=>whnf);exact cG [2,8,9] h XB fun j h=>qG (ii 10 [(10,291)])
theorem Vy{r_ b r}(h:Bs F r_ b=some r):FZ ml 77 [] [.agg (bn.c r_),.str b] (.bN [.agg [aI r.1,sM cJ r.2.1,aI r.2.2.1,aI r.2.2.2.1,aI r.2.2.2.2.1,aI r.2.2.2.2.2.1,aI r.2.2.2.2.2.2.1,aI r.2.2.2.2.2.2.2.1,sM bj.c r.2.2.2.2.2.2.2.2.1,.str r.2.2.2.2.2.2.2.2.2.1,aI r.2.2.2.2.2.2.2.2.2.2.1,aI r.2.2.2.2.2.2.2.2.2.2.2.1,aI r.2.2.2.2.2.2.2.2.2.2.2.2.1,.an 0 1,.an 1 1,.an 2 1],.an 3 10,aI r.2.2.2.2.2.2.2.2.2.2.2.2.2.1,aI r.2.2.2.2.2.2.2.2.2.2.2.2.2.2.1]) (Ca r.2.2.2.2.2.2.2.2.2.2.2.2.2.2.2.1 r.2.2.2.2.2.2.2.2.2.2.2.2.2.2.2.2.1 r.2.2.2.2.2.2.2.2.2.2.2.2.2.2.2.2.2.1++[(3,rT bV.c r.2.2.2.2.2.2.2.2.2.2.2.2.2.2.2.2.2.2)]):=by
 refine fG Tryz.func77 ?_
 unfold Bs at h
 (conv=>whnf);left;(conv=>whnf);left;(conv=>whnf);left;(conv=>whnf);refine cR h DV fun a h=>?_;(conv=>whnf);left;(conv=>whnf);refine jN h fun d=>jM [(1,.str b),(4,pp 0),(8,pp 1),(13,.bool d)] (Cb a.1 a.2.1 a.2.2.1 a.2.2.2.1 a.2.2.2.2) 6 (fun h=>?_) fun h=>?_
 ·(conv=>whnf);left;(conv=>whnf);left;(conv=>whnf);exact cL h pD fun f h=>qE [(0,64),(1,224),(2,225),(3,226),(4,227),(5,228)]
 (conv=>whnf);left;refine bS h (fun h=>?_) fun h=>?_
 ·cases h;exact gE [(0,2),(1,3),(2,4),(3,166)]
 (conv=>whnf);refine jN h fun e=>jM [(1,.str b),(4,pp 0),(8,pp 1),(26,.bool e)] (Cb a.1 a.2.1 a.2.2.1 a.2.2.2.1 a.2.2.2.2) 6 (fun h=>qE (ii 6 [])) fun h=>?_;(conv=>whnf);left;refine bS h (fun h=>?_) fun h=>?_
 ·cases h;exact gE [(0,2),(1,3),(2,4),(3,166)]
 (conv=>whnf);left;(conv=>whnf);left;(conv=>whnf);refine cR h MJ fun g h=>?_;(conv=>whnf);left;(conv=>whnf);refine aX ?_;(conv=>whnf);left;refine bS h (fun h=>?_) fun h=>?_
 ·cases h;exact gE [(0,2),(1,3),(2,4),(3,838)]
 (conv=>whnf);refine cG [1,2,3,4,5] h MT fun i h=>?_;(conv=>whnf);refine cG [1,2,3,4,5] h Il fun j h=>?_;(conv=>whnf);refine cG [1,2,3,4,5] h Ib fun k h=>?_;(conv=>whnf);exact cH [1,1035,1036,1037,1038] h uN fun l h=>qG [(0,1035),(1,1036),(2,1037),(3,1038)]
theorem Xt{a c e gs f tb l g i j k m r}(h:BP F a c e gs f tb l g i j k m=some r):FZ ml 58 (T0 c e gs f tb l g i j k m) [pp 0,.agg (dP.c a)] (aI r.1) (EF r.2.1 r.2.2.1 r.2.2.2.1 r.2.2.2.2.1 r.2.2.2.2.2.1 m r.2.2.2.2.2.2.1 r.2.2.2.2.2.2.2.1 r.2.2.2.2.2.2.2.2.1 r.2.2.2.2.2.2.2.2.2.1 r.2.2.2.2.2.2.2.2.2.2):=by
 refine fG Tryz.func58 ?_
 unfold BP at h
 (conv=>whnf);left;obtain⟨b,hy,h⟩:=dS h;rcases b with b|b
 ·replace h:=jH h;(conv=>whnf);refine cg [0,1,2,3,4,5,6,7,8,9] (B2 hy) ?_;exact qG (ii 4 [(9,9),(10,4),(11,5),(12,6),(13,7),(14,8)])
 replace h:=jI h;(conv=>whnf);refine cg [0,1,2,3,4,5,6,7,8,9] (B3 hy) ?_;(conv=>whnf);left;refine bS h (fun h=>?_) fun h=>?_
 ·(conv=>whnf);obtain⟨hg,h⟩:=cQ h;cases h;refine gF 1 202 b.2.1 b.2.2.1 (@Sum.inr ae af (af.mk b.2.2.2.2.2.2.2.2.1 b.2.2.2.2.2.2.2.2.2.1 b.2.2.2.2.2.2.1 b.2.2.2.2.2.2.2.2.2.2.1 b.2.2.2.2.2.2.2.2.2.2.2.1 b.2.2.2.2.2.2.2.2.2.2.2.2 b.2.2.2.2.2.2.2.1 b.2.2.2.1 b.2.2.2.2.1 b.2.2.2.2.2.1)) [202,203,205,206,204,207] ?_;exact gI (ii 4 [(9,9),(10,4),(11,5),(12,6),(13,7),(14,8)])
 (conv=>whnf);left;(conv=>whnf);refine cR h (fun h=>eT (Vy h) rfl) fun n h=>?_;(conv=>whnf);left;(conv=>whnf);refine aX ?_;(conv=>whnf);left;refine bS h (fun h=>?_) fun h=>?_
 ·(conv=>whnf);obtain⟨hg,h⟩:=cQ h;cases h;refine gF 1 202 b.2.1 b.2.2.1 (@Sum.inr ae af (af.mk b.2.2.2.2.2.2.2.2.1 b.2.2.2.2.2.2.2.2.2.1 b.2.2.2.2.2.2.1 b.2.2.2.2.2.2.2.2.2.2.1 b.2.2.2.2.2.2.2.2.2.2.2.1 b.2.2.2.2.2.2.2.2.2.2.2.2 b.2.2.2.2.2.2.2.1 b.2.2.2.1 b.2.2.2.2.1 b.2.2.2.2.2.1)) [202,203,205,206,204,207] ?_;exact gI (ii 4 [(9,9),(10,4),(11,5),(12,6),(13,7),(14,8)])
 obtain⟨d,hy,h⟩:=dS h;rcases d with d|d
 ·replace h:=jH h;(conv=>whnf);refine cg [0,1,2,3,4,5,6,7,202,8,9,203,204,205,206,207] (Ih hy) ?_;exact qG (ii 10 [(10,1264),(11,1265),(12,1266),(13,1267),(14,1268)])
 replace h:=jI h;(conv=>whnf);refine cg [0,1,2,3,4,5,6,7,202,8,9,203,204,205,206,207] (Ii hy) ?_;exact qG (ii 10 [(10,1264),(11,1265),(12,1266),(13,1267),(14,1268)])
theorem Xz{a b r}(h:H8 F a b=some r):FZ ml 78 [] [AV.ei (Value.pointer none),aI a,aI b] (.bN []) []:=by
 refine fA Tryz.func78 ?_
 unfold H8 at h;cases h
theorem Xy{a c e gs f tb l g i j k m r}(h:BV F a c e gs f tb l g i j k m=some r):FZ ml 59 (T0 c e gs f tb l g i j k m) [pp 0,.agg (dP.c a)] (aI r.1) (T0 c e r.2 f tb l g i j k m):=by
 refine fG Tryz.func59 ?_
 unfold BV at h
 (conv=>whnf);left;obtain⟨b,hy,h⟩:=dS h;rcases b with b|b
 ·replace h:=jH h;(conv=>whnf);refine cg [0,1,2,3,4,5,6,7,8,9] (B2 hy) ?_;(conv=>whnf);refine jN h fun o0=>jM [(6,aI b.1)] (T0 c e b.2 f tb l g i j k m) 10 (fun h=>?_) fun h=>?_
  ·(conv=>whnf);left;refine bS h (fun h=>?_) fun h=>?_
   ·(conv=>whnf);left;(conv=>whnf);exact cL h Xz fun n h=>qE (ii 10 [])
   exact qE (ii 10 [])
  exact qG (ii 10 [])
 replace h:=jI h;(conv=>whnf);refine cg [0,1,2,3,4,5,6,7,8,9] (B3 hy) ?_;(conv=>whnf);left;refine bS h (fun h=>?_) fun h=>?_
 ·(conv=>whnf);refine cG [202,203,204,205,206,207] h Es fun d h=>?_;(conv=>whnf);obtain⟨hg,h⟩:=cQ h;cases h;refine gF 1 202 b.2.1 b.2.2.1 (@Sum.inl ae af (ae.mk d.2.2.2.2 [] d.2.2.2.1 d.1 d.2.1 d.2.2.1)) [202,203,205,614] ?_;exact gI (ii 10 [])
 (conv=>whnf);obtain⟨hg,h⟩:=cQ h;cases h;refine gF 1 202 b.2.1 b.2.2.1 (@Sum.inr ae af (af.mk b.2.2.2.2.2.2.2.2.1 b.2.2.2.2.2.2.2.2.2.1 b.2.2.2.2.2.2.1 b.2.2.2.2.2.2.2.2.2.2.1 b.2.2.2.2.2.2.2.2.2.2.2.1 b.2.2.2.2.2.2.2.2.2.2.2.2 b.2.2.2.2.2.2.2.1 b.2.2.2.1 b.2.2.2.2.1 b.2.2.2.2.2.1)) [202,203,205,206,204,207] ?_;exact gI (ii 10 [])
theorem Xw{id c e rf b d gs gk f tb l g i j n k m fs o r}(h:uR F id c e rf b d gs gk f tb l g i j n k m fs o=some r):FZ ml 42 (Ni c e rf false b d gs gk f tb l g i j n k m fs o) [pp 0,aI id,pp 1] (aI r.1) (Nh c e r.2 f tb l g i j k m):=by
 refine fG Tryz.func42 ?_
 unfold uR at h
 obtain⟨a,hy,h⟩:=dS h;rcases a with a|a
 ·replace h:=jH h;(conv=>whnf);refine cg [9,12,13] (Mz hy) ?_;(conv=>whnf);left;(conv=>whnf);refine aX ?_;(conv=>whnf);left;refine bS h (fun h=>?_) fun h=>?_
  ·(conv=>whnf);obtain⟨hg,h⟩:=cQ h;cases h;refine gF 2 1 gs gk (@Sum.inl ae af (ae.mk a.2.2.2.1 a.2.2.2.2 a.2.2.1 rf b d)) [1,9,12,355] ?_;exact gI (ii 14 [])
  (conv=>whnf);refine aX ?_;(conv=>whnf);left;(conv=>whnf);refine cL h wL fun q h=>?_;cases h
 replace h:=jI h;rcases a with a|a
 ·replace h:=jH h;(conv=>whnf);refine cg [9,12,13] (MA hy) ?_;(conv=>whnf);left;(conv=>whnf);refine aX ?_;(conv=>whnf);left;refine bS h (fun h=>?_) fun h=>?_
  ·(conv=>whnf);obtain⟨hg,h⟩:=cQ h;cases h;refine gF 2 1 gs gk (@Sum.inl ae af (ae.mk a.2.2.2.1 a.2.2.2.2.2 a.2.2.1 rf b d)) [1,9,12,356] ?_;exact gI (ii 14 [])
  (conv=>whnf);refine aX ?_;(conv=>whnf);left;(conv=>whnf);refine cL h wL fun s h=>?_;cases h
 replace h:=jI h;(conv=>whnf);refine cg [9,12,13] (MC hy) ?_;(conv=>whnf);left;(conv=>whnf);refine aX ?_;(conv=>whnf);left;refine bS h (fun h=>?_) fun h=>?_
 ·(conv=>whnf);obtain⟨hg,h⟩:=cQ h;cases h;refine gF 2 1 gs gk (@Sum.inl ae af (ae.mk a.2.2.2.1 a.2.2.2.2.2.1 a.2.2.1 rf b d)) [1,9,12,356] ?_;exact gI (ii 14 [])
 (conv=>whnf);refine aX ?_;(conv=>whnf);left;(conv=>whnf);refine cL h wL fun p h=>?_;(conv=>whnf);obtain⟨hg,h⟩:=cQ h;cases h;refine gF 2 1 gs gk (@Sum.inr ae af (af.mk a.2.2.2.1 a.2.2.2.2.2.1 a.2.2.1 a.2.2.2.2.2.2.1 a.2.2.2.2.2.2.2.1 a.2.2.2.2.2.2.2.2 a.2.2.2.2.1 a.1 p.1 p.2)) [1,9,12,356,355,357] ?_;exact gI (ii 14 [])
theorem Xu{a c d gs e tb l f i j k m r}(h:B5 F a c d gs e tb l f i j k m=some r):FZ ml 60 (T0 c d gs e tb l f i j k m) [pp 0,.agg (dP.c a)] (aI r.1) (T0 c d r.2 e tb l f i j k m):=by
 refine fG Tryz.func60 ?_
 unfold B5 at h
 (conv=>whnf);left;(conv=>whnf);refine aX ?_;(conv=>whnf);refine CP h (fun hm h=>?_) (fun o hm h=>?_) (fun n hm h=>?_)
 ·refine DH (ek:=(fun(b:Int)=>(AV.int IntKind.i64 b))) (gN:=aa.g) gs a.Node (.ei (.pointer none)) rfl rfl (jK Tryz.underlying3) hm ⟨96,_,by kernel_rfl,by kernel_rfl,.refl _⟩ ?_;exact qG (ii 10 [])
 ·refine uE (ek:=(fun(b:Int)=>(AV.int IntKind.i64 b))) (gN:=aa.g) gs a.Node _ rfl rfl (jK Tryz.underlying3) hm _ rfl rfl ?_;(conv=>whnf);refine aX ?_;(conv=>whnf);left;(conv=>whnf);left;(conv=>whnf);left;(conv=>whnf);exact cG [0,288,1,2,3,4,5,6,7,289,8,9,290,291] h Xw fun p h=>qG (ii 10 [])
 refine uE (ek:=(fun(b:Int)=>(AV.int IntKind.i64 b))) (gN:=aa.g) gs a.Node _ rfl rfl (jK Tryz.underlying3) hm _ rfl rfl ?_;(conv=>whnf);refine aX ?_;(conv=>whnf);left;(conv=>whnf);left;(conv=>whnf);left;(conv=>whnf);obtain⟨hg,h⟩:=cQ h;cases h;refine gF 1 288 gs a.Node (@Sum.inr ae af n) [288,289,290,291,292,293] ?_;exact gI (ii 10 [])
theorem VD{a b c l m r}(h:D8 F a b c l m=some r):FZ ml 79 (T6 c l m) [pp 0,aI a,aI b] (.bN []) (T6 c l r):=by
 refine fG Tryz.func79 ?_
 unfold D8 at h
 (conv=>whnf);left;(conv=>whnf);left;(conv=>whnf);refine cL h HE fun e h=>?_;(conv=>whnf);refine aX ?_;(conv=>whnf);obtain⟨hg,h⟩:=dA h;refine Or.inr (PF (ek:=(fun(d:ag)=>(AV.agg (ag.c d)))) (en:=(fun(d:Int)=>(AV.int IntKind.i64 d))) m e (1:Int) rfl rfl (.refl _) rfl (fun a b=>(Hf Tryz.underlying218 _ _ _ _ _ _).trans (by cases a;cases b;simp)) hg ?_);exact qG [(0,0),(1,1),(2,2)]
theorem VS{a c b gs d tb l e f g i m r}(h:D6 F a c b gs d tb l e f g i m=some r):FZ ml 61 (T0 c b gs d tb l e f g i m) [pp 0,.agg (dP.c a)] (aI r.1) (T0 c b gs d tb l e f g i r.2):=by
 refine fG Tryz.func61 ?_
 unfold D6 at h
 (conv=>whnf);left;(conv=>whnf);exact cG [2,8,9] h VD fun j h=>qG (ii 10 [])
theorem Xh{a b c l m r}(h:Eb F a b c l m=some r):FZ ml 80 (T6 c l m) [pp 0,aI a,aI b] (.bN []) (T6 c l r):=by
 refine fG Tryz.func80 ?_
 unfold Eb at h
 (conv=>whnf);left;(conv=>whnf);left;(conv=>whnf);refine cL h HE fun e h=>?_;(conv=>whnf);refine aX ?_;(conv=>whnf);refine PE (ek:=(fun(d:ag)=>(AV.agg (ag.c d)))) (en:=(fun(d:Int)=>(AV.int IntKind.i64 d))) m e rfl rfl (fun a b=>(Hf Tryz.underlying218 _ _ _ _ _ _).trans (by cases a;cases b;simp)) ?_;exact qG [(0,0),(1,1),(2,2)]
theorem Xd{a c b gs d tb l e f g i m r}(h:Ek F a c b gs d tb l e f g i m=some r):FZ ml 62 (T0 c b gs d tb l e f g i m) [pp 0,.agg (dP.c a)] (aI r.1) (T0 c b gs d tb l e f g i r.2):=by
 refine fG Tryz.func62 ?_
 unfold Ek at h
 (conv=>whnf);left;(conv=>whnf);exact cG [2,8,9] h Xh fun j h=>qG (ii 10 [])
theorem U2{rf c a b d fs l e f g r}(h:Bo F rf c a b d fs l e f g=some r):FZ ml 82 (EE rf true c a b d fs l e f g) [pp 0] (.str r) (EE rf true c a b d fs l e f g):=by
 refine fG Tryz.func82 ?_
 unfold Bo at h
 (conv=>whnf);left;(conv=>whnf);left;(conv=>whnf);left;(conv=>whnf);left;obtain⟨i,hy,h⟩:=dS h;refine⟨_,_,(lg (bZ (YF AV.sl rQ) rfl) (eT (DX hy) rfl)),Or.inr ⟨[416],rfl,?_⟩⟩;(conv=>whnf);refine aX ?_;(conv=>whnf);obtain⟨hg,h⟩:=GL h;refine⟨_,Hm rQ hg,?_⟩;exact qG (ii 6 [])
theorem Vx{r_ dm b r}(h:Br F r_ dm b=some r):FZ ml 81 [] [.agg (bn.c r_),aI dm,.str b] (.bN [.agg [aI r.1,sM cJ r.2.1,aI r.2.2.1,aI r.2.2.2.1,aI r.2.2.2.2.1,aI r.2.2.2.2.2.1,aI r.2.2.2.2.2.2.1,aI r.2.2.2.2.2.2.2.1,sM bj.c r.2.2.2.2.2.2.2.2.1,.str r.2.2.2.2.2.2.2.2.2.1,aI r.2.2.2.2.2.2.2.2.2.2.1,aI r.2.2.2.2.2.2.2.2.2.2.2.1,aI r.2.2.2.2.2.2.2.2.2.2.2.2.1,.an 0 1,.an 1 1,.an 2 1],aI r.2.2.2.2.2.2.2.2.2.2.2.2.2.1]) (Ca r.2.2.2.2.2.2.2.2.2.2.2.2.2.2.1 r.2.2.2.2.2.2.2.2.2.2.2.2.2.2.2.1 r.2.2.2.2.2.2.2.2.2.2.2.2.2.2.2.2):=by
 refine fG Tryz.func81 ?_
 unfold Br at h
 (conv=>whnf);left;(conv=>whnf);left;(conv=>whnf);left;(conv=>whnf);refine cR h DV fun a h=>?_;(conv=>whnf);left;(conv=>whnf);refine cL h pD fun e h=>?_;(conv=>whnf);left;refine bS h (fun h=>qG [(0,161),(1,162),(2,163)]) fun h=>?_;(conv=>whnf);refine jN h fun d=>jM [(1,aI dm),(2,.str b),(6,pp 0),(8,pp 1),(39,.bool d)] (Cb a.1 a.2.1 a.2.2.1 a.2.2.2.1 a.2.2.2.2) 6 (fun h=>qE [(0,64),(1,160),(2,161),(3,162),(4,163),(5,164)]) fun h=>?_;(conv=>whnf);left;refine bS h (fun h=>qG [(0,2),(1,3),(2,4)]) fun h=>?_;(conv=>whnf);left;(conv=>whnf);exact cR h HU fun f h=>qG [(0,2),(1,3),(2,4)]
end Go.T
