import Derived.Test.YtjpmdkgonlmddaaGreatDoorCertD
set_option linter.unusedVariables false
set_option maxRecDepth 200000
set_option maxHeartbeats 4000000
namespace Go.T
open Go Go.Ab Go.Proofs
variable {ml:Gv}{F:Nat}
theorem Zg9{id c l m r}(h:Dg F id c l m=some r):FZ ml 73 (T6 c l m) [pp 0,aI id] (.cx [.agg (cD.c r.1),.bool r.2.1]) (An r.2.2.1 m r.2.2.2):=by
 refine fG Tryz.func73 ?_;unfold Dg at h;refine(ak)<|cH [0,1,2] h Kr λ a h=>?_;refine(ae)<|jN h λ b=>jM [(0,pp 0),(4,pp 3),(6,aI a),(23,.bool b)] (T6 c l m++[(3,rF Qu)]) 4 (λ h=>?_) λ h=>?_
 ·refine(ay)<|bS h (λ h=>qE [(0,0),(1,1),(2,2),(3,32)]) λ h=>?_;refine(ae)<|gX h λ h=>?_;refine(ae)<|oB h λ d h=>?_;refine(ae)<|oB h λ e h=>?_;exact(ae)<|cH [0,1,2] h Zio λ f h=>qE [(0,0),(1,1),(2,2),(3,32)]
 refine(ay)<|bS h (λ h=>qG [(0,0),(2,2),(3,1)]) λ h=>?_;exact(ae)<|cG [0,1,2] h PW λ g h=>qG [(0,0),(1,1),(2,2),(3,71)]
theorem Zj5{a r}(h:zM F a=some r):FZ ml 32 [] [.str a] (.cx [aI r.1,.bool r.2]) []:=by
 refine fA Tryz.func32 ?_;unfold zM at h;refine(ae)<|jS h λ o4 vu=>jT [] [] 0 (λ h k4 e=>?_) λ h=>?_
 ·refine(ak)<|lI (λ n' x'=>yn F a n' x'.1 x'.2) (λ x'=>[(0,.str a),(4,aI x'.1),(5,aI x'.2)]) (λ x'=>[]) 0 (0,9) [] h ?_;rintro d ⟨b,j⟩ h;dsimp only at h;rw[yn.eq_2]at h;refine(ay)<|bS h (λ h=>?_) λ h=>?_
  ·refine(ak)<|gX h λ h=>?_;obtain⟨f,hy,h⟩:=eB h;refine fX f hy ?_;refine(ae)<|jN h λ c=>jM [(0,.str a),(4,aI b),(5,aI c)] [] 0 (λ h=>qE []) λ h=>?_;refine(ay)<|bS h (λ h=>?_) λ h=>?_
   ·refine(ak)<|gX h λ h=>?_;obtain⟨g,hy,h⟩:=eB h;refine fX g hy ?_;refine(ae)<|bS h (λ h=>?_) λ h=>?_
    ·refine(ae)<|gX h λ h=>?_;obtain⟨i,hy,h⟩:=eB h;refine fX i hy ?_;refine(ae)<|aX ?_;cases h;cases k4;exact rfl
    refine(ae)<|aX ?_;cases h;cases k4;exact rfl
   exact rE (d,(IntKind.wrap IntKind.i64 (b+(1:Int))),c) [] h
  exact qE []
 exact qR
theorem ZjI{f n r}(h:CS F f n=some r):FZ ml 34 [] [sM cA.c f,aI n] (.agg [aI r.1,aI r.2.1,aI r.2.2.1,aI r.2.2.2.1,aI r.2.2.2.2.1,aI r.2.2.2.2.2.1,aI r.2.2.2.2.2.2.1,.bool r.2.2.2.2.2.2.2.1,.bf 0 2,.str r.2.2.2.2.2.2.2.2.1]) [(0,rT bx.c r.2.2.2.2.2.2.2.2.2)]:=by
 refine fG Tryz.func34 ?_;unfold CS at h
 (conv=>whnf);refine Or.inr (NR 8 2 _ rfl rfl ?_);refine(ae)<|aX ?_;refine(ae)<|oB h λ a h=>?_;refine(ae)<|aX ?_;refine(ae)<|oB h λ b h=>?_;refine(ae)<|aX ?_;refine(ae)<|oB h λ d h=>?_;refine(ae)<|aX ?_;refine(ae)<|oB h λ e h=>?_;refine(ae)<|aX ?_;refine(ae)<|oB h λ g h=>?_;refine(ae)<|aX ?_;refine(ae)<|oB h λ i h=>?_;refine(ae)<|aX ?_;refine(ae)<|oB h λ j h=>?_;refine(ae)<|aX ?_;refine(ae)<|oB h λ k h=>?_;refine(ae)<|gS h λ h=>?_;refine(ae)<|oB h λ l h=>?_;(conv=>whnf);refine Or.inr (Cb 8 2 _ rfl rfl ?_);(conv=>whnf);refine Or.inr (NR 8 2 _ rfl rfl ?_);refine(ae)<|aX ?_;refine(ae)<|jN h λ m=>jM [(4,pp 0),(5,pp 1)] [(0,rF [aI 0,aI 0,aI 0,aI 0,aI 0,aI 0,aI 0,.bool false,.bf 2 2,.str []]),(1,rF [aI a.N,aI b.N,aI d.N,aI e.N,aI g.N,aI i.N,aI j.N,.bool (k.N==(1:Int)),.bf 3 2,.str l.S]),(2,rT bx.c []),(3,rT bx.c m)] 4 (λ h=>?_) λ h=>?_
 ·refine(ak)<|lI (λ n' x'=>yo F f n n' x'.1 x'.2) (λ x'=>[(0,sM cA.c f),(4,pp 0),(5,pp 1),(48,aI n),(49,aI x'.1)]) (λ x'=>[(0,rF [aI 0,aI 0,aI 0,aI 0,aI 0,aI 0,aI 0,.bool false,.bf 2 2,.str []]),(1,rF [aI a.N,aI b.N,aI d.N,aI e.N,aI g.N,aI i.N,aI j.N,.bool (k.N==(1:Int)),.bf 3 2,.str l.S]),(2,rT bx.c []),(3,rT bx.c x'.2)]) 4 (0,[]) [(0,32),(1,1376),(2,33),(3,1344)] h ?_;rintro o ⟨p,q⟩ h;dsimp only at h;rw[yo.eq_2]at h;refine(ay)<|bS h (λ h=>?_) λ h=>?_
  ·refine(ak)<|gX h λ h=>?_;refine(ae)<|oB h λ s h=>?_;refine(ae)<|gX h λ h=>?_;refine(ae)<|oB h λ t h=>?_;(conv=>whnf);left;refine(ak)<|aX ?_;refine(ae)<|aX ?_;refine(ae)<|gS h λ h=>?_;refine(ak)<|aX ?_;exact rE (o,(IntKind.wrap IntKind.i64 (p+(1:Int))),(q++((bx.mk s.N t.S)::[]))) [(0,0),(1,1),(2,2),(3,676)] h
  exact qE (ii 4 [])
 exact qG [(0,3)]
theorem ZkN{b r}(h:yb F b=some r):FZ ml 11 [] [.str b] (.cx [.agg (cj.c r.1),aI r.2]) []:=by
 refine fK Tryz.func11 ?_;unfold yb at h
 (conv=>whnf);left;(conv=>whnf);left;refine(ak)<|cL h Zj5 λ a h=>?_;refine(ay)<|bS h (λ h=>qK) λ h=>?_;refine(ae)<|jN h λ d=>jM [(0,.str b),(2,pp 0),(4,.bf 1 1),(5,aI a.1)] [(0,rF [aI 0,aI 0,aI 0,aI 0,aI 0,aI 0,aI 0,.bool false,.dK,.str []]),(1,rT cJ d)] 2 (λ h=>?_) λ h=>?_
 ·refine(ak)<|lI (λ n' x'=>yr F a n' x'.1 x'.2) (λ x'=>[(0,.str b),(2,pp 0),(4,.bf 1 1),(5,aI a.1),(18,aI a.1),(19,aI x'.1)]) (λ x'=>[(0,rF [aI 0,aI 0,aI 0,aI 0,aI 0,aI 0,aI 0,.bool false,.dK,.str []]),(1,rT cJ x'.2)]) 2 (0,(1::(1::(1::(1::(1::(1::(1::(1::(1::[])))))))))) [(0,32),(1,96)] h ?_;rintro e ⟨f,g⟩ h;dsimp only at h;rw[yr.eq_2]at h;refine(ay)<|bS h (λ h=>?_) λ h=>?_
  ·(conv=>whnf);left;(conv=>whnf);left;(conv=>whnf);refine And.intro (eF.cons rfl (eF.cons rfl eF.nil)) ?_;refine(ae)<|aX ?_;refine(ae)<|gS h λ h=>?_;exact rE (e,(IntKind.wrap IntKind.i64 (f+(1:Int))),(g++(1::(3::[])))) [(0,0),(1,98)] h
  exact qE [(0,0),(1,1)]
 refine(ak)<|aX ?_;refine(ae)<|aX ?_;refine(ae)<|gS h λ h=>?_;refine(ae)<|gX h λ h=>?_;(conv=>whnf);left;obtain⟨i,hy,h⟩:=eB h;refine⟨_,_,(lZ (cT (YU AV.sl rQ) (cT (YU AV.sl rQ) rfl)) (fx (FD hy) rfl)),Or.inr ⟨[66,130],rfl,?_⟩⟩;refine(ae)<|jN h λ j=>jM [(2,pp 0),(5,aI a.1),(7,sM cA.c i.2),(42,.bool j)] [(0,rF [aI 0,aI 0,aI 0,aI 0,aI 0,aI 0,aI 0,.bool false,.dK,.str []])] 1 (λ h=>?_) λ h=>?_
 ·refine(ay)<|bS h (λ h=>qE [(0,0)]) λ h=>?_;refine(ae)<|aX ?_;refine(ae)<|oB h λ k h=>?_;exact qE [(0,0)]
 refine(ay)<|bS h (λ h=>qK) λ h=>?_;exact(ak)<|cR h (λ h=>fx (ZjI h) rfl) λ l h=>qK
theorem ZhJ{m rf l a b d r}(h:CZ F m rf l a b d=some r):FZ ml 110 (T1 rf l a b d) [pp 0,.agg (cj.c m)] (.bool r) (T1 rf l a b d):=by
 refine fG Tryz.func110 ?_;unfold CZ at h;refine(ak)<|jN h λ i=>jM [(3,pp 5),(56,.bool i)] (T1 rf l a b d++[(5,rF (cj.c m))]) 6 (λ h=>?_) λ h=>?_
 ·refine(ay)<|bS h (λ h=>qE (ii 5 [(5,32)])) λ h=>?_;refine(ae)<|bS h (λ h=>qE (ii 5 [(5,32)])) λ h=>?_;refine(ae)<|bS h (λ h=>qE (ii 5 [(5,32)])) λ h=>?_;refine(ae)<|bS h (λ h=>qE (ii 5 [(5,32)])) λ h=>?_;exact(ak)<|cL h yE λ o h=>qE (ii 5 [(5,32)])
 refine(ay)<|bS h (λ h=>qG (ii 5 [])) λ h=>?_;refine(ae)<|jN h λ j=>jM [(3,pp 5),(98,.bool j)] (T1 rf l a b d++[(5,rF (cj.c m))]) 6 (λ h=>qE (ii 6 [])) λ h=>?_;refine(ay)<|bS h (λ h=>qG (ii 5 [])) λ h=>?_;refine(ae)<|jS h λ o6 vu=>jT [] (T1 rf l a b d) 5 (λ h k6 e=>?_) λ h=>?_
 ·refine(ak)<|lI (λ n' x'=>yu F m n' x'.1 x'.2) (λ x'=>[(3,pp 5),(5,aI x'.1),(102,sM bx.c m.Entries),(103,aI ((List.length (List.map bx.c m.Entries):Nat):Int)),(104,aI x'.2)]) (λ x'=>(T1 rf l a b d++[(5,rF (cj.c m))])) 6 (m.bM,0) (ii 6 []) h ?_;rintro k ⟨p,f⟩ h;dsimp only at h;rw[yu.eq_2]at h;refine(ay)<|bS h (λ h=>?_) λ h=>?_
  ·refine(ak)<|gX h λ h=>?_;refine(ae)<|oB h λ g h=>?_;refine(ak)<|jN h λ n=>jM [(3,pp 5),(7,pp 6),(102,sM bx.c m.Entries),(103,aI ((List.length (List.map bx.c m.Entries):Nat):Int)),(104,aI f),(125,.bool n)] (T1 rf l a b d++[(5,rF (cj.c m)),(6,rF (bx.c g))]) 7 (λ h=>qE (ii 6 [(6,102)])) λ h=>?_;refine(ay)<|bS h (λ h=>?_) λ h=>?_
   ·cases h;cases k6;exact gI (ii 5 [])
   exact rE (k,g.Term,(IntKind.wrap IntKind.i64 (f+(1:Int)))) (ii 6 []) h
  exact qE (ii 5 [])
 exact qG (ii 5 [])
theorem Zin{m rf l a b d r}(h:C1 F m rf l a b d=some r):FZ ml 111 (T1 rf l a b d) [pp 0,.agg (cj.c m)] (.cx []) (yJ r.1 r.2.1 r.2.2.1 r.2.2.2.1 r.2.2.2.2):=by
 refine fG Tryz.func111 ?_;unfold C1 at h
 (conv=>whnf);left;(conv=>whnf);left;refine(ay)<|bS h (λ h=>?_) λ h=>?_
 ·(conv=>whnf);left;obtain⟨f,hy,h⟩:=eB h;refine cW [0,1,2,3,4] (sE hy) ?_;exact qG [(0,0),(4,4),(5,1),(6,2),(7,3),(8,325)]
 refine(ae)<|jN h λ e=>jM [(0,pp 0),(3,pp 5),(13,.bool e)] (T1 rf l a b d++[(5,rF (cj.c m))]) 6 (λ h=>qE (ii 5 [(5,32)])) λ h=>?_;refine(ay)<|bS h (λ h=>?_) λ h=>?_
 ·(conv=>whnf);left;obtain⟨g,hy,h⟩:=eB h;refine cW [0,1,2,3,4] (sE hy) ?_;exact qG [(0,0),(4,4),(5,1),(6,2),(7,3),(8,139)]
 exact qG [(0,0),(5,1),(6,2),(7,3),(8,4)]
theorem PF{t n of r}(h:xX F t n of=some r):FZ ml 162 [] [.agg (ca.c t),aI n,aI of] (.bool r) []:=by
 refine fA Tryz.func162 ?_;unfold xX at h
 (conv=>whnf);left;refine(ak)<|cL h wG λ a h=>?_;refine(ay)<|bS h (λ h=>qR) λ h=>?_;exact(ak)<|cL h yf λ b h=>qR
theorem ZiE{m rf l a b d r}(h:C5 F m rf l a b d=some r):FZ ml 112 (T1 rf l a b d) [pp 0,.agg (cj.c m)] (.cx []) (KI r.1 l a b r.2):=by
 refine fG Tryz.func112 ?_;unfold C5 at h;refine(ak)<|jN h λ e=>jM [(0,pp 0),(3,pp 5),(4,.bool e)] (T1 rf l a b d++[(5,rF (cj.c m))]) 6 (λ h=>?_) λ h=>?_
 ·refine(ay)<|bS h (λ h=>?_) λ h=>?_
  ·refine(ae)<|bS h (λ h=>?_) λ h=>?_
   ·exact(ak)<|cL h PF λ g h=>qE (ii 5 [(5,32)])
   exact qE (ii 5 [(5,32)])
  refine(ae)<|bS h (λ h=>?_) λ h=>?_
  ·refine(ae)<|bS h (λ h=>?_) λ h=>?_
   ·exact(ak)<|cL h PF λ i h=>qE (ii 5 [(5,32)])
   exact qE (ii 5 [(5,32)])
  exact qE (ii 5 [(5,32)])
 refine(ae)<|jN h λ f=>jM [(0,pp 0),(3,pp 5),(4,.bool e)] (T1 f l a b d++[(5,rF (cj.c m))]) 6 (λ h=>qE (ii 6 [])) λ h=>?_;(conv=>whnf);left;obtain⟨j,hy,h⟩:=eB h;refine cW [0,1,2,3,4] (sE hy) ?_;exact qG (ii 5 [(5,171)])
theorem ZhO{m rf l a b d r}(h:yB F m rf l a b d=some (Sum.inl r)):FZ ml 113 (T1 rf l a b d) [pp 0,.agg (cj.c m)] (.cx []) (yJ r.1 r.2.1 r.2.2.1 r.2.2.2.1 r.2.2.2.2):=by
 refine fG Tryz.func113 ?_;unfold yB at h;refine(ak)<|jN h λ e=>jM [(0,pp 0),(3,pp 5),(24,.bool e)] (T1 rf l a b d++[(5,rF (cj.c m))]) 6 (λ h=>?_) λ h=>?_
 ·refine(ay)<|bS h (λ h=>qE (ii 5 [(5,32)])) λ h=>?_;refine(ae)<|bS h (λ h=>qE (ii 5 [(5,32)])) λ h=>?_;exact(ak)<|cL h yE λ f h=>qE (ii 5 [(5,32)])
 refine(ay)<|bS h (λ h=>qG [(0,0),(5,1),(6,2),(7,3),(8,4)]) λ h=>?_;refine(ak)<|aX ?_;refine(ae)<|aX ?_;refine(ae)<|gS h λ h=>?_;refine(ak)<|aX ?_;refine(ak)<|cL h (λ h=>aE (zJ h)) λ g h=>?_;refine(ae)<|aX ?_;refine(ay)<|bS h (λ h=>?_) λ h=>?_
 ·refine(ae)<|cG [0,294,2,3,4] h C9 λ i h=>?_;cases h
 cases h;exact gE [(0,0),(1,1),(5,294),(6,2),(7,3),(8,4)]
theorem ZhN{m rf l a b d r}(h:yB F m rf l a b d=some (Sum.inr r)):FZ ml 113 (T1 rf l a b d) [pp 0,.agg (cj.c m)] (.cx []) [(0,rF (cP.c r.1++[.bf 5 1,.bf 6 1,.bf 7 1,.bf 8 10])),(2,rT cJ r.2.1),(3,rT cJ r.2.2.1),(5,rT cJ r.2.2.2.1),(6,rT cJ r.2.2.2.2.1),(7,rT cJ r.2.2.2.2.2.1),(8,rT cj.c r.2.2.2.2.2.2)]:=by
 refine fG Tryz.func113 ?_;unfold yB at h;refine(ak)<|jN h λ e=>jM [(0,pp 0),(3,pp 5),(24,.bool e)] (T1 rf l a b d++[(5,rF (cj.c m))]) 6 (λ h=>?_) λ h=>?_
 ·refine(ay)<|bS h (λ h=>qE (ii 5 [(5,32)])) λ h=>?_;refine(ae)<|bS h (λ h=>qE (ii 5 [(5,32)])) λ h=>?_;exact(ak)<|cL h yE λ f h=>qE (ii 5 [(5,32)])
 refine(ay)<|bS h (λ h=>?_) λ h=>?_
 ·cases h
 refine(ak)<|aX ?_;refine(ae)<|aX ?_;refine(ae)<|gS h λ h=>?_;refine(ak)<|aX ?_;refine(ak)<|cL h (λ h=>aE (zJ h)) λ g h=>?_;refine(ae)<|aX ?_;refine(ay)<|bS h (λ h=>?_) λ h=>?_
 ·exact(ae)<|cG [0,294,2,3,4] h C9 λ i h=>qG (ii 5 [(5,843),(6,844),(7,845),(8,846)])
 cases h
theorem ZiF{m rf l a b d r}(h:C4 F m rf l a b d=some r):FZ ml 114 (T1 rf l a b d) [pp 0,.agg (cj.c m)] (.cx []) (yJ r.1 r.2.1 r.2.2.1 r.2.2.2.1 r.2.2.2.2):=by
 refine fG Tryz.func114 ?_;unfold C4 at h;refine(ak)<|jN h λ e=>jM [(0,pp 0),(3,pp 5),(17,.bool e)] (T1 rf l a b d++[(5,rF (cj.c m))]) 6 (λ h=>?_) λ h=>?_
 ·refine(ay)<|bS h (λ h=>qE (ii 5 [(5,32)])) λ h=>?_;exact(ae)<|cH [0,1,2,3,4] h wM λ f h=>qE (ii 5 [(5,32)])
 refine(ay)<|bS h (λ h=>qG [(0,0),(5,1),(6,2),(7,3),(8,4)]) λ h=>?_;refine(ak)<|cL h Kw λ g h=>?_;refine(ae)<|aX ?_;refine(ay)<|bS h (λ h=>?_) λ h=>?_
 ·refine(ae)<|gX h λ h=>?_;refine(ae)<|oB h λ i h=>?_;refine(ae)<|oB h λ j h=>?_;refine(ae)<|gX h λ h=>?_;refine(ae)<|oB h λ k h=>?_;refine(ae)<|oB h λ n h=>?_;refine(ae)<|gX h λ h=>?_;refine(ae)<|oB h λ o h=>?_;refine(ae)<|oB h λ p h=>?_;refine(ae)<|aX ?_;exact(ae)<|cG [0,1,2,3,4] h Ks λ q h=>qG [(0,0),(4,4),(5,1),(6,2),(7,3),(8,1451)]
 refine(ae)<|gX h λ h=>?_;refine(ae)<|oB h λ s h=>?_;refine(ae)<|oB h λ t h=>?_;refine(ae)<|gX h λ h=>?_;refine(ae)<|oB h λ u h=>?_;refine(ae)<|oB h λ v h=>?_;refine(ae)<|aX ?_;refine(ae)<|gX h λ h=>?_;refine(ae)<|oB (c:=cn IntKind.i64) h λ w h=>?_;refine(ae)<|oB (c:=cn IntKind.i64) h λ x h=>?_;refine(ae)<|gX h λ h=>?_;refine(ae)<|oB h λ y h=>?_;refine(ae)<|oB h λ z h=>?_;refine(ae)<|aX ?_;refine(ae)<|cG [0,1,2,3,4] h Kt λ A h=>?_;refine(ae)<|gX h λ h=>?_;refine(ae)<|oB h λ B h=>?_;refine(ae)<|oB h λ C h=>?_;refine(ae)<|cH [0,1,2,3,4] h wM λ D h=>?_;refine(ae)<|aX ?_;refine(ay)<|bS h (λ h=>?_) λ h=>?_
 ·exact(ae)<|cG [0,1,2,3,4] h Ks λ E h=>qG [(0,0),(4,4),(5,1),(6,2),(7,3),(8,2027)]
 exact qG [(0,0),(5,1),(6,2),(7,3),(8,4)]
theorem PZ{m rf l a b d r}(h:zT F m rf l a b d=some r):FZ ml 164 (T1 rf l a b d) [pp 0,.agg (cj.c m)] (.cx []) [(0,rF (cP.c r++[.bf 5 1,.bf 2 1,.bf 3 1,.bf 4 10])),(1,rT cJ l),(2,rT cJ a),(3,rT cJ b),(4,rT cj.c d),(5,.rows true [])]:=by
 refine fG Tryz.func164 ?_;unfold zT at h
 (conv=>whnf);left;(conv=>whnf);refine Or.inr (iP 1 _ _ rfl rfl rfl ?_);exact qG (ii 5 [(5,640)])
theorem ZmD{t a of b fixed r}(h:zC F t a of b fixed=some r):FZ ml 165 [] [.agg (ca.c t),aI a,aI of,sM bx.c b,aI fixed] (.cx [.agg (ca.c r.1),.bool r.2]) []:=by
 refine fK Tryz.func165 ?_;unfold zC at h
 (conv=>whnf);left;refine(ak)<|jN h λ j=>jM [(1,aI a),(2,aI of),(3,sM bx.c b),(4,aI fixed),(5,pp 0),(10,pp 1),(32,.bool j)] (yI t 0 0) 2 (λ h=>?_) λ h=>?_
 ·(conv=>whnf);left;refine(ak)<|cL h wG λ q h=>?_;refine(ae)<|bS h (λ h=>qE [(0,32),(1,64)]) λ h=>?_;refine(ae)<|bS h (λ h=>qE [(0,32),(1,64)]) λ h=>?_;refine(ae)<|bS h (λ h=>qE [(0,32),(1,64)]) λ h=>?_;exact(ak)<|cL h Kn λ s h=>qE [(0,32),(1,64)]
 refine(ay)<|bS h (λ h=>qK) λ h=>?_;refine(ae)<|jS h λ o1 ⟨d,k,f⟩=>jT [(1,aI (d)),(2,aI (k)),(3,sM bx.c f),(4,aI fixed),(5,pp 0),(10,pp 1)] (yI t 0 0) 2 (λ h k1 e=>?_) λ h=>?_
 ·refine(ay)<|bS h (λ h=>?_) λ h=>?_
  ·refine(ay)<|bS h (λ h=>?_) λ h=>?_
   ·refine(ak)<|cR h (λ h=>aW (FH h)) λ u h=>?_;cases h;cases k1;exact kV
   refine(ae)<|gX h λ h=>?_;refine(ae)<|oB h λ v h=>?_;refine(ae)<|aX ?_;refine(ay)<|bS h (λ h=>?_) λ h=>?_
   ·(conv=>whnf);left;cases h;cases k1;exact kV
   refine(ae)<|aX ?_;refine(ae)<|gX h λ h=>?_;refine(ae)<|gS h λ h=>?_;refine(ae)<|gS h λ h=>?_;refine(ae)<|aX ?_;cases h;cases e;exact eV [(0,0),(1,1)]
  exact qE [(0,0),(1,1)]
 refine(ak)<|cL h zQ λ w h=>?_;refine(ae)<|jN h λ l=>jM [(1,aI d),(3,sM bx.c f),(4,aI fixed),(5,pp 0),(10,pp 1),(80,.bool l)] (yI t 0 0) 2 (λ h=>qE [(0,0),(1,1)]) λ h=>?_;refine(ay)<|bS h (λ h=>qK) λ h=>?_;refine(ae)<|jN h λ⟨m,n⟩=>jM [(3,sM bx.c m),(4,aI fixed),(5,pp 0),(10,pp 1),(15,aI n)] (yI t 0 0) 2 (λ h=>?_) λ h=>?_
 ·refine(ak)<|lI (λ n' x'=>u7 F t n' x'.1 x'.2) (λ x'=>[(3,sM bx.c x'.1),(4,aI fixed),(5,pp 0),(10,pp 1),(15,aI x'.2)]) (λ x'=>(yI t 0 0)) 2 (f,(IntKind.wrap IntKind.i64 (d-t.an))) [(0,0),(1,1)] h ?_;rintro o ⟨g,i⟩ h;dsimp only at h;rw[u7.eq_2]at h;refine(ae)<|jN h λ p=>jM [(3,sM bx.c g),(4,aI fixed),(5,pp 0),(10,pp 1),(15,aI i),(108,.bool p)] (yI t 0 0) 2 (λ h=>?_) λ h=>?_
  ·refine(ay)<|bS h (λ h=>?_) λ h=>?_
   ·refine(ae)<|bS h (λ h=>?_) λ h=>?_
    ·refine(ae)<|gX h λ h=>?_;refine(ae)<|oB h λ x h=>?_;refine(ae)<|aX ?_;refine(ae)<|oB h λ y h=>?_;exact qE [(0,0),(1,1)]
    exact qE [(0,0),(1,1)]
   exact qE [(0,0),(1,1)]
  refine(ay)<|bS h (λ h=>?_) λ h=>?_
  ·refine(ak)<|aX ?_;refine(ae)<|aX ?_;refine(ae)<|gS h λ h=>?_;refine(ae)<|gS h λ h=>?_;refine(ae)<|aX ?_;exact rV (o,(List.drop (Int.toNat 1) g),(IntKind.wrap IntKind.i64 (i+(1:Int)))) [(0,0),(1,1)] h
  exact qE [(0,0),(1,1)]
 refine(ay)<|bS h (λ h=>?_) λ h=>?_
 ·exact(ak)<|cR h (λ h=>aW (FH h)) λ z h=>qK
 refine(ay)<|bS h (λ h=>qK) λ h=>?_;exact(ak)<|cR h FH λ A h=>qK
theorem Zim{m rf l a b d r}(h:C2 F m rf l a b d=some r):FZ ml 115 (T1 rf l a b d) [pp 0,.agg (cj.c m)] (.cx []) [(0,rF (cP.c r.1++[.bf 5 1,.bf 2 1,.bf 3 1,.bf 6 10])),(1,rT cJ l),(2,rT cJ a),(3,rT cJ b),(5,.rows true []),(6,rT cj.c r.2)]:=by
 refine fG Tryz.func115 ?_;unfold C2 at h;refine(ak)<|cG [0,1,2,3,4] h PZ λ e h=>?_;refine(ak)<|cR h ZmD λ f h=>?_;refine(ak)<|aX ?_;refine(ay)<|bS h (λ h=>?_) λ h=>?_
 ·refine(ae)<|cH [0,133,2,3,4] h wM λ g h=>?_;(conv=>whnf);left;obtain⟨i,hy,h⟩:=eB h;refine cW [0,133,2,3,4] (sE hy) ?_;exact qG (ii 5 [(5,133),(6,1317)])
 refine(ae)<|cH [0,133,2,3,4] h wM λ j h=>?_;refine(ae)<|aX ?_;(conv=>whnf);left;obtain⟨k,hy,h⟩:=eB h;refine cW [0,133,2,3,4] (sE hy) ?_;exact qG (ii 5 [(5,133),(6,2309)])
theorem Zhw{m rf l a b d r}(h:Dl F m rf l a b d=some r):FZ ml 116 (T1 rf l a b d) [pp 0,.agg (cj.c m)] (.cx []) [(0,rF (cP.c r.1++[.bf 5 1,.bf 2 1,.bf 3 1,.bf 6 10])),(1,rT cJ l),(2,rT cJ a),(3,rT cJ b),(5,.rows true []),(6,rT cj.c r.2)]:=by
 refine fG Tryz.func116 ?_;unfold Dl at h;refine(ak)<|cG [0,1,2,3,4] h PZ λ e h=>?_;refine(ae)<|aX ?_;refine(ae)<|jN h λ f=>jM [(0,pp 0),(3,pp 5)] [(0,rF (cP.c f++[.bf 6 1,.bf 2 1,.bf 3 1,.bf 4 10])),(1,rT cJ l),(2,rT cJ a),(3,rT cJ b),(4,rT cj.c d),(5,rF (cj.c m)),(6,rT cJ [])] 7 (λ h=>?_) λ h=>?_
 ·refine(ay)<|bS h (λ h=>?_) λ h=>?_
  ·(conv=>whnf);left;(conv=>whnf);left;refine(ak)<|cL h zQ λ n h=>?_;refine(ae)<|aX ?_;refine(ae)<|jN h λ g=>jM [(0,pp 0),(3,pp 5),(4,pp 6),(40,.bool g)] [(0,rF (cP.c e++[.bf 7 1,.bf 2 1,.bf 3 1,.bf 4 10])),(1,rT cJ l),(2,rT cJ a),(3,rT cJ b),(4,rT cj.c d),(5,rF (cj.c m)),(6,rF [aI m.Index,aI m.bM,.dK]),(7,rT cJ [])] 8 (λ h=>?_) λ h=>?_
   ·refine(ay)<|bS h (λ h=>?_) λ h=>?_
    ·cases h;exact eE (ii 5 [(5,32),(6,576),(7,133)])
    cases h;exact eE (ii 5 [(5,32),(6,576),(7,133)])
   refine(ae)<|jN h λ⟨i,j,k⟩=>jM [(0,pp 0),(3,pp 5),(4,pp 6)] [(0,rF (cP.c e++[.bf 7 1,.bf 2 1,.bf 3 1,.bf 4 10])),(1,rT cJ l),(2,rT cJ a),(3,rT cJ b),(4,rT cj.c d),(5,rF (cj.c m)),(6,rF [aI i,aI j,sM bx.c k]),(7,rT cJ [])] 8 (λ h=>?_) λ h=>?_
   ·refine(ay)<|bS h (λ h=>?_) λ h=>?_
    ·exact(ak)<|cR h Kh λ o h=>qE (ii 8 [])
    cases h;exact eW (ii 8 [])
   exact qE (ii 6 [(6,7)])
  cases h;exact eE (ii 5 [(5,32),(6,133)])
 (conv=>whnf);left;obtain⟨p,hy,h⟩:=eB h;refine cW [0,6,2,3,4] (sE hy) ?_;exact qG (ii 5 [(5,6),(6,300)])
theorem Zkr{r_ m r}(h:CA F r_ m=some r):FZ ml 74 [] [.agg (bD.c r_),.agg (cj.c m)] (.cx [.agg [aI r.1,sM cJ r.2.1,aI r.2.2.1,aI r.2.2.2.1,aI r.2.2.2.2.1,aI r.2.2.2.2.2.1,aI r.2.2.2.2.2.2.1,aI r.2.2.2.2.2.2.2.1,sM bx.c r.2.2.2.2.2.2.2.2.1,.str r.2.2.2.2.2.2.2.2.2.1,aI r.2.2.2.2.2.2.2.2.2.2.1,aI r.2.2.2.2.2.2.2.2.2.2.2.1,aI r.2.2.2.2.2.2.2.2.2.2.2.2.1,.bf 0 1,.bf 1 1,.bf 2 1],.bf 3 10]) (Dz r.2.2.2.2.2.2.2.2.2.2.2.2.2.1 r.2.2.2.2.2.2.2.2.2.2.2.2.2.2.1 r.2.2.2.2.2.2.2.2.2.2.2.2.2.2.2.1++[(3,rT cj.c r.2.2.2.2.2.2.2.2.2.2.2.2.2.2.2.2)]):=by
 refine fG Tryz.func74 ?_;unfold CA at h
 (conv=>whnf);left;(conv=>whnf);left;(conv=>whnf);left;refine(ak)<|cR h FA λ a h=>?_;refine(ae)<|jN h λ d=>jM [(3,pp 0),(4,pp 1),(6,pp 2),(17,.bool d)] (P' m a.1 a.2.1 a.2.2.1 a.2.2.2.1 a.2.2.2.2) 7 (λ h=>?_) λ h=>?_
 ·(conv=>whnf);left;refine(ak)<|cL h qS λ p h=>?_;refine(ae)<|bS h (λ h=>qE [(0,64),(1,96),(2,192),(3,193),(4,194),(5,195),(6,196)]) λ h=>?_;exact(ae)<|cH [192,193,194,195,196] h ZhJ λ q h=>qE [(0,64),(1,96),(2,192),(3,193),(4,194),(5,195),(6,196)]
 refine(ay)<|bS h (λ h=>?_) λ h=>?_
 ·cases h;exact gE [(0,3),(1,4),(2,5),(3,167)]
 refine(ae)<|aX ?_;refine(ae)<|jN h λ⟨e,f,g,i⟩=>jM [(3,pp 0),(4,pp 1),(6,pp 2)] (P' m e f g i a.2.2.2.2) 7 (λ h=>?_) λ h=>?_
 ·refine(ay)<|bS h (λ h=>?_) λ h=>?_
  ·(conv=>whnf);refine Or.inr (iP 1 _ _ rfl rfl rfl ?_);(conv=>whnf);refine Or.inr (iP 1 _ _ rfl rfl rfl ?_);(conv=>whnf);refine Or.inr (iP 1 _ _ rfl rfl rfl ?_);cases h;exact eE [(0,0),(1,1),(2,2),(3,1159),(4,1287),(5,1415),(6,6)]
  exact qE (ii 7 [])
 refine(ae)<|aX ?_;refine(ay)<|bS h (λ h=>?_) λ h=>?_
 ·exact(ae)<|cG [2,3,4,5,6] h Zin λ s h=>qG [(0,332),(1,333),(2,334),(3,335)]
 refine(ae)<|jN h λ⟨j,k,l,n,o⟩=>jM [(4,pp 0),(6,pp 1)] (DA j k l n o) 6 (λ h=>?_) λ h=>?_
 ·(conv=>whnf);left;refine(ay)<|bS h (λ h=>?_) λ h=>?_
  ·exact(ae)<|cG [2,3,4,5,6] h ZiE λ t h=>qE [(0,1),(1,2),(2,3),(3,4),(4,5),(5,460)]
  refine(ay)<|bS h (λ h=>?_) λ h=>?_
  ·obtain⟨b,hy,h⟩:=eB h;rcases b with b|b
   ·replace h:=km h;refine(ae)<|cg [2,3,4,5,6] (ZhO hy) ?_;exact qE [(0,1),(1,2),(2,588),(3,589),(4,590),(5,591)]
   replace h:=ko h;refine(ae)<|cg [2,3,4,5,6] (ZhN hy) ?_;exact qE [(0,1),(1,2),(2,588),(3,589),(4,590),(5,591)]
  refine(ay)<|bS h (λ h=>?_) λ h=>?_
  ·exact(ae)<|cG [2,3,4,5,6] h ZiF λ u h=>qE [(0,1),(1,2),(2,716),(3,717),(4,718),(5,719)]
  refine(ay)<|bS h (λ h=>qE [(0,1),(1,2),(2,3),(3,4),(4,5),(5,6)]) λ h=>?_;refine(ay)<|bS h (λ h=>?_) λ h=>?_
  ·refine(ae)<|cG [2,3,4,5,6] h Zim λ v h=>?_;cases h;exact eE [(0,1),(1,2),(2,1068),(3,4),(4,5),(5,1069)]
  refine(ay)<|bS h (λ h=>?_) λ h=>?_
  ·refine(ae)<|cG [2,3,4,5,6] h Zhw λ w h=>?_;cases h;exact eE [(0,1),(1,2),(2,1196),(3,4),(4,5),(5,1197)]
  exact qE [(0,1),(1,2),(2,3),(3,4),(4,5),(5,6)]
 exact qG [(0,2),(1,3),(2,4),(3,5)]
theorem ZgE{a c e gs k tb l f g i n m r}(h:Da F a c e gs k tb l f g i n m=some r):FZ ml 55 (T0 c e gs k tb l f g i n m) [pp 0,.agg (eU.c a)] (aI r.1) (Gk r.2.1 r.2.2.1 r.2.2.2.1 r.2.2.2.2.1 r.2.2.2.2.2.1 m r.2.2.2.2.2.2.1 r.2.2.2.2.2.2.2.1 r.2.2.2.2.2.2.2.2.1 r.2.2.2.2.2.2.2.2.2.1 r.2.2.2.2.2.2.2.2.2.2):=by
 refine fG Tryz.func55 ?_;unfold Da at h;refine(ak)<|cG [2,8,9] h Zg9 λ d h=>?_;refine(ak)<|aX ?_;refine(ay)<|bS h (λ h=>qG (ii 4 [(8,8),(9,9),(10,4),(11,5),(12,6),(13,7),(14,291)])) λ h=>?_;refine(ak)<|cR h ZkN λ o h=>?_;(conv=>whnf);left;obtain⟨b,hy,h⟩:=eB h;rcases b with b|b
 ·replace h:=km h;refine(ae)<|cg [0,1,2,3,4,5,6,7,291,9] (Dq hy) ?_;exact(ae)<|jN h λ p=>jM [(0,pp 0),(3,pp 10),(5,pp 11),(7,pp 12),(9,AV.eT (Value.pointer none)),(43,.bool p)] (KH c e++[(1,AO.cF (eG b.2) none),(2,rF [.bf 13 4,aI d.2.2.1,.bm 9]),(3,.rows true [(@eJ tb)]),(4,rT bx.c l),(5,rT cJ f),(6,rT cU g),(7,rT da.c i),(9,mP m),(10,rF (eU.c a)),(11,rF (cD.c d.1)),(12,rF (cj.c o.1)),(13,rT cD.c d.2.2.2)]) 14 (λ h=>qE (ii 10 [(10,32),(11,416),(12,768),(13,291)])) λ h=>qG (ii 4 [(8,8),(9,9),(10,4),(11,5),(12,6),(13,7),(14,13)])
 replace h:=ko h;refine(ae)<|cg [0,1,2,3,4,5,6,7,291,9] (Dr hy) ?_;refine(ae)<|jN h λ q=>jM [(0,pp 0),(3,pp 10),(5,pp 11),(7,pp 12),(9,pp 13),(43,.bool q)] (KH c e++[(1,AO.cF (eG b.2.1) (some ((Option.getD (@mix Int ai Int.instDecidableEq b.2.2.1 b.2.1) 0),13))),(2,rF [.bf 14 4,aI d.2.2.1,.bm 9]),(3,.rows true [(@eJ tb)]),(4,rT bx.c l),(5,rT cJ f),(6,rT cU g),(7,rT da.c i),(9,mP m),(10,rF (eU.c a)),(11,rF (cD.c d.1)),(12,rF (cj.c o.1)),(13,rF ([pp 15,pp 16]++bD.c b.2.2.2.1++[.bool true,aI b.2.2.2.2.1,AV.int IntKind.u32 b.2.2.2.2.2.1])),(14,rT cD.c d.2.2.2),(15,rF [.bm 17,.bf 18 2,aI b.2.2.2.2.2.2.1]),(16,rF ([pp 19]++bD.c b.2.2.2.2.2.2.2.1)),(17,fS b.2.2.2.2.2.2.2.2.1),(18,rT bP.c b.2.2.2.2.2.2.2.2.2.1),(19,rF [pp 15,.str b.2.2.2.2.2.2.2.2.2.2.1,aI b.2.2.2.2.2.2.2.2.2.2.2.1,aI b.2.2.2.2.2.2.2.2.2.2.2.2])]) 20 (λ h=>qE (ii 10 [(10,32),(11,416),(12,768),(13,970),(14,291),(15,971),(16,972),(17,973),(18,974),(19,975)])) λ h=>?_;refine(ay)<|bS h (λ h=>?_) λ h=>?_
 ·(conv=>whnf);obtain⟨hg,h⟩:=dB h;cases h;refine gF 1 13 b.2.1 b.2.2.1 (@Sum.inr ar aw (aw.mk b.2.2.2.2.2.2.2.2.1 b.2.2.2.2.2.2.2.2.2.1 b.2.2.2.2.2.2.1 b.2.2.2.2.2.2.2.2.2.2.1 b.2.2.2.2.2.2.2.2.2.2.2.1 b.2.2.2.2.2.2.2.2.2.2.2.2 b.2.2.2.2.2.2.2.1 b.2.2.2.1 b.2.2.2.2.1 b.2.2.2.2.2.1)) [13,15,17,18,16,19] ?_;exact gI (ii 4 [(8,8),(9,9),(10,4),(11,5),(12,6),(13,7),(14,14)])
 refine(ak)<|cR h (λ h=>fx (Zkr h) rfl) λ s h=>?_;refine(ak)<|aX ?_;obtain⟨j,hy,h⟩:=eB h;rcases j with j|j
 ·replace h:=km h;refine(ae)<|cg [0,1,2,3,4,5,6,7,13,14,9,15,16,17,18,19] (KD hy) ?_;exact qG (ii 10 [(10,612),(11,613),(12,614),(13,615),(14,616)])
 replace h:=ko h;refine(ae)<|cg [0,1,2,3,4,5,6,7,13,14,9,15,16,17,18,19] (Kx hy) ?_;exact qG (ii 10 [(10,612),(11,613),(12,614),(13,615),(14,616)])
theorem Ziq{id c l m r}(h:FK F id c l m=some r):FZ ml 75 (T6 c l m) [pp 0,aI id] (.bool r.1) (An r.2.1 m r.2.2):=by
 refine fG Tryz.func75 ?_;unfold FK at h;refine(ae)<|cH [0,1,2] h Kr λ a h=>?_;refine(ay)<|bS h (λ h=>qG [(0,0),(2,2),(3,1)]) λ h=>?_;exact(ae)<|cG [0,1,2] h PW λ b h=>qG [(0,0),(1,1),(2,2),(3,323)]
theorem ZhD{a c b gs g tb l d e f i m r}(h:Dh F a c b gs g tb l d e f i m=some r):FZ ml 56 (T0 c b gs g tb l d e f i m) [pp 0,.agg (eU.c a)] (aI r.1) (Qg c b gs r.2.1 tb l d e f m r.2.2):=by
 refine fG Tryz.func56 ?_;unfold Dh at h;exact(ak)<|cG [2,8,9] h Ziq λ j h=>qG (ii 10 [(10,291)])
theorem Zhy{id c l m r}(h:FY F id c l m=some r):FZ ml 76 (T6 c l m) [pp 0,aI id] (.cx [aI r.1,aI r.2.1]) (An r.2.2.1 m r.2.2.2):=by
 refine fG Tryz.func76 ?_;unfold FY at h;refine(ae)<|cH [0,1,2] h Kr λ a h=>?_;refine(ay)<|bS h (λ h=>qG [(0,0),(2,2),(3,1)]) λ h=>?_;refine(ae)<|gX h λ h=>?_;refine(ae)<|oB h λ b h=>?_;refine(ae)<|oB h λ d h=>?_;exact(ae)<|cG [0,1,2] h P1 λ e h=>qG [(0,0),(1,1),(2,2),(3,547)]
theorem ZgN{a c b gs g tb l d e f i m r}(h:C8 F a c b gs g tb l d e f i m=some r):FZ ml 57 (T0 c b gs g tb l d e f i m) [pp 0,.agg (eU.c a)] (aI r.1) (Qg c b gs r.2.1 tb l d e f m r.2.2):=by
 refine fG Tryz.func57 ?_;unfold C8 at h;exact(ak)<|cG [2,8,9] h Zhy λ j h=>qG (ii 10 [(10,291)])
theorem Zj1{r_ b r}(h:CU F r_ b=some r):FZ ml 77 [] [.agg (bD.c r_),.str b] (.cx [.agg [aI r.1,sM cJ r.2.1,aI r.2.2.1,aI r.2.2.2.1,aI r.2.2.2.2.1,aI r.2.2.2.2.2.1,aI r.2.2.2.2.2.2.1,aI r.2.2.2.2.2.2.2.1,sM bx.c r.2.2.2.2.2.2.2.2.1,.str r.2.2.2.2.2.2.2.2.2.1,aI r.2.2.2.2.2.2.2.2.2.2.1,aI r.2.2.2.2.2.2.2.2.2.2.2.1,aI r.2.2.2.2.2.2.2.2.2.2.2.2.1,.bf 0 1,.bf 1 1,.bf 2 1],.bf 3 10,aI r.2.2.2.2.2.2.2.2.2.2.2.2.2.1,aI r.2.2.2.2.2.2.2.2.2.2.2.2.2.2.1]) (Dz r.2.2.2.2.2.2.2.2.2.2.2.2.2.2.2.1 r.2.2.2.2.2.2.2.2.2.2.2.2.2.2.2.2.1 r.2.2.2.2.2.2.2.2.2.2.2.2.2.2.2.2.2.1++[(3,rT cj.c r.2.2.2.2.2.2.2.2.2.2.2.2.2.2.2.2.2.2)]):=by
 refine fG Tryz.func77 ?_;unfold CU at h
 (conv=>whnf);left;(conv=>whnf);left;refine(ak)<|cR h FA λ a h=>?_;refine(ak)<|jN h λ d=>jM [(1,.str b),(4,pp 0),(8,pp 1),(13,.bool d)] (DA a.1 a.2.1 a.2.2.1 a.2.2.2.1 a.2.2.2.2) 6 (λ h=>?_) λ h=>?_
 ·(conv=>whnf);left;exact(ak)<|cL h qS λ f h=>qE [(0,64),(1,224),(2,225),(3,226),(4,227),(5,228)]
 refine(ay)<|bS h (λ h=>?_) λ h=>?_
 ·cases h;exact gE [(0,2),(1,3),(2,4),(3,166)]
 refine(ae)<|jN h λ e=>jM [(1,.str b),(4,pp 0),(8,pp 1),(26,.bool e)] (DA a.1 a.2.1 a.2.2.1 a.2.2.2.1 a.2.2.2.2) 6 (λ h=>qE (ii 6 [])) λ h=>?_;refine(ay)<|bS h (λ h=>?_) λ h=>?_
 ·cases h;exact gE [(0,2),(1,3),(2,4),(3,166)]
 (conv=>whnf);left;refine(ak)<|cR h PL λ g h=>?_;refine(ak)<|aX ?_;refine(ay)<|bS h (λ h=>?_) λ h=>?_
 ·cases h;exact gE [(0,2),(1,3),(2,4),(3,838)]
 refine(ae)<|cG [1,2,3,4,5] h P0 λ i h=>?_;refine(ae)<|cG [1,2,3,4,5] h Kt λ j h=>?_;refine(ae)<|cG [1,2,3,4,5] h KA λ k h=>?_;exact(ae)<|cH [1,1035,1036,1037,1038] h wM λ l h=>qG [(0,1035),(1,1036),(2,1037),(3,1038)]
theorem ZgD{a c e gs f tb l g i j k m r}(h:Db F a c e gs f tb l g i j k m=some r):FZ ml 58 (T0 c e gs f tb l g i j k m) [pp 0,.agg (eU.c a)] (aI r.1) (Gk r.2.1 r.2.2.1 r.2.2.2.1 r.2.2.2.2.1 r.2.2.2.2.2.1 m r.2.2.2.2.2.2.1 r.2.2.2.2.2.2.2.1 r.2.2.2.2.2.2.2.2.1 r.2.2.2.2.2.2.2.2.2.1 r.2.2.2.2.2.2.2.2.2.2):=by
 refine fG Tryz.func58 ?_;unfold Db at h
 (conv=>whnf);left;obtain⟨b,hy,h⟩:=eB h;rcases b with b|b
 ·replace h:=km h;refine(ae)<|cg [0,1,2,3,4,5,6,7,8,9] (Dq hy) ?_;exact qG (ii 4 [(9,9),(10,4),(11,5),(12,6),(13,7),(14,8)])
 replace h:=ko h;refine(ae)<|cg [0,1,2,3,4,5,6,7,8,9] (Dr hy) ?_;refine(ay)<|bS h (λ h=>?_) λ h=>?_
 ·(conv=>whnf);obtain⟨hg,h⟩:=dB h;cases h;refine gF 1 202 b.2.1 b.2.2.1 (@Sum.inr ar aw (aw.mk b.2.2.2.2.2.2.2.2.1 b.2.2.2.2.2.2.2.2.2.1 b.2.2.2.2.2.2.1 b.2.2.2.2.2.2.2.2.2.2.1 b.2.2.2.2.2.2.2.2.2.2.2.1 b.2.2.2.2.2.2.2.2.2.2.2.2 b.2.2.2.2.2.2.2.1 b.2.2.2.1 b.2.2.2.2.1 b.2.2.2.2.2.1)) [202,203,205,206,204,207] ?_;exact gI (ii 4 [(9,9),(10,4),(11,5),(12,6),(13,7),(14,8)])
 refine(ak)<|cR h (λ h=>fx (Zj1 h) rfl) λ n h=>?_;refine(ak)<|aX ?_;refine(ay)<|bS h (λ h=>?_) λ h=>?_
 ·(conv=>whnf);obtain⟨hg,h⟩:=dB h;cases h;refine gF 1 202 b.2.1 b.2.2.1 (@Sum.inr ar aw (aw.mk b.2.2.2.2.2.2.2.2.1 b.2.2.2.2.2.2.2.2.2.1 b.2.2.2.2.2.2.1 b.2.2.2.2.2.2.2.2.2.2.1 b.2.2.2.2.2.2.2.2.2.2.2.1 b.2.2.2.2.2.2.2.2.2.2.2.2 b.2.2.2.2.2.2.2.1 b.2.2.2.1 b.2.2.2.2.1 b.2.2.2.2.2.1)) [202,203,205,206,204,207] ?_;exact gI (ii 4 [(9,9),(10,4),(11,5),(12,6),(13,7),(14,8)])
 obtain⟨d,hy,h⟩:=eB h;rcases d with d|d
 ·replace h:=km h;refine(ae)<|cg [0,1,2,3,4,5,6,7,202,8,9,203,204,205,206,207] (KD hy) ?_;exact qG (ii 10 [(10,1264),(11,1265),(12,1266),(13,1267),(14,1268)])
 replace h:=ko h;refine(ae)<|cg [0,1,2,3,4,5,6,7,202,8,9,203,204,205,206,207] (Kx hy) ?_;exact qG (ii 10 [(10,1264),(11,1265),(12,1266),(13,1267),(14,1268)])
theorem Zha{a b r}(h:Kv F a b=some r):FZ ml 78 [] [AV.eT (Value.pointer none),aI a,aI b] (.cx []) []:=by
 refine fA Tryz.func78 ?_;unfold Kv at h;cases h
theorem Zhb{a c e gs f tb l g i j k m r}(h:De F a c e gs f tb l g i j k m=some r):FZ ml 59 (T0 c e gs f tb l g i j k m) [pp 0,.agg (eU.c a)] (aI r.1) (T0 c e r.2 f tb l g i j k m):=by
 refine fG Tryz.func59 ?_;unfold De at h
 (conv=>whnf);left;obtain⟨b,hy,h⟩:=eB h;rcases b with b|b
 ·replace h:=km h;refine(ae)<|cg [0,1,2,3,4,5,6,7,8,9] (Dq hy) ?_;refine(ae)<|jN h λ o0=>jM [(6,aI b.1)] (T0 c e b.2 f tb l g i j k m) 10 (λ h=>?_) λ h=>?_
  ·refine(ay)<|bS h (λ h=>?_) λ h=>?_
   ·exact(ak)<|cL h Zha λ n h=>qE (ii 10 [])
   exact qE (ii 10 [])
  exact qG (ii 10 [])
 replace h:=ko h;refine(ae)<|cg [0,1,2,3,4,5,6,7,8,9] (Dr hy) ?_;refine(ay)<|bS h (λ h=>?_) λ h=>?_
 ·refine(ae)<|cG [202,203,204,205,206,207] h F8 λ d h=>?_;(conv=>whnf);obtain⟨hg,h⟩:=dB h;cases h;refine gF 1 202 b.2.1 b.2.2.1 (@Sum.inl ar aw (ar.mk d.2.2.2.2 [] d.2.2.2.1 d.1 d.2.1 d.2.2.1)) [202,203,205,614] ?_;exact gI (ii 10 [])
 (conv=>whnf);obtain⟨hg,h⟩:=dB h;cases h;refine gF 1 202 b.2.1 b.2.2.1 (@Sum.inr ar aw (aw.mk b.2.2.2.2.2.2.2.2.1 b.2.2.2.2.2.2.2.2.2.1 b.2.2.2.2.2.2.1 b.2.2.2.2.2.2.2.2.2.2.1 b.2.2.2.2.2.2.2.2.2.2.2.1 b.2.2.2.2.2.2.2.2.2.2.2.2 b.2.2.2.2.2.2.2.1 b.2.2.2.1 b.2.2.2.2.1 b.2.2.2.2.2.1)) [202,203,205,206,204,207] ?_;exact gI (ii 10 [])
theorem ZgA{id c e rf b d gs gk f tb l g i j n k m fs o r}(h:wR F id c e rf b d gs gk f tb l g i j n k m fs o=some r):FZ ml 42 (Qi c e rf false b d gs gk f tb l g i j n k m fs o) [pp 0,aI id,pp 1] (aI r.1) (Qh c e r.2 f tb l g i j k m):=by
 refine fG Tryz.func42 ?_;unfold wR at h;obtain⟨a,hy,h⟩:=eB h;rcases a with a|a
 ·replace h:=km h;refine(ae)<|cg [9,12,13] (PB hy) ?_;refine(ak)<|aX ?_;refine(ay)<|bS h (λ h=>?_) λ h=>?_
  ·(conv=>whnf);obtain⟨hg,h⟩:=dB h;cases h;refine gF 2 1 gs gk (@Sum.inl ar aw (ar.mk a.2.2.2.1 a.2.2.2.2 a.2.2.1 rf b d)) [1,9,12,355] ?_;exact gI (ii 14 [])
  refine(ae)<|aX ?_;refine(ak)<|cL h yk λ q h=>?_;cases h
 replace h:=ko h;rcases a with a|a
 ·replace h:=km h;refine(ae)<|cg [9,12,13] (PC hy) ?_;refine(ak)<|aX ?_;refine(ay)<|bS h (λ h=>?_) λ h=>?_
  ·(conv=>whnf);obtain⟨hg,h⟩:=dB h;cases h;refine gF 2 1 gs gk (@Sum.inl ar aw (ar.mk a.2.2.2.1 a.2.2.2.2.2 a.2.2.1 rf b d)) [1,9,12,356] ?_;exact gI (ii 14 [])
  refine(ae)<|aX ?_;refine(ak)<|cL h yk λ s h=>?_;cases h
 replace h:=ko h;refine(ae)<|cg [9,12,13] (PE hy) ?_;refine(ak)<|aX ?_;refine(ay)<|bS h (λ h=>?_) λ h=>?_
 ·(conv=>whnf);obtain⟨hg,h⟩:=dB h;cases h;refine gF 2 1 gs gk (@Sum.inl ar aw (ar.mk a.2.2.2.1 a.2.2.2.2.2.1 a.2.2.1 rf b d)) [1,9,12,356] ?_;exact gI (ii 14 [])
 refine(ae)<|aX ?_;refine(ak)<|cL h yk λ p h=>?_;(conv=>whnf);obtain⟨hg,h⟩:=dB h;cases h;refine gF 2 1 gs gk (@Sum.inr ar aw (aw.mk a.2.2.2.1 a.2.2.2.2.2.1 a.2.2.1 a.2.2.2.2.2.2.1 a.2.2.2.2.2.2.2.1 a.2.2.2.2.2.2.2.2 a.2.2.2.2.1 a.1 p.1 p.2)) [1,9,12,356,355,357] ?_;exact gI (ii 14 [])
theorem ZgC{a c d gs e tb l f i j k m r}(h:Dc F a c d gs e tb l f i j k m=some r):FZ ml 60 (T0 c d gs e tb l f i j k m) [pp 0,.agg (eU.c a)] (aI r.1) (T0 c d r.2 e tb l f i j k m):=by
 refine fG Tryz.func60 ?_;unfold Dc at h;refine(ak)<|aX ?_;(conv=>whnf);refine Ek h (λ hm h=>?_) (λ o hm h=>?_) (λ n hm h=>?_)
 ·refine Fi (ek:=(λ(b:Int)=>(AV.int IntKind.i64 b))) (gN:=ai.g) gs a.Node (.eT (.pointer none)) rfl rfl (ku Tryz.underlying3) hm ⟨96,_,by kernel_rfl,by kernel_rfl,.refl _⟩ ?_;exact qG (ii 10 [])
 ·refine wh (ek:=(λ(b:Int)=>(AV.int IntKind.i64 b))) (gN:=ai.g) gs a.Node _ rfl rfl (ku Tryz.underlying3) hm _ rfl rfl ?_;refine(ae)<|aX ?_;(conv=>whnf);left;(conv=>whnf);left;exact(ak)<|cG [0,288,1,2,3,4,5,6,7,289,8,9,290,291] h ZgA λ p h=>qG (ii 10 [])
 refine wh (ek:=(λ(b:Int)=>(AV.int IntKind.i64 b))) (gN:=ai.g) gs a.Node _ rfl rfl (ku Tryz.underlying3) hm _ rfl rfl ?_;refine(ae)<|aX ?_;(conv=>whnf);left;(conv=>whnf);left;(conv=>whnf);left;(conv=>whnf);obtain⟨hg,h⟩:=dB h;cases h;refine gF 1 288 gs a.Node (@Sum.inr ar aw n) [288,289,290,291,292,293] ?_;exact gI (ii 10 [])
theorem ZiG{a b c l m r}(h:FO F a b c l m=some r):FZ ml 79 (T6 c l m) [pp 0,aI a,aI b] (.cx []) (T6 c l r):=by
 refine fG Tryz.func79 ?_;unfold FO at h
 (conv=>whnf);left;refine(ak)<|cL h J7 λ e h=>?_;refine(ae)<|aX ?_;(conv=>whnf);obtain⟨hg,h⟩:=dU h;refine Or.inr (TH (ek:=(λ(d:ax)=>(AV.agg (ax.c d)))) (en:=(λ(d:Int)=>(AV.int IntKind.i64 d))) m e 1 rfl rfl (.refl _) rfl (λ a b=>(Jo Tryz.underlying218 _ _ _ _ _ _).trans (by cases a;cases b;simp)) hg ?_);exact qG [(0,0),(1,1),(2,2)]
theorem ZhQ{a c b gs d tb l e f g i m r}(h:FJ F a c b gs d tb l e f g i m=some r):FZ ml 61 (T0 c b gs d tb l e f g i m) [pp 0,.agg (eU.c a)] (aI r.1) (T0 c b gs d tb l e f g i r.2):=by
 refine fG Tryz.func61 ?_;unfold FJ at h;exact(ak)<|cG [2,8,9] h ZiG λ j h=>qG (ii 10 [])
theorem Zip{a b c l m r}(h:FL F a b c l m=some r):FZ ml 80 (T6 c l m) [pp 0,aI a,aI b] (.cx []) (T6 c l r):=by
 refine fG Tryz.func80 ?_;unfold FL at h
 (conv=>whnf);left;refine(ak)<|cL h J7 λ e h=>?_;refine(ae)<|aX ?_;(conv=>whnf);refine TG (ek:=(λ(d:ax)=>(AV.agg (ax.c d)))) (en:=(λ(d:Int)=>(AV.int IntKind.i64 d))) m e rfl rfl (λ a b=>(Jo Tryz.underlying218 _ _ _ _ _ _).trans (by cases a;cases b;simp)) ?_;exact qG [(0,0),(1,1),(2,2)]
theorem ZhC{a c b gs d tb l e f g i m r}(h:F3 F a c b gs d tb l e f g i m=some r):FZ ml 62 (T0 c b gs d tb l e f g i m) [pp 0,.agg (eU.c a)] (aI r.1) (T0 c b gs d tb l e f g i r.2):=by
 refine fG Tryz.func62 ?_;unfold F3 at h;exact(ak)<|cG [2,8,9] h Zip λ j h=>qG (ii 10 [])
theorem Zld{rf c a b d fs l e f g r}(h:CE F rf c a b d fs l e f g=some r):FZ ml 82 (Gj rf true c a b d fs l e f g) [pp 0] (.str r) (Gj rf true c a b d fs l e f g):=by
 refine fG Tryz.func82 ?_;unfold CE at h
 (conv=>whnf);left;(conv=>whnf);left;(conv=>whnf);left;(conv=>whnf);left;obtain⟨i,hy,h⟩:=eB h;refine⟨_,_,(lZ (cT (YU AV.sl rQ) rfl) (fx (FE hy) rfl)),Or.inr ⟨[416],rfl,?_⟩⟩;refine(ae)<|aX ?_;(conv=>whnf);obtain⟨hg,h⟩:=Ja h;refine⟨_,JY rQ hg,?_⟩;exact qG (ii 6 [])
theorem Zj2{r_ eS b r}(h:zH F r_ eS b=some r):FZ ml 81 [] [.agg (bD.c r_),aI eS,.str b] (.cx [.agg [aI r.1,sM cJ r.2.1,aI r.2.2.1,aI r.2.2.2.1,aI r.2.2.2.2.1,aI r.2.2.2.2.2.1,aI r.2.2.2.2.2.2.1,aI r.2.2.2.2.2.2.2.1,sM bx.c r.2.2.2.2.2.2.2.2.1,.str r.2.2.2.2.2.2.2.2.2.1,aI r.2.2.2.2.2.2.2.2.2.2.1,aI r.2.2.2.2.2.2.2.2.2.2.2.1,aI r.2.2.2.2.2.2.2.2.2.2.2.2.1,.bf 0 1,.bf 1 1,.bf 2 1],aI r.2.2.2.2.2.2.2.2.2.2.2.2.2.1]) (Dz r.2.2.2.2.2.2.2.2.2.2.2.2.2.2.1 r.2.2.2.2.2.2.2.2.2.2.2.2.2.2.2.1 r.2.2.2.2.2.2.2.2.2.2.2.2.2.2.2.2):=by
 refine fG Tryz.func81 ?_;unfold zH at h
 (conv=>whnf);left;(conv=>whnf);left;refine(ak)<|cR h FA λ a h=>?_;refine(ak)<|cL h qS λ e h=>?_;refine(ay)<|bS h (λ h=>qG [(0,161),(1,162),(2,163)]) λ h=>?_;refine(ae)<|jN h λ d=>jM [(1,aI eS),(2,.str b),(6,pp 0),(8,pp 1),(39,.bool d)] (DA a.1 a.2.1 a.2.2.1 a.2.2.2.1 a.2.2.2.2) 6 (λ h=>qE [(0,64),(1,160),(2,161),(3,162),(4,163),(5,164)]) λ h=>?_;refine(ay)<|bS h (λ h=>qG [(0,2),(1,3),(2,4)]) λ h=>?_;exact(ak)<|cR h Kh λ f h=>qG [(0,2),(1,3),(2,4)]
end Go.T
