import Derived.Test.YtjpmdkgonlmddaaGreatDoorCertA
set_option linter.unusedVariables false
set_option maxRecDepth 200000
set_option maxHeartbeats 4000000
namespace Go.T
open Go Go.Ab Go.Proofs
variable {ml:Gv}{F:Nat}
theorem Ku{bZ c a b k fs l r}(h:sA F bZ c a b k fs l=some r):FZ ml 96 (DB c a b k fs l) [pp 0,sM (fJ cB) bZ] (aI r.1) (Ao r.2.1 r.2.2.1 r.2.2.2.1 r.2.2.2.2.1 r.2.2.2.2.2.1 r.2.2.2.2.2.2):=by
 refine fG Tryz.func96 ?_;unfold sA at h
 (conv=>whnf);left;(conv=>whnf);left;refine(ak)<|cR h (λ h=>fx (Zk9 h) rfl) λ m h=>?_;refine(ay)<|bS h (λ h=>qG [(0,0),(1,1),(2,2),(4,3)]) λ h=>?_;refine(ak)<|cR h (λ h=>fx (Kq h) rfl) λ j h=>?_;refine(ae)<|gX h λ h=>?_;refine(ak)<|cR h (λ h=>fx (Ko h) rfl) λ w h=>?_;refine(ay)<|bS h (λ h=>qG [(0,0),(1,1),(2,2),(4,3)]) λ h=>?_;refine(ae)<|jS h λ o0 ⟨o,p,q⟩=>jT [(0,pp 0),(1,sM (fJ cB) bZ),(7,.str (([108,111,103,45]:aj)++j))] (Ao c (IntKind.wrap IntKind.i64 (a+(1:Int))) b (o) p q) 5 (λ h k0 e=>?_) λ h=>?_
 ·refine(ak)<|lI (λ n' ⟨d,f,g,i⟩=>pB F c a b m j n' d f g i) (λ⟨d,f,g,i⟩=>[(0,pp 0),(1,sM (fJ cB) bZ),(7,.str (([108,111,103,45]:aj)++j)),(44,sM (fJ cB) m.2),(45,aI ((List.length (List.map (fJ cB) m.2):Nat):Int)),(46,aI d)]) (λ⟨d,f,g,i⟩=>(Ao c (IntKind.wrap IntKind.i64 (a+(1:Int))) b f g i)) 5 (0,k,fs,l) [(0,0),(1,1),(2,2),(4,3)] h ?_;rintro s ⟨d,f,g,i⟩ h;dsimp only at h;rw[pB.eq_2]at h;refine(ay)<|bS h (λ h=>?_) λ h=>?_
  ·refine(ak)<|gX h λ h=>?_;refine(ae)<|oB h λ x h=>?_;refine(ae)<|cG [1,2,4] h PY λ n h=>?_;refine(ay)<|bS h (λ h=>?_) λ h=>?_
   ·cases h;cases k0;exact gI (ii 4 [(4,328)])
   exact rE (s,(IntKind.wrap IntKind.i64 (d+(1:Int))),n.2.1,n.2.2.1,n.2.2.2) (ii 4 [(4,328)]) h
  exact qE (ii 5 [])
 refine(ae)<|cG [1,2,4] h P5 λ y h=>?_;refine(ae)<|jN h λ⟨t,u,v⟩=>jM [(0,pp 0),(1,sM (fJ cB) bZ),(7,.str (([108,111,103,45]:aj)++j))] (Ao c (IntKind.wrap IntKind.i64 (a+(1:Int))) b t u v) 5 (λ h=>?_) λ h=>?_
 ·refine(ay)<|bS h (λ h=>?_) λ h=>?_
  ·exact(ae)<|cG [1,2,168] h Dt λ z h=>qE (ii 4 [(4,616)])
  exact qE (ii 4 [(4,168)])
 exact qG (ii 5 [])
theorem Ki{c fs l r}(h:uX F c fs l=some (Sum.inl r)):FZ ml 67 (T5 c fs l) [pp 0] (.cx [AV.eT (Value.pointer none),.bf 3 1,aI r.1]) (Gi r.2.1 r.2.2.1++[(3,rT (fJ cB) r.2.2.2.1),(4,rT bP.c r.2.2.2.2)]):=by
 refine fG Tryz.func67 ?_;unfold uX at h
 (conv=>whnf);left;refine(ak)<|cH [0,1,2] h PX λ f h=>?_;refine(ae)<|jN h λ z=>jM [(1,pp 3),(5,.bf 4 1)] (T5 c fs l++[(3,rF [pp 0]),(4,rT cJ z)]) 5 (λ h=>?_) λ h=>?_
 ·refine(ak)<|lI (λ n' x'=>tu F f n' x'.1 x'.2) (λ x'=>[(1,pp 3),(5,.bf 4 1),(24,sM gy f),(25,aI ((List.length (List.map gy f):Nat):Int)),(26,aI x'.1)]) (λ x'=>(T5 c fs l++[(3,rF [pp 0]),(4,rT cJ x'.2)])) 5 (0,[]) [(0,0),(1,1),(2,2),(3,32),(4,224)] h ?_;rintro A ⟨w,R⟩ h;dsimp only at h;rw[tu.eq_2]at h;refine(ay)<|bS h (λ h=>?_) λ h=>?_
  ·refine(ae)<|jN h λ x=>jM [(1,pp 3),(5,.bf 4 1),(24,sM gy f),(25,aI ((List.length (List.map gy f):Nat):Int)),(26,aI w)] (T5 c fs l++[(3,rF [pp 0]),(4,rT cJ x)]) 5 (λ h=>?_) λ h=>?_
   ·refine(ak)<|gX h λ h=>?_;refine(ae)<|oB h λ S h=>?_;refine(ak)<|cR h (λ h=>fx (Ko h) rfl) λ T h=>?_;refine(ay)<|bS h (λ h=>?_) λ h=>?_
    ·refine(ak)<|aX ?_;refine(ae)<|aX ?_;refine(ae)<|gS h λ h=>?_;cases h;exact eE (ii 4 [(4,389)])
    exact qE (ii 5 [])
   exact rE (A,(IntKind.wrap IntKind.i64 (w+(1:Int))),x) (ii 5 []) h
  exact qE (ii 5 [])
 refine(ae)<|cG [4] h P8 λ U h=>?_;(conv=>whnf);left;(conv=>whnf);left;(conv=>whnf);left;(conv=>whnf);left;(conv=>whnf);left;(conv=>whnf);left;obtain⟨g,hy,h⟩:=eB h;refine⟨_,_,(fx (P7 hy) rfl),Or.inr ⟨[4],rfl,?_⟩⟩;refine(ak)<|aX ?_;obtain⟨o5,h5,h⟩:=eB h;(conv=>whnf);refine Nc 140 g 46 47 13 (α:=(Int×(List (aj×aa))×(List aa)×Bool×(List bP)×aj×Int×Int)) ((1,(AV.ptr 3 0 0))::((9,(AV.ptr 4 0 0))::((10,(AV.ptr 5 0 0))::((11,(AV.ptr 6 0 0))::[])))) (λ xq=>((0,(AO.rows false (((AV.bm 1)::((AV.bf 7 2)::((AV.int IntKind.i64 xq.1)::[])))::[])))::((1,(fS xq.2.1))::((3,(AO.rows false (((AV.ptr 0 0 0)::[])::[])))::((4,(AO.rows false (((AV.ptr 8 0 0)::[])::[])))::((5,(AO.rows false (((AV.sl (List.map (fJ cB) xq.2.2.1))::[])::[])))::((6,(AO.rows false (((AV.bool xq.2.2.2.1)::[])::[])))::((7,(AO.rows true (List.map bP.c xq.2.2.2.2.1)))::((8,(AO.rows false (((AV.ptr 0 0 0)::((AV.str xq.2.2.2.2.2.1)::((AV.int IntKind.i64 xq.2.2.2.2.2.2.1)::((AV.int IntKind.i64 xq.2.2.2.2.2.2.2)::[]))))::[])))::[]))))))))) 9 (λ kq xq=>lx F (List.drop kq (List.reverse g)) xq.1 xq.2.1 xq.2.2.1 xq.2.2.2.1 xq.2.2.2.2.1 xq.2.2.2.2.2.1 xq.2.2.2.2.2.2.1 xq.2.2.2.2.2.2.2=some o5) (c,fs,[],false,l,([]:aj),0,0) [(0,0),(1,1),(3,3),(4,165),(5,229),(6,261),(7,2),(8,133)] My rfl rfl rfl h5 (eZ.cons (Wk.eq rfl) (eZ.cons (Wk.eq rfl) (eZ.cons (Wk.eq rfl) (eZ.cons (Wk.eq rfl) eZ.nil)))) (dP.cons (gO.eq (W5 rfl)) (dP.cons (gO.eq (W5 rfl)) (dP.cons (gO.eq (W5 rfl)) (dP.cons (gO.eq (W5 rfl)) (dP.cons (gO.r (mI.cons (eZ.cons Wk.dK eZ.nil) mI.nil)) (dP.cons (gO.eq (W5 rfl)) (dP.cons (gO.eq (W5 rfl)) (dP.cons (gO.eq (W5 rfl)) dP.nil)))))))) rfl (λ kq b xq hk hI=>?_) (λ xq hI=>?_)
 ·obtain⟨i,j,k,m,n,o,a,p⟩:=xq;replace hI:lx F (List.drop kq (List.reverse g)) i j k m n o a p=some o5:=hI;rw[Cd hk,lx.eq_2]at hI;clear h;have h:=hI;clear hI;(conv=>whnf);left;refine(ak)<|cR h (λ h=>fx (Kq h) rfl) λ t h=>?_;refine(ae)<|gX h λ h=>?_;refine(ae)<|aX ?_;obtain⟨d,hy,h⟩:=eB h;rcases d with d|d
  ·replace h:=km h;refine(ae)<|cg [0,1,7] (P3 hy) ?_;(conv=>whnf);left;obtain⟨q,hy,h⟩:=eB h;refine⟨_,_,(fx (Fw hy) rfl),Or.inr ⟨[556],rfl,?_⟩⟩;refine(ae)<|jN h λ B=>jM [(1,pp 3),(9,pp 4),(10,pp 5),(11,pp 6),(14,.str (([108,111,103,45]:aj)++t)),(15,.bf 7 1),(17,sM (fJ cB) q.2.2),(18,aI q.1),(80,.bool B)] (Qa i j k m++[(7,AO.dD (List.map cB d.2)),(8,rT bP.c n),(9,rF [pp 0,.str o,aI (if(b>a)then b else a),aI p])]) 10 (λ h=>qE (ii 7 [(7,556),(8,7),(9,8)])) λ h=>?_;refine(ay)<|bS h (λ h=>?_) λ h=>?_
   ·refine(ae)<|cG [0,1,8] h Dt λ u h=>?_;(conv=>whnf);exact⟨(u.2.1,u.2.2.1,k,m,u.2.2.2,o,(if(b>a)then b else a),p),(ii 7 [(7,77),(8,9)]),h,rfl,(.of_eq rfl),(.of_eq rfl)⟩
   (conv=>whnf);exact⟨(i,j,q.2.2,(q.1==((List.length (List.map cB d.2):Nat):Int)),n,(([108,111,103,45]:aj)++t),(if(b>a)then b else a),((List.length (List.map (fJ cB) q.2.2):Nat):Int)),(ii 7 [(7,8),(8,9)]),h,rfl,(.of_eq rfl),(.of_eq rfl)⟩
  replace h:=ko h;refine(ae)<|ch [0,1,7] (P4 hy) ?_;refine(ak)<|cR h (λ h=>fx (Fw h) rfl) λ s h=>?_;refine(ae)<|jN h λ C=>jM [(1,pp 3),(9,pp 4),(10,pp 5),(11,pp 6),(14,.str (([108,111,103,45]:aj)++t)),(15,sM cB d.1),(17,sM (fJ cB) s.2.2),(18,aI s.1),(80,.bool C)] (Qd i j k m n o (if(b>a)then b else a) p) 9 (λ h=>qE (ii 9 [])) λ h=>?_;refine(ay)<|bS h (λ h=>?_) λ h=>?_
  ·refine(ae)<|cG [0,1,7] h Dt λ v h=>?_;(conv=>whnf);exact⟨(v.2.1,v.2.2.1,k,m,v.2.2.2,o,(if(b>a)then b else a),p),(ii 7 [(7,76),(8,8)]),h,rfl,(.of_eq rfl),(.of_eq rfl)⟩
  (conv=>whnf);exact⟨(i,j,s.2.2,(s.1==((List.length (List.map cB d.1):Nat):Int)),n,(([108,111,103,45]:aj)++t),(if(b>a)then b else a),((List.length (List.map (fJ cB) s.2.2):Nat):Int)),(ii 9 []),h,rfl,(.of_eq rfl),(.of_eq rfl)⟩
 obtain⟨D,E,y,G,H,I,J,K⟩:=xq;replace hI:lx F (List.drop (List.length g) (List.reverse g)) D E y G H I J K=some o5:=hI;rw[Nx,lx.eq_1]at hI;cases hI;refine(ae)<|jS h λ o8 ⟨L,M,N,O,P,Q⟩=>jT [(9,pp 3),(10,pp 4)] (Qc (L) M y N O (P) (Q)) 7 (λ h k8 e=>?_) λ h=>?_
 ·refine(ay)<|bS h (λ h=>?_) λ h=>?_
  ·refine(ae)<|cG [8,0,1,7] h Ku λ V h=>?_;refine(ay)<|bS h (λ h=>?_) λ h=>?_
   ·cases h;cases k8;exact gE [(0,0),(1,1),(2,2),(3,329),(4,141)]
   exact qE [(0,0),(1,1),(2,2),(3,4),(4,5),(5,141),(6,8)]
  exact qE [(0,0),(1,1),(2,2),(3,4),(4,5),(5,7),(6,8)]
 refine(ae)<|aX ?_;cases h
theorem Kj{c fs l r}(h:uX F c fs l=some (Sum.inr r)):FZ ml 67 (T5 c fs l) [pp 0] (.cx [pp 3,sM (fJ cB) r.1,aI r.2.1]) (Gi r.2.2.1 r.2.2.2.1++[(3,rF [pp 0,.str r.2.2.2.2.1,aI r.2.2.2.2.2.1,aI r.2.2.2.2.2.2.1]),(4,rT bP.c r.2.2.2.2.2.2.2)]):=by
 refine fG Tryz.func67 ?_;unfold uX at h
 (conv=>whnf);left;refine(ak)<|cH [0,1,2] h PX λ f h=>?_;refine(ae)<|jN h λ z=>jM [(1,pp 3),(5,.bf 4 1)] (T5 c fs l++[(3,rF [pp 0]),(4,rT cJ z)]) 5 (λ h=>?_) λ h=>?_
 ·refine(ak)<|lI (λ n' x'=>tu F f n' x'.1 x'.2) (λ x'=>[(1,pp 3),(5,.bf 4 1),(24,sM gy f),(25,aI ((List.length (List.map gy f):Nat):Int)),(26,aI x'.1)]) (λ x'=>(T5 c fs l++[(3,rF [pp 0]),(4,rT cJ x'.2)])) 5 (0,[]) [(0,0),(1,1),(2,2),(3,32),(4,224)] h ?_;rintro A ⟨w,R⟩ h;dsimp only at h;rw[tu.eq_2]at h;refine(ay)<|bS h (λ h=>?_) λ h=>?_
  ·refine(ae)<|jN h λ x=>jM [(1,pp 3),(5,.bf 4 1),(24,sM gy f),(25,aI ((List.length (List.map gy f):Nat):Int)),(26,aI w)] (T5 c fs l++[(3,rF [pp 0]),(4,rT cJ x)]) 5 (λ h=>?_) λ h=>?_
   ·refine(ak)<|gX h λ h=>?_;refine(ae)<|oB h λ S h=>?_;refine(ak)<|cR h (λ h=>fx (Ko h) rfl) λ T h=>?_;refine(ay)<|bS h (λ h=>?_) λ h=>?_
    ·refine(ak)<|aX ?_;refine(ae)<|aX ?_;refine(ae)<|gS h λ h=>?_;cases h;exact eE (ii 4 [(4,389)])
    exact qE (ii 5 [])
   exact rE (A,(IntKind.wrap IntKind.i64 (w+(1:Int))),x) (ii 5 []) h
  exact qE (ii 5 [])
 refine(ae)<|cG [4] h P8 λ U h=>?_;(conv=>whnf);left;(conv=>whnf);left;(conv=>whnf);left;(conv=>whnf);left;(conv=>whnf);left;(conv=>whnf);left;obtain⟨g,hy,h⟩:=eB h;refine⟨_,_,(fx (P7 hy) rfl),Or.inr ⟨[4],rfl,?_⟩⟩;refine(ak)<|aX ?_;obtain⟨o5,h5,h⟩:=eB h;(conv=>whnf);refine Nc 140 g 46 47 13 (α:=(Int×(List (aj×aa))×(List aa)×Bool×(List bP)×aj×Int×Int)) ((1,(AV.ptr 3 0 0))::((9,(AV.ptr 4 0 0))::((10,(AV.ptr 5 0 0))::((11,(AV.ptr 6 0 0))::[])))) (λ xq=>((0,(AO.rows false (((AV.bm 1)::((AV.bf 7 2)::((AV.int IntKind.i64 xq.1)::[])))::[])))::((1,(fS xq.2.1))::((3,(AO.rows false (((AV.ptr 0 0 0)::[])::[])))::((4,(AO.rows false (((AV.ptr 8 0 0)::[])::[])))::((5,(AO.rows false (((AV.sl (List.map (fJ cB) xq.2.2.1))::[])::[])))::((6,(AO.rows false (((AV.bool xq.2.2.2.1)::[])::[])))::((7,(AO.rows true (List.map bP.c xq.2.2.2.2.1)))::((8,(AO.rows false (((AV.ptr 0 0 0)::((AV.str xq.2.2.2.2.2.1)::((AV.int IntKind.i64 xq.2.2.2.2.2.2.1)::((AV.int IntKind.i64 xq.2.2.2.2.2.2.2)::[]))))::[])))::[]))))))))) 9 (λ kq xq=>lx F (List.drop kq (List.reverse g)) xq.1 xq.2.1 xq.2.2.1 xq.2.2.2.1 xq.2.2.2.2.1 xq.2.2.2.2.2.1 xq.2.2.2.2.2.2.1 xq.2.2.2.2.2.2.2=some o5) (c,fs,[],false,l,([]:aj),0,0) [(0,0),(1,1),(3,3),(4,165),(5,229),(6,261),(7,2),(8,133)] My rfl rfl rfl h5 (eZ.cons (Wk.eq rfl) (eZ.cons (Wk.eq rfl) (eZ.cons (Wk.eq rfl) (eZ.cons (Wk.eq rfl) eZ.nil)))) (dP.cons (gO.eq (W5 rfl)) (dP.cons (gO.eq (W5 rfl)) (dP.cons (gO.eq (W5 rfl)) (dP.cons (gO.eq (W5 rfl)) (dP.cons (gO.r (mI.cons (eZ.cons Wk.dK eZ.nil) mI.nil)) (dP.cons (gO.eq (W5 rfl)) (dP.cons (gO.eq (W5 rfl)) (dP.cons (gO.eq (W5 rfl)) dP.nil)))))))) rfl (λ kq b xq hk hI=>?_) (λ xq hI=>?_)
 ·obtain⟨i,j,k,m,n,o,a,p⟩:=xq;replace hI:lx F (List.drop kq (List.reverse g)) i j k m n o a p=some o5:=hI;rw[Cd hk,lx.eq_2]at hI;clear h;have h:=hI;clear hI;(conv=>whnf);left;refine(ak)<|cR h (λ h=>fx (Kq h) rfl) λ t h=>?_;refine(ae)<|gX h λ h=>?_;refine(ae)<|aX ?_;obtain⟨d,hy,h⟩:=eB h;rcases d with d|d
  ·replace h:=km h;refine(ae)<|cg [0,1,7] (P3 hy) ?_;(conv=>whnf);left;obtain⟨q,hy,h⟩:=eB h;refine⟨_,_,(fx (Fw hy) rfl),Or.inr ⟨[556],rfl,?_⟩⟩;refine(ae)<|jN h λ B=>jM [(1,pp 3),(9,pp 4),(10,pp 5),(11,pp 6),(14,.str (([108,111,103,45]:aj)++t)),(15,.bf 7 1),(17,sM (fJ cB) q.2.2),(18,aI q.1),(80,.bool B)] (Qa i j k m++[(7,AO.dD (List.map cB d.2)),(8,rT bP.c n),(9,rF [pp 0,.str o,aI (if(b>a)then b else a),aI p])]) 10 (λ h=>qE (ii 7 [(7,556),(8,7),(9,8)])) λ h=>?_;refine(ay)<|bS h (λ h=>?_) λ h=>?_
   ·refine(ae)<|cG [0,1,8] h Dt λ u h=>?_;(conv=>whnf);exact⟨(u.2.1,u.2.2.1,k,m,u.2.2.2,o,(if(b>a)then b else a),p),(ii 7 [(7,77),(8,9)]),h,rfl,(.of_eq rfl),(.of_eq rfl)⟩
   (conv=>whnf);exact⟨(i,j,q.2.2,(q.1==((List.length (List.map cB d.2):Nat):Int)),n,(([108,111,103,45]:aj)++t),(if(b>a)then b else a),((List.length (List.map (fJ cB) q.2.2):Nat):Int)),(ii 7 [(7,8),(8,9)]),h,rfl,(.of_eq rfl),(.of_eq rfl)⟩
  replace h:=ko h;refine(ae)<|ch [0,1,7] (P4 hy) ?_;refine(ak)<|cR h (λ h=>fx (Fw h) rfl) λ s h=>?_;refine(ae)<|jN h λ C=>jM [(1,pp 3),(9,pp 4),(10,pp 5),(11,pp 6),(14,.str (([108,111,103,45]:aj)++t)),(15,sM cB d.1),(17,sM (fJ cB) s.2.2),(18,aI s.1),(80,.bool C)] (Qd i j k m n o (if(b>a)then b else a) p) 9 (λ h=>qE (ii 9 [])) λ h=>?_;refine(ay)<|bS h (λ h=>?_) λ h=>?_
  ·refine(ae)<|cG [0,1,7] h Dt λ v h=>?_;(conv=>whnf);exact⟨(v.2.1,v.2.2.1,k,m,v.2.2.2,o,(if(b>a)then b else a),p),(ii 7 [(7,76),(8,8)]),h,rfl,(.of_eq rfl),(.of_eq rfl)⟩
  (conv=>whnf);exact⟨(i,j,s.2.2,(s.1==((List.length (List.map cB d.1):Nat):Int)),n,(([108,111,103,45]:aj)++t),(if(b>a)then b else a),((List.length (List.map (fJ cB) s.2.2):Nat):Int)),(ii 9 []),h,rfl,(.of_eq rfl),(.of_eq rfl)⟩
 obtain⟨D,E,y,G,H,I,J,K⟩:=xq;replace hI:lx F (List.drop (List.length g) (List.reverse g)) D E y G H I J K=some o5:=hI;rw[Nx,lx.eq_1]at hI;cases hI;refine(ae)<|jS h λ o8 ⟨L,M,N,O,P,Q⟩=>jT [(9,pp 3),(10,pp 4)] (Qc (L) M y N O (P) (Q)) 7 (λ h k8 e=>?_) λ h=>?_
 ·refine(ay)<|bS h (λ h=>?_) λ h=>?_
  ·refine(ae)<|cG [8,0,1,7] h Ku λ V h=>?_;refine(ay)<|bS h (λ h=>?_) λ h=>?_
   ·cases h;cases k8
   exact qE [(0,0),(1,1),(2,2),(3,4),(4,5),(5,141),(6,8)]
  exact qE [(0,0),(1,1),(2,2),(3,4),(4,5),(5,7),(6,8)]
 exact qG [(0,0),(1,1),(2,2),(3,6),(4,5)]
theorem Zj0{r}(h:Fv F=some r):FZ ml 97 [] [] (AV.bm 0) [(0,AO.cw 1 (@eD Int Int (λ(a:Int)=>(AV.int IntKind.u8 a)) cJ r) none)]:=by
 refine fG Tryz.func97 ?_;unfold Fv at h
 (conv=>whnf);refine Or.inr ?_;(conv=>whnf);refine⟨Or.inl ⟨1,?_⟩⟩;refine(ak)<|aX ?_;(conv=>whnf);obtain⟨hg,h⟩:=dU h;refine xC (ek:=(λ(a:Int)=>(AV.int IntKind.u8 a))) (en:=cJ) [] 1 (1::(1::(1::[]))) 96 rfl rfl (ku Tryz.underlying5) (.inl rfl) hg rfl _ rfl rQ (λ _=>rfl) rfl ?_;refine(ak)<|aX ?_;(conv=>whnf);obtain⟨hg,h⟩:=dU h;refine xC (ek:=(λ(a:Int)=>(AV.int IntKind.u8 a))) (en:=cJ) (bW 1 (1::(1::(1::[]))) []) 2 (1::(1::(1::(3::[])))) 160 rfl rfl (ku Tryz.underlying5) (.inl rfl) hg rfl _ rfl rQ (λ _=>rfl) rfl ?_;refine(ak)<|aX ?_;(conv=>whnf);obtain⟨hg,h⟩:=dU h;refine xC (ek:=(λ(a:Int)=>(AV.int IntKind.u8 a))) (en:=cJ) (bW 2 (1::(1::(1::(3::[])))) (bW 1 (1::(1::(1::[]))) [])) 3 (1::(1::(1::(3::[])))) 224 rfl rfl (ku Tryz.underlying5) (.inl rfl) hg rfl _ rfl rQ (λ _=>rfl) rfl ?_;refine(ak)<|aX ?_;(conv=>whnf);obtain⟨hg,h⟩:=dU h;refine xC (ek:=(λ(a:Int)=>(AV.int IntKind.u8 a))) (en:=cJ) (bW 3 (1::(1::(1::(3::[])))) (bW 2 (1::(1::(1::(3::[])))) (bW 1 (1::(1::(1::[]))) []))) 4 (1::(1::[])) 288 rfl rfl (ku Tryz.underlying5) (.inl rfl) hg rfl _ rfl rQ (λ _=>rfl) rfl ?_;exact qG [(0,64)]
theorem Zjr{b l r}(h:zI F b l=some r):FZ ml 33 (j4 l) [.bf 0 1,sM cB b] (.cx [.bf 1 3,aI r.1]) (j4 l++[(1,rT cA.c r.2)]):=by
 refine fG Tryz.func33 ?_;unfold zI at h;refine(ae)<|jS h λ o0 ⟨d,f⟩=>jT [(1,sM cB d),(6,.bf 1 3)] (j4 l++[(1,rT cA.c f)]) 2 (λ h k0 e=>?_) λ h=>?_
 ·refine(ak)<|lI (λ n' x'=>zZ F l n' x'.1 x'.2.1 x'.2.2) (λ x'=>[(1,sM cB x'.1),(6,.bf 1 3),(12,.bf 0 1),(13,aI ((List.length (List.map cJ l):Nat):Int)),(14,aI x'.2.1)]) (λ x'=>(j4 l++[(1,rT cA.c x'.2.2)])) 2 (b,0,[]) [(0,0),(1,96)] h ?_;rintro g ⟨i,j,k⟩ h;dsimp only at h;rw[zZ.eq_2]at h;refine(ay)<|bS h (λ h=>?_) λ h=>?_
  ·refine(ak)<|gX h λ h=>?_;refine(ae)<|oB h λ m h=>?_;refine(ae)<|oB h λ n h=>?_;refine(ak)<|cL h Pj λ a h=>?_;(conv=>whnf);left;refine(ay)<|bS h (λ h=>?_) λ h=>?_
   ·cases h;cases k0;exact gE [(0,0),(1,578)]
   refine(ak)<|aX ?_;refine(ae)<|aX ?_;refine(ae)<|gS h λ h=>?_;refine(ae)<|aX ?_;refine(ae)<|gX h λ h=>?_;refine(ae)<|gS h λ h=>?_;refine(ae)<|gS h λ h=>?_;exact rV (g,(List.drop (Int.toNat a.2.1) i),(IntKind.wrap IntKind.i64 (j+(1:Int))),(k++(a.1::[]))) [(0,0),(1,642)] h
  exact qE [(0,0),(1,1)]
 refine(ay)<|bS h (λ h=>?_) λ h=>?_
 ·cases h;exact gE [(0,0),(1,98)]
 exact qG [(0,0),(1,1)]
theorem wO{s r}(h:qT F s=some r):FZ ml 44 [] [(.sl (List.map bx.c s))] (.bf 0 2) [(0,.rows true (List.map bx.c r))]:=by
 unfold qT at h;obtain⟨hg,h⟩:=dU h;cases h;refine mR 2000 Tryz.func44 rfl (by kernel_rfl) mixed (by show 1≤8;decide) (by decide) rfl ?_
 refine oL ?_;refine And.intro (λ hp=>?_) ?_
 ·conv=>whnf
  exact lH [(0,128)] rfl (by rw[hp];rfl) rfl
 refine oL ?_;refine And.intro (eF.map (λ _=>rfl)) ?_;refine And.intro eF.nil ?_
 refine And.intro (show 0+(List.map bx.c s).length≤bI by simpa using hg) ?_
 conv=>whnf
 exact gI [(0,192)]
theorem zQ{t n r}(h:pt F t n=some r):FZ ml 149 [] [.agg (ca.c t),aI n] (.cx [aI r.1,.bool r.2]) []:=by
 refine fA Tryz.func149 ?_;unfold pt at h;refine(ak)<|jN h λ a=>jM [(1,aI n),(2,pp 0),(20,.bool a)] [(0,rF (ca.c t))] 1 (λ h=>?_) λ h=>?_
 ·(conv=>whnf);left;refine(ak)<|cL h wG λ b h=>?_;refine(ae)<|bS h (λ h=>qE [(0,32)]) λ h=>?_;refine(ae)<|bS h (λ h=>qE [(0,32)]) λ h=>?_;exact(ak)<|cL h zR λ d h=>qE [(0,32)]
 refine(ay)<|bS h (λ h=>qR) λ h=>?_;exact(ak)<|cL h PH λ e h=>qR
theorem Kh{t eS r}(h:sq F t eS=some r):FZ ml 124 [] [.agg (ca.c t),aI eS] (.cx [.agg (ca.c r.1),.bool r.2]) []:=by
 refine fK Tryz.func124 ?_;unfold sq at h
 (conv=>whnf);left;(conv=>whnf);left;refine(ak)<|cL h zQ λ a h=>?_;refine(ay)<|bS h (λ h=>qK) λ h=>?_;refine(ae)<|aX ?_;refine(ae)<|gX h λ h=>?_;refine(ae)<|gS h λ h=>?_;refine(ae)<|gS h λ h=>?_;(conv=>whnf);left;(conv=>whnf);obtain⟨b,hy,h⟩:=eB h;refine⟨_,_,(lZ (cT (YU AV.sl rQ) rfl) (fx (wO hy) rfl)),Or.inr ⟨[],rfl,?_⟩⟩;exact qK
theorem Kk{t n term r}(h:uS F t n term=some r):FZ ml 98 [] [.agg (ca.c t),aI n,aI term] (.agg (ca.c r)) []:=by
 refine fK Tryz.func98 ?_;unfold uS at h
 (conv=>whnf);left;(conv=>whnf);left;refine(ak)<|cL h zQ λ b h=>?_;refine(ae)<|jN h λ a=>jM [(1,aI n),(2,aI term),(3,pp 0),(6,pp 1),(20,.bool a)] (yI t 0 0) 2 (λ h=>qE [(0,32),(1,64)]) λ h=>?_;refine(ay)<|bS h (λ h=>?_) λ h=>?_
 ·exact(ak)<|cR h Kh λ d h=>qK
 exact qK
theorem F'{s r}(h:wQ F s=some r):FZ ml 150 [] [(.sl (List.map cJ s))] (.bf 0 1) [(0,.rows true (List.map cJ r))]:=by
 unfold wQ at h;obtain⟨hg,h⟩:=dU h;cases h;refine mR 2000 Tryz.func150 rfl (by kernel_rfl) mixed (by show 1≤8;decide) (by decide) rfl ?_
 refine oL ?_;refine And.intro (λ hp=>?_) ?_
 ·conv=>whnf
  exact lH [(0,128)] rfl (by rw[hp];rfl) rfl
 refine oL ?_;refine And.intro (eF.map (λ _=>rfl)) ?_;refine And.intro eF.nil ?_
 refine And.intro (show 0+(List.map cJ s).length≤bI by simpa using hg) ?_
 conv=>whnf
 exact gI [(0,192)]
theorem Zlc{r_ r}(h:CB F r_=some r):FZ ml 99 [] [.agg (bD.c r_)] (.agg (bD.c r)) []:=by
 refine fA Tryz.func99 ?_;unfold CB at h
 (conv=>whnf);left;(conv=>whnf);left;refine(ak)<|cR h (λ h=>fx (yD h) rfl) λ a h=>?_;refine(ak)<|cR h (λ h=>fx (yD h) rfl) λ b h=>?_;refine(ak)<|cR h (λ h=>fx (F' h) rfl) λ d h=>?_;refine(ak)<|cR h (λ h=>fx (F' h) rfl) λ e h=>?_;refine(ae)<|aX ?_;exact(ak)<|cR h (λ h=>fx (wO h) rfl) λ f h=>qR
theorem qi{r_ r}(h:nN F r_=some r):FZ ml 69 [] [.agg (bD.c r_)] (.agg (bD.c r)) []:=by
 refine fK Tryz.func69 ?_;unfold nN at h
 (conv=>whnf);left;(conv=>whnf);left;exact(ak)<|cR h Zlc λ a h=>qK
theorem zK{r_ b r}(h:va F r_ b=some r):FZ ml 68 [] [.agg (bD.c r_),sM cB b] (.cx [.agg (bD.c r.1),.bool r.2]) []:=by
 refine fA Tryz.func68 ?_;unfold va at h
 (conv=>whnf);left;(conv=>whnf);left;refine(ay)<|bS h (λ h=>qR) λ h=>?_;refine(ak)<|cR h Zj0 λ a h=>?_;refine(ae)<|aX ?_;refine(ae)<|oB h λ d h=>?_;refine(ae)<|aX ?_;(conv=>whnf);refine both (b:=(Option.isSome (az d a))) (λ hb=>?_) λ hb=>?_
 ·replace h:=si h hb;refine zx (ek:=(λ(f:Int)=>(AV.int IntKind.u8 f))) (en:=cJ) a d rfl rfl (ku Tryz.underlying5) hb ?_;refine(ae)<|cG [352] h Zjr λ g h=>?_;refine(ae)<|aX ?_;refine(ae)<|jN h λ l=>jM [(1,sM cB b),(2,pp 0),(4,pp 1),(6,.bf 2 3),(30,.bool l)] (me r_++[(1,rF qq),(2,rT cA.c g.2)]) 3 (λ h=>qE [(0,32),(1,64),(2,417)]) λ h=>?_;refine(ay)<|bS h (λ h=>qR) λ h=>?_;refine(ae)<|aX ?_;refine(ae)<|oB h λ A h=>?_;refine(ae)<|oB h λ i h=>?_;refine(ae)<|aX ?_;refine(ae)<|aX ?_;refine(ae)<|oB h λ B h=>?_;(conv=>whnf);left;refine(ay)<|bS h (λ h=>?_) λ h=>?_
  ·refine(ae)<|aX ?_;refine(ae)<|oB h λ C h=>?_;refine(ae)<|oB h λ D h=>?_;refine(ae)<|aX ?_;refine(ak)<|cR h qi λ E h=>?_;exact(ak)<|cL h qS λ G h=>qR
  refine(ay)<|bS h (λ h=>?_) λ h=>?_
  ·refine(ae)<|jN h λ m=>jM [(2,pp 0),(4,pp 1),(6,.bf 2 3),(8,aI i.N),(68,.bool m)] (me r_++[(1,rF qq),(2,rT cA.c g.2)]) 3 (λ h=>qE [(0,0),(1,1),(2,2)]) λ h=>?_;refine(ay)<|bS h (λ h=>qR) λ h=>?_;refine(ae)<|aX ?_;refine(ae)<|gX h λ h=>?_;refine(ae)<|gX h λ h=>?_;refine(ae)<|gS h λ h=>?_;refine(ak)<|cR h (λ h=>aE (wO h)) λ H h=>?_;refine(ae)<|aX ?_;refine(ae)<|oB h λ I h=>?_;refine(ae)<|oB h λ J h=>?_;refine(ae)<|aX ?_;refine(ae)<|oB h λ K h=>?_;refine(ae)<|oB h λ L h=>?_;(conv=>whnf);left;refine(ak)<|aX ?_;refine(ae)<|aX ?_;refine(ae)<|gS h λ h=>?_;refine(ak)<|aX ?_;(conv=>whnf);left;obtain⟨M,hy,h⟩:=eB h;refine⟨_,_,(aE (qi hy)),Or.inr ⟨[675],rfl,?_⟩⟩;exact(ak)<|cL h qS λ O h=>qR
  refine(ae)<|jS h λ K6 ⟨n,o,p,q⟩=>jT [(2,pp 0),(4,pp 1)] [(0,rF [aI r_.Id,sM cJ r_.bg,aI r_.Term,aI r_.bn,aI r_.bE,aI r_.bo,aI (n),aI (o),sM bx.c p,.str q,aI r_.ah,aI r_.Left,aI r_.bK,sM cJ r_.bO,sM cJ r_.Next,sM cJ r_.Match]),(1,rF qq)] 2 (λ h QR e=>?_) λ h=>?_
  ·refine(ay)<|bS h (λ h=>?_) λ h=>?_
   ·refine(ae)<|aX ?_;refine(ae)<|oB h λ P h=>?_;refine(ae)<|oB h λ Q h=>?_;refine(ak)<|cR h Kk λ R h=>?_;refine(ae)<|aX ?_;refine(ae)<|oB h λ S h=>?_;refine(ae)<|oB h λ T h=>?_;exact qE [(0,0),(1,1)]
   refine(ay)<|bS h (λ h=>?_) λ h=>?_
   ·refine(ae)<|jN h λ s=>jM [(2,pp 0),(4,pp 1),(8,aI i.N),(121,.bool s)] (me r_++[(1,rF qq)]) 2 (λ h=>qE [(0,0),(1,1)]) λ h=>?_;refine(ay)<|bS h (λ h=>?_) λ h=>?_
    ·cases h;cases QR;exact rfl
    refine(ae)<|aX ?_;refine(ae)<|gX h λ h=>?_;refine(ae)<|gX h λ h=>?_;refine(ae)<|gS h λ h=>?_;(conv=>whnf);left;(conv=>whnf);obtain⟨U,hy,h⟩:=eB h;refine⟨_,_,(lZ (cT (YU AV.sl rQ) rfl) (fx (wO hy) rfl)),Or.inr ⟨[],rfl,?_⟩⟩;exact qE [(0,0),(1,1)]
   exact qE [(0,0),(1,1)]
  refine(ak)<|cR h qi λ V h=>?_;exact(ak)<|cL h qS λ X h=>qR
 replace h:=sh h hb;refine zw (ek:=(λ(f:Int)=>(AV.int IntKind.u8 f))) (en:=cJ) a d .dK rfl rfl (ku Tryz.underlying5) hb ⟨32,.dK,by kernel_rfl,by kernel_rfl,.refl _⟩ ?_;refine(ak)<|cR h (λ h=>aW (fx (FD h) rfl)) λ j h=>?_;refine(ae)<|aX ?_;refine(ae)<|jN h λ t=>jM [(1,sM cB b),(2,pp 0),(4,pp 1),(6,sM cA.c j.2),(30,.bool t)] (me r_++[(1,rF qq)]) 2 (λ h=>qE [(0,32),(1,64)]) λ h=>?_;refine(ay)<|bS h (λ h=>qR) λ h=>?_;refine(ae)<|aX ?_;refine(ae)<|oB h λ k h=>?_;refine(ae)<|aX ?_;refine(ae)<|aX ?_;refine(ae)<|oB h λ Y h=>?_;(conv=>whnf);left;refine(ay)<|bS h (λ h=>?_) λ h=>?_
 ·refine(ae)<|aX ?_;refine(ae)<|oB h λ Z h=>?_;refine(ae)<|aX ?_;refine(ak)<|cR h qi λ a0 h=>?_;exact(ak)<|cL h qS λ a1 h=>qR
 refine(ay)<|bS h (λ h=>?_) λ h=>?_
 ·refine(ae)<|jN h λ u=>jM [(2,pp 0),(4,pp 1),(6,sM cA.c j.2),(8,aI k.N),(68,.bool u)] (me r_++[(1,rF qq)]) 2 (λ h=>qE [(0,0),(1,1)]) λ h=>?_;refine(ay)<|bS h (λ h=>qR) λ h=>?_;refine(ae)<|aX ?_;refine(ae)<|gX h λ h=>?_;refine(ae)<|gX h λ h=>?_;refine(ae)<|gS h λ h=>?_;refine(ak)<|cR h (λ h=>aE (wO h)) λ a2 h=>?_;refine(ae)<|aX ?_;refine(ae)<|oB h λ a3 h=>?_;refine(ae)<|aX ?_;refine(ae)<|oB h λ a4 h=>?_;(conv=>whnf);left;refine(ak)<|aX ?_;refine(ae)<|aX ?_;refine(ae)<|gS h λ h=>?_;refine(ak)<|aX ?_;(conv=>whnf);left;obtain⟨a5,hy,h⟩:=eB h;refine⟨_,_,(aE (qi hy)),Or.inr ⟨[674],rfl,?_⟩⟩;exact(ak)<|cL h qS λ a6 h=>qR
 refine(ae)<|jS h λ K3 ⟨v,w,x,y⟩=>jT [(2,pp 0),(4,pp 1)] [(0,rF [aI r_.Id,sM cJ r_.bg,aI r_.Term,aI r_.bn,aI r_.bE,aI r_.bo,aI (v),aI (w),sM bx.c x,.str y,aI r_.ah,aI r_.Left,aI r_.bK,sM cJ r_.bO,sM cJ r_.Next,sM cJ r_.Match]),(1,rF qq)] 2 (λ h QQ e=>?_) λ h=>?_
 ·refine(ay)<|bS h (λ h=>?_) λ h=>?_
  ·refine(ae)<|aX ?_;refine(ae)<|oB h λ a7 h=>?_;refine(ak)<|cR h Kk λ a8 h=>?_;refine(ae)<|aX ?_;refine(ae)<|oB h λ a9 h=>?_;exact qE [(0,0),(1,1)]
  refine(ay)<|bS h (λ h=>?_) λ h=>?_
  ·refine(ae)<|jN h λ z=>jM [(2,pp 0),(4,pp 1),(8,aI k.N),(121,.bool z)] (me r_++[(1,rF qq)]) 2 (λ h=>qE [(0,0),(1,1)]) λ h=>?_;refine(ay)<|bS h (λ h=>?_) λ h=>?_
   ·cases h;cases QQ;exact rfl
   refine(ae)<|aX ?_;refine(ae)<|gX h λ h=>?_;refine(ae)<|gX h λ h=>?_;refine(ae)<|gS h λ h=>?_;(conv=>whnf);left;(conv=>whnf);obtain⟨aA,hy,h⟩:=eB h;refine⟨_,_,(lZ (cT (YU AV.sl rQ) rfl) (fx (wO hy) rfl)),Or.inr ⟨[],rfl,?_⟩⟩;exact qE [(0,0),(1,1)]
  exact qE [(0,0),(1,1)]
 refine(ak)<|cR h qi λ aB h=>?_;exact(ak)<|cL h qS λ aC h=>qR
theorem PB{id U c fs l r}(h:th F id U c fs l=some (Sum.inl r)):FZ ml 52 (T5 c fs l) [pp 0,aI id,sM cJ U] (.cx [AV.eT (Value.pointer none),.agg (bD.c r.1),aI r.2.1]) (yK r.2.2.1 r.2.2.2.1 r.2.2.2.2):=by
 refine fG Tryz.func52 ?_;unfold th at h
 (conv=>whnf);left;refine(ak)<|cR h Kc λ a h=>?_;(conv=>whnf);left;(conv=>whnf);left;refine(ay)<|bS h (λ h=>?_) λ h=>?_
 ·(conv=>whnf);left;cases h;exact gW [(0,0),(1,1),(3,2)]
 obtain⟨b,hy,h⟩:=eB h;rcases b with b|b
 ·replace h:=km h;refine(ae)<|cg [0,1,2] (Ki hy) ?_;refine(ay)<|bS h (λ h=>?_) λ h=>?_
  ·(conv=>whnf);left;cases h;exact gW [(0,0),(1,1),(2,2),(3,644)]
  refine(ae)<|jS h λ o0 ⟨V,X,Y,Z,a0,a1,a2,a3,a4,a5,a6,a7,a8,a9,aA,aB⟩=>jT [(7,pp 3),(9,pp 4),(11,AV.eT (Value.pointer none))] (KL b.2.1 b.2.2.1 (V) X (Y) (Z) (a0) (a1) (a2) (a3) a4 a5 (a6) (a7) (a8) a9 aA aB b.2.2.2.2) 6 (λ h k0 e=>?_) λ h=>?_
  ·refine(ak)<|lI (λ n' ⟨g,m,n,o,p,q,s,t,u,v,w,x,y,z,A,B,C⟩=>wB F b n' g m n o p q s t u v w x y z A B C) (λ⟨g,m,n,o,p,q,s,t,u,v,w,x,y,z,A,B,C⟩=>[(7,pp 3),(9,pp 4),(11,AV.eT (Value.pointer none)),(40,.bf 5 1),(41,aI ((List.length (List.map (fJ cB) b.2.2.2.1):Nat):Int)),(42,aI g)]) (λ⟨g,m,n,o,p,q,s,t,u,v,w,x,y,z,A,B,C⟩=>(KM b.2.1 b.2.2.1 m n o p q s t u v w x y z A B C b.2.2.2.1 b.2.2.2.2)) 7 (0,a.1.Id,a.1.bg,a.1.Term,a.1.bn,a.1.bE,a.1.bo,a.1.Trail.an,a.1.Trail.au,a.1.Trail.Entries,a.1.bj,a.1.ah,a.1.Left,a.1.bK,a.1.bO,a.1.Next,a.1.Match) [(0,0),(1,1),(2,2),(3,64),(4,320),(5,643),(6,644)] h ?_;rintro aC ⟨g,m,n,o,p,q,s,t,u,v,w,x,y,z,A,B,C⟩ h;dsimp only at h;rw[wB.eq_2]at h;refine(ay)<|bS h (λ h=>?_) λ h=>?_
   ·refine(ak)<|gX h λ h=>?_;refine(ae)<|oB h λ aZ h=>?_;refine(ae)<|oB h λ b0 h=>?_;refine(ak)<|cR h zK λ d h=>?_;(conv=>whnf);left;refine(ay)<|bS h (λ h=>?_) λ h=>?_
    ·(conv=>whnf);left;cases h;cases k0;exact gW [(0,0),(1,1),(2,2),(3,6)]
    exact rE (aC,(IntKind.wrap IntKind.i64 (g+(1:Int))),d.1.Id,d.1.bg,d.1.Term,d.1.bn,d.1.bE,d.1.bo,d.1.Trail.an,d.1.Trail.au,d.1.Trail.Entries,d.1.bj,d.1.ah,d.1.Left,d.1.bK,d.1.bO,d.1.Next,d.1.Match) (ii 7 []) h
   exact qE (ii 5 [(5,6)])
  (conv=>whnf);left;(conv=>whnf);left;refine(ak)<|cR h qi λ b1 h=>?_;refine(ae)<|aX ?_;cases h
 replace h:=ko h;refine(ae)<|cg [0,1,2] (Kj hy) ?_;refine(ay)<|bS h (λ h=>?_) λ h=>?_
 ·(conv=>whnf);left;cases h;exact gW [(0,0),(1,1),(2,2),(3,644)]
 refine(ae)<|jS h λ o1 ⟨aD,aF,aG,aH,aJ,aK,aL,aM,aN,aO,aP,aQ,aR,aS,aT,aU,aV⟩=>jT [(7,pp 3),(9,pp 4),(11,pp 5)] (T7 b.2.2.1 b.2.2.2.1 0 0 0 0 0 0 0 [] 0 0 (aD) (aF) aG (aH) (aJ) (aK) (aL) (aM) (aN) aO aP (aQ) (aR) (aS) aT aU aV b.2.2.2.2.1 b.2.2.2.2.2.1 b.2.2.2.2.2.2.1 b.2.2.2.2.2.2.2) 7 (λ h k1 e=>?_) λ h=>?_
 ·refine(ak)<|lI (λ n' ⟨i,j,k,D,E,G,H,I,J,K,L,M,N,O,P,Q,R,S,T⟩=>sC F b n' i j k D E G H I J K L M N O P Q R S T) (λ⟨i,j,k,D,E,G,H,I,J,K,L,M,N,O,P,Q,R,S,T⟩=>[(7,pp 3),(9,pp 4),(11,pp 5),(40,sM (fJ cB) b.1),(41,aI i),(42,aI j)]) (λ⟨i,j,k,D,E,G,H,I,J,K,L,M,N,O,P,Q,R,S,T⟩=>(T7 b.2.2.1 b.2.2.2.1 0 0 0 0 0 0 0 [] 0 0 k D E G H I J K L M N O P Q R S T b.2.2.2.2.1 b.2.2.2.2.2.1 b.2.2.2.2.2.2.1 b.2.2.2.2.2.2.2)) 7 (((List.length (List.map (fJ cB) b.1):Nat):Int),0,0,a.1.Id,a.1.bg,a.1.Term,a.1.bn,a.1.bE,a.1.bo,a.1.Trail.an,a.1.Trail.au,a.1.Trail.Entries,a.1.bj,a.1.ah,a.1.Left,a.1.bK,a.1.bO,a.1.Next,a.1.Match) [(0,0),(1,1),(2,2),(3,64),(4,320),(5,643),(6,644)] h ?_;rintro aY ⟨i,j,k,D,E,G,H,I,J,K,L,M,N,O,P,Q,R,S,T⟩ h;dsimp only at h;rw[sC.eq_2]at h;refine(ay)<|bS h (λ h=>?_) λ h=>?_
  ·refine(ak)<|gX h λ h=>?_;refine(ae)<|oB h λ b2 h=>?_;refine(ak)<|cR h zK λ f h=>?_;(conv=>whnf);left;refine(ay)<|bS h (λ h=>?_) λ h=>?_
   ·(conv=>whnf);left;cases h;cases k1;exact gW [(0,0),(1,1),(2,2),(3,6)]
   exact rE (aY,i,(IntKind.wrap IntKind.i64 (j+(1:Int))),k,f.1.Id,f.1.bg,f.1.Term,f.1.bn,f.1.bE,f.1.bo,f.1.Trail.an,f.1.Trail.au,f.1.Trail.Entries,f.1.bj,f.1.ah,f.1.Left,f.1.bK,f.1.bO,f.1.Next,f.1.Match) (ii 7 []) h
  exact qE (ii 7 [])
 (conv=>whnf);left;(conv=>whnf);left;refine(ak)<|cR h qi λ b3 h=>?_;refine(ae)<|aX ?_;cases h
theorem PC{id U c fs l r}(h:th F id U c fs l=some (Sum.inr (Sum.inl r))):FZ ml 52 (T5 c fs l) [pp 0,aI id,sM cJ U] (.cx [pp 3,.agg (bD.c r.1),aI r.2.1]) (Gi r.2.2.1 r.2.2.2.1++[(3,rF ([AV.eT (Value.pointer none)]++bD.c r.2.2.2.2.1)),(4,rT bP.c r.2.2.2.2.2)]):=by
 refine fG Tryz.func52 ?_;unfold th at h
 (conv=>whnf);left;refine(ak)<|cR h Kc λ a h=>?_;(conv=>whnf);left;(conv=>whnf);left;refine(ay)<|bS h (λ h=>?_) λ h=>?_
 ·(conv=>whnf);left;cases h
 obtain⟨b,hy,h⟩:=eB h;rcases b with b|b
 ·replace h:=km h;refine(ae)<|cg [0,1,2] (Ki hy) ?_;refine(ay)<|bS h (λ h=>?_) λ h=>?_
  ·(conv=>whnf);left;cases h
  refine(ae)<|jS h λ o0 ⟨V,X,Y,Z,a0,a1,a2,a3,a4,a5,a6,a7,a8,a9,aA,aB⟩=>jT [(7,pp 3),(9,pp 4),(11,AV.eT (Value.pointer none))] (KL b.2.1 b.2.2.1 (V) X (Y) (Z) (a0) (a1) (a2) (a3) a4 a5 (a6) (a7) (a8) a9 aA aB b.2.2.2.2) 6 (λ h k0 e=>?_) λ h=>?_
  ·refine(ak)<|lI (λ n' ⟨g,m,n,o,p,q,s,t,u,v,w,x,y,z,A,B,C⟩=>wB F b n' g m n o p q s t u v w x y z A B C) (λ⟨g,m,n,o,p,q,s,t,u,v,w,x,y,z,A,B,C⟩=>[(7,pp 3),(9,pp 4),(11,AV.eT (Value.pointer none)),(40,.bf 5 1),(41,aI ((List.length (List.map (fJ cB) b.2.2.2.1):Nat):Int)),(42,aI g)]) (λ⟨g,m,n,o,p,q,s,t,u,v,w,x,y,z,A,B,C⟩=>(KM b.2.1 b.2.2.1 m n o p q s t u v w x y z A B C b.2.2.2.1 b.2.2.2.2)) 7 (0,a.1.Id,a.1.bg,a.1.Term,a.1.bn,a.1.bE,a.1.bo,a.1.Trail.an,a.1.Trail.au,a.1.Trail.Entries,a.1.bj,a.1.ah,a.1.Left,a.1.bK,a.1.bO,a.1.Next,a.1.Match) [(0,0),(1,1),(2,2),(3,64),(4,320),(5,643),(6,644)] h ?_;rintro aC ⟨g,m,n,o,p,q,s,t,u,v,w,x,y,z,A,B,C⟩ h;dsimp only at h;rw[wB.eq_2]at h;refine(ay)<|bS h (λ h=>?_) λ h=>?_
   ·refine(ak)<|gX h λ h=>?_;refine(ae)<|oB h λ aZ h=>?_;refine(ae)<|oB h λ b0 h=>?_;refine(ak)<|cR h zK λ d h=>?_;(conv=>whnf);left;refine(ay)<|bS h (λ h=>?_) λ h=>?_
    ·(conv=>whnf);left;cases h;cases k0
    exact rE (aC,(IntKind.wrap IntKind.i64 (g+(1:Int))),d.1.Id,d.1.bg,d.1.Term,d.1.bn,d.1.bE,d.1.bo,d.1.Trail.an,d.1.Trail.au,d.1.Trail.Entries,d.1.bj,d.1.ah,d.1.Left,d.1.bK,d.1.bO,d.1.Next,d.1.Match) (ii 7 []) h
   exact qE (ii 5 [(5,6)])
  (conv=>whnf);left;(conv=>whnf);left;refine(ak)<|cR h qi λ b1 h=>?_;refine(ae)<|aX ?_;(conv=>whnf);obtain rfl:=Sum.inl.inj (U9 (W5 h));exact gI [(0,0),(1,1),(2,2),(3,102),(4,5)]
 replace h:=ko h;refine(ae)<|cg [0,1,2] (Kj hy) ?_;refine(ay)<|bS h (λ h=>?_) λ h=>?_
 ·(conv=>whnf);left;cases h
 refine(ae)<|jS h λ o1 ⟨aD,aF,aG,aH,aJ,aK,aL,aM,aN,aO,aP,aQ,aR,aS,aT,aU,aV⟩=>jT [(7,pp 3),(9,pp 4),(11,pp 5)] (T7 b.2.2.1 b.2.2.2.1 0 0 0 0 0 0 0 [] 0 0 (aD) (aF) aG (aH) (aJ) (aK) (aL) (aM) (aN) aO aP (aQ) (aR) (aS) aT aU aV b.2.2.2.2.1 b.2.2.2.2.2.1 b.2.2.2.2.2.2.1 b.2.2.2.2.2.2.2) 7 (λ h k1 e=>?_) λ h=>?_
 ·refine(ak)<|lI (λ n' ⟨i,j,k,D,E,G,H,I,J,K,L,M,N,O,P,Q,R,S,T⟩=>sC F b n' i j k D E G H I J K L M N O P Q R S T) (λ⟨i,j,k,D,E,G,H,I,J,K,L,M,N,O,P,Q,R,S,T⟩=>[(7,pp 3),(9,pp 4),(11,pp 5),(40,sM (fJ cB) b.1),(41,aI i),(42,aI j)]) (λ⟨i,j,k,D,E,G,H,I,J,K,L,M,N,O,P,Q,R,S,T⟩=>(T7 b.2.2.1 b.2.2.2.1 0 0 0 0 0 0 0 [] 0 0 k D E G H I J K L M N O P Q R S T b.2.2.2.2.1 b.2.2.2.2.2.1 b.2.2.2.2.2.2.1 b.2.2.2.2.2.2.2)) 7 (((List.length (List.map (fJ cB) b.1):Nat):Int),0,0,a.1.Id,a.1.bg,a.1.Term,a.1.bn,a.1.bE,a.1.bo,a.1.Trail.an,a.1.Trail.au,a.1.Trail.Entries,a.1.bj,a.1.ah,a.1.Left,a.1.bK,a.1.bO,a.1.Next,a.1.Match) [(0,0),(1,1),(2,2),(3,64),(4,320),(5,643),(6,644)] h ?_;rintro aY ⟨i,j,k,D,E,G,H,I,J,K,L,M,N,O,P,Q,R,S,T⟩ h;dsimp only at h;rw[sC.eq_2]at h;refine(ay)<|bS h (λ h=>?_) λ h=>?_
  ·refine(ak)<|gX h λ h=>?_;refine(ae)<|oB h λ b2 h=>?_;refine(ak)<|cR h zK λ f h=>?_;(conv=>whnf);left;refine(ay)<|bS h (λ h=>?_) λ h=>?_
   ·(conv=>whnf);left;cases h;cases k1
   exact rE (aY,i,(IntKind.wrap IntKind.i64 (j+(1:Int))),k,f.1.Id,f.1.bg,f.1.Term,f.1.bn,f.1.bE,f.1.bo,f.1.Trail.an,f.1.Trail.au,f.1.Trail.Entries,f.1.bj,f.1.ah,f.1.Left,f.1.bK,f.1.bO,f.1.Next,f.1.Match) (ii 7 []) h
  exact qE (ii 7 [])
 (conv=>whnf);left;(conv=>whnf);left;refine(ak)<|cR h qi λ b3 h=>?_;refine(ae)<|aX ?_;cases h
theorem PE{id U c fs l r}(h:th F id U c fs l=some (Sum.inr (Sum.inr r))):FZ ml 52 (T5 c fs l) [pp 0,aI id,sM cJ U] (.cx [pp 3,.agg (bD.c r.1),aI r.2.1]) (Gi r.2.2.1 r.2.2.2.1++[(3,rF ([pp 5]++bD.c r.2.2.2.2.1)),(4,rT bP.c r.2.2.2.2.2.1),(5,rF [pp 0,.str r.2.2.2.2.2.2.1,aI r.2.2.2.2.2.2.2.1,aI r.2.2.2.2.2.2.2.2])]):=by
 refine fG Tryz.func52 ?_;unfold th at h
 (conv=>whnf);left;refine(ak)<|cR h Kc λ a h=>?_;(conv=>whnf);left;(conv=>whnf);left;refine(ay)<|bS h (λ h=>?_) λ h=>?_
 ·(conv=>whnf);left;cases h
 obtain⟨b,hy,h⟩:=eB h;rcases b with b|b
 ·replace h:=km h;refine(ae)<|cg [0,1,2] (Ki hy) ?_;refine(ay)<|bS h (λ h=>?_) λ h=>?_
  ·(conv=>whnf);left;cases h
  refine(ae)<|jS h λ o0 ⟨V,X,Y,Z,a0,a1,a2,a3,a4,a5,a6,a7,a8,a9,aA,aB⟩=>jT [(7,pp 3),(9,pp 4),(11,AV.eT (Value.pointer none))] (KL b.2.1 b.2.2.1 (V) X (Y) (Z) (a0) (a1) (a2) (a3) a4 a5 (a6) (a7) (a8) a9 aA aB b.2.2.2.2) 6 (λ h k0 e=>?_) λ h=>?_
  ·refine(ak)<|lI (λ n' ⟨g,m,n,o,p,q,s,t,u,v,w,x,y,z,A,B,C⟩=>wB F b n' g m n o p q s t u v w x y z A B C) (λ⟨g,m,n,o,p,q,s,t,u,v,w,x,y,z,A,B,C⟩=>[(7,pp 3),(9,pp 4),(11,AV.eT (Value.pointer none)),(40,.bf 5 1),(41,aI ((List.length (List.map (fJ cB) b.2.2.2.1):Nat):Int)),(42,aI g)]) (λ⟨g,m,n,o,p,q,s,t,u,v,w,x,y,z,A,B,C⟩=>(KM b.2.1 b.2.2.1 m n o p q s t u v w x y z A B C b.2.2.2.1 b.2.2.2.2)) 7 (0,a.1.Id,a.1.bg,a.1.Term,a.1.bn,a.1.bE,a.1.bo,a.1.Trail.an,a.1.Trail.au,a.1.Trail.Entries,a.1.bj,a.1.ah,a.1.Left,a.1.bK,a.1.bO,a.1.Next,a.1.Match) [(0,0),(1,1),(2,2),(3,64),(4,320),(5,643),(6,644)] h ?_;rintro aC ⟨g,m,n,o,p,q,s,t,u,v,w,x,y,z,A,B,C⟩ h;dsimp only at h;rw[wB.eq_2]at h;refine(ay)<|bS h (λ h=>?_) λ h=>?_
   ·refine(ak)<|gX h λ h=>?_;refine(ae)<|oB h λ aZ h=>?_;refine(ae)<|oB h λ b0 h=>?_;refine(ak)<|cR h zK λ d h=>?_;(conv=>whnf);left;refine(ay)<|bS h (λ h=>?_) λ h=>?_
    ·(conv=>whnf);left;cases h;cases k0
    exact rE (aC,(IntKind.wrap IntKind.i64 (g+(1:Int))),d.1.Id,d.1.bg,d.1.Term,d.1.bn,d.1.bE,d.1.bo,d.1.Trail.an,d.1.Trail.au,d.1.Trail.Entries,d.1.bj,d.1.ah,d.1.Left,d.1.bK,d.1.bO,d.1.Next,d.1.Match) (ii 7 []) h
   exact qE (ii 5 [(5,6)])
  (conv=>whnf);left;(conv=>whnf);left;refine(ak)<|cR h qi λ b1 h=>?_;refine(ae)<|aX ?_;cases h
 replace h:=ko h;refine(ae)<|cg [0,1,2] (Kj hy) ?_;refine(ay)<|bS h (λ h=>?_) λ h=>?_
 ·(conv=>whnf);left;cases h
 refine(ae)<|jS h λ o1 ⟨aD,aF,aG,aH,aJ,aK,aL,aM,aN,aO,aP,aQ,aR,aS,aT,aU,aV⟩=>jT [(7,pp 3),(9,pp 4),(11,pp 5)] (T7 b.2.2.1 b.2.2.2.1 0 0 0 0 0 0 0 [] 0 0 (aD) (aF) aG (aH) (aJ) (aK) (aL) (aM) (aN) aO aP (aQ) (aR) (aS) aT aU aV b.2.2.2.2.1 b.2.2.2.2.2.1 b.2.2.2.2.2.2.1 b.2.2.2.2.2.2.2) 7 (λ h k1 e=>?_) λ h=>?_
 ·refine(ak)<|lI (λ n' ⟨i,j,k,D,E,G,H,I,J,K,L,M,N,O,P,Q,R,S,T⟩=>sC F b n' i j k D E G H I J K L M N O P Q R S T) (λ⟨i,j,k,D,E,G,H,I,J,K,L,M,N,O,P,Q,R,S,T⟩=>[(7,pp 3),(9,pp 4),(11,pp 5),(40,sM (fJ cB) b.1),(41,aI i),(42,aI j)]) (λ⟨i,j,k,D,E,G,H,I,J,K,L,M,N,O,P,Q,R,S,T⟩=>(T7 b.2.2.1 b.2.2.2.1 0 0 0 0 0 0 0 [] 0 0 k D E G H I J K L M N O P Q R S T b.2.2.2.2.1 b.2.2.2.2.2.1 b.2.2.2.2.2.2.1 b.2.2.2.2.2.2.2)) 7 (((List.length (List.map (fJ cB) b.1):Nat):Int),0,0,a.1.Id,a.1.bg,a.1.Term,a.1.bn,a.1.bE,a.1.bo,a.1.Trail.an,a.1.Trail.au,a.1.Trail.Entries,a.1.bj,a.1.ah,a.1.Left,a.1.bK,a.1.bO,a.1.Next,a.1.Match) [(0,0),(1,1),(2,2),(3,64),(4,320),(5,643),(6,644)] h ?_;rintro aY ⟨i,j,k,D,E,G,H,I,J,K,L,M,N,O,P,Q,R,S,T⟩ h;dsimp only at h;rw[sC.eq_2]at h;refine(ay)<|bS h (λ h=>?_) λ h=>?_
  ·refine(ak)<|gX h λ h=>?_;refine(ae)<|oB h λ b2 h=>?_;refine(ak)<|cR h zK λ f h=>?_;(conv=>whnf);left;refine(ay)<|bS h (λ h=>?_) λ h=>?_
   ·(conv=>whnf);left;cases h;cases k1
   exact rE (aY,i,(IntKind.wrap IntKind.i64 (j+(1:Int))),k,f.1.Id,f.1.bg,f.1.Term,f.1.bn,f.1.bE,f.1.bo,f.1.Trail.an,f.1.Trail.au,f.1.Trail.Entries,f.1.bj,f.1.ah,f.1.Left,f.1.bK,f.1.bO,f.1.Next,f.1.Match) (ii 7 []) h
  exact qE (ii 7 [])
 (conv=>whnf);left;(conv=>whnf);left;refine(ak)<|cR h qi λ b3 h=>?_;refine(ae)<|aX ?_;(conv=>whnf);obtain rfl:=U9 (U9 (W5 h));exact gI [(0,0),(1,1),(2,2),(3,103),(4,6),(5,5)]
theorem yk{s r}(h:su F s=some r):FZ ml 53 [] [.str s] (.cx [aI r.1,.int IntKind.u32 r.2]) []:=by
 refine fA Tryz.func53 ?_;unfold su at h;refine(ak)<|gX h λ h=>?_;(conv=>whnf);left;obtain⟨a,hy,h⟩:=eB h;refine⟨_,_,(lZ (cT (YU AV.sl rQ) (cT (YU AV.sl rQ) rfl)) (fx (FD hy) rfl)),Or.inr ⟨[96,160],rfl,?_⟩⟩;refine(ay)<|bS h (λ h=>qR) λ h=>?_;refine(ae)<|aX ?_;refine(ae)<|oB h λ b h=>?_;refine(ae)<|aX ?_;refine(ae)<|oB h λ c h=>?_;exact qR
end Go.T
