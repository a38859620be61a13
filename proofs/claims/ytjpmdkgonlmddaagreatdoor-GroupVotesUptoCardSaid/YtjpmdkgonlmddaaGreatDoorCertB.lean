import Derived.Test.YtjpmdkgonlmddaaGreatDoorCertA
set_option linter.unusedVariables false
set_option maxRecDepth 200000
set_option maxHeartbeats 4000000
namespace Go.T
open Go Go.Ab Go.Proofs
variable {ml:Gv}{F:Nat}
theorem Ia{bE c a b k fs l r}(h:qQ F bE c a b k fs l=some r):FZ ml 96 (Cc c a b k fs l) [pp 0,sM (fe cB) bE] (aI r.1) (yR r.2.1 r.2.2.1 r.2.2.2.1 r.2.2.2.2.1 r.2.2.2.2.2.1 r.2.2.2.2.2.2):=by
 refine fG Tryz.func96 ?_
 unfold qQ at h
 (conv=>whnf);left;(conv=>whnf);left;(conv=>whnf);left;(conv=>whnf);refine cR h (fun h=>eT (U6 h) rfl) fun m h=>?_;(conv=>whnf);left;refine bS h (fun h=>qG [(0,0),(1,1),(2,2),(4,3)]) fun h=>?_;(conv=>whnf);left;(conv=>whnf);refine cR h (fun h=>eT (H6 h) rfl) fun j h=>?_;(conv=>whnf);refine gX h fun h=>?_;(conv=>whnf);left;(conv=>whnf);refine cR h (fun h=>eT (HY h) rfl) fun w h=>?_;(conv=>whnf);left;refine bS h (fun h=>qG [(0,0),(1,1),(2,2),(4,3)]) fun h=>?_;(conv=>whnf);refine jS h fun o0 ⟨o,p,q⟩=>jT [(0,pp 0),(1,sM (fe cB) bE),(7,.str (([108,111,103,45]:List UInt8)++j))] (yR c (IntKind.wrap IntKind.i64 (a+(1:Int))) b (o) p q) 5 (fun h k0 e=>?_) fun h=>?_
 ·(conv=>whnf);left;(conv=>whnf);refine lI (fun n' ⟨d,f,g,i⟩=>ot F c a b m j n' d f g i) (fun⟨d,f,g,i⟩=>[(0,pp 0),(1,sM (fe cB) bE),(7,.str (([108,111,103,45]:List UInt8)++j)),(44,sM (fe cB) m.2),(45,aI (@Nat.cast Int instNatCastInt (List.length (List.map (fe cB) m.2)))),(46,aI d)]) (fun⟨d,f,g,i⟩=>(yR c (IntKind.wrap IntKind.i64 (a+(1:Int))) b f g i)) 5 ((0:Int),k,fs,l) [(0,0),(1,1),(2,2),(4,3)] h ?_;rintro s ⟨d,f,g,i⟩ h;dsimp only at h;rw[ot.eq_2]at h;(conv=>whnf);left;refine bS h (fun h=>?_) fun h=>?_
  ·(conv=>whnf);left;(conv=>whnf);refine gX h fun h=>?_;(conv=>whnf);refine oB h fun x h=>?_;(conv=>whnf);refine cG [1,2,4] h MR fun n h=>?_;(conv=>whnf);left;refine bS h (fun h=>?_) fun h=>?_
   ·cases h;cases k0;exact gI (ii 4 [(4,328)])
   exact rE (s,(IntKind.wrap IntKind.i64 (d+(1:Int))),n.2.1,n.2.2.1,n.2.2.2) (ii 4 [(4,328)]) h
  exact qE (ii 5 [])
 (conv=>whnf);refine cG [1,2,4] h MY fun y h=>?_;(conv=>whnf);refine jN h fun⟨t,u,v⟩=>jM [(0,pp 0),(1,sM (fe cB) bE),(7,.str (([108,111,103,45]:List UInt8)++j))] (yR c (IntKind.wrap IntKind.i64 (a+(1:Int))) b t u v) 5 (fun h=>?_) fun h=>?_
 ·(conv=>whnf);left;refine bS h (fun h=>?_) fun h=>?_
  ·(conv=>whnf);exact cG [1,2,168] h B6 fun z h=>qE (ii 4 [(4,616)])
  exact qE (ii 4 [(4,168)])
 exact qG (ii 5 [])
theorem HV{c fs l r}(h:s9 F c fs l=some (Sum.inl r)):FZ ml 67 (T5 c fs l) [pp 0] (.bN [AV.ei (Value.pointer none),.an 3 1,aI r.1]) (ED r.2.1 r.2.2.1++[(3,rT (fe cB) r.2.2.2.1),(4,rT bp.c r.2.2.2.2)]):=by
 refine fG Tryz.func67 ?_
 unfold s9 at h
 (conv=>whnf);left;(conv=>whnf);left;(conv=>whnf);refine cH [0,1,2] h MQ fun f h=>?_;(conv=>whnf);refine jN h fun z=>jM [(1,pp 3),(5,.an 4 1)] (T5 c fs l++[(3,rF [pp 0]),(4,rT cJ z)]) 5 (fun h=>?_) fun h=>?_
 ·(conv=>whnf);left;(conv=>whnf);refine lI (fun n' x'=>rN F f n' x'.1 x'.2) (fun x'=>[(1,pp 3),(5,.an 4 1),(24,sM fy f),(25,aI (@Nat.cast Int instNatCastInt (List.length (List.map fy f)))),(26,aI x'.1)]) (fun x'=>(T5 c fs l++[(3,rF [pp 0]),(4,rT cJ x'.2)])) 5 ((0:Int),[]) [(0,0),(1,1),(2,2),(3,32),(4,224)] h ?_;rintro A ⟨w,R⟩ h;dsimp only at h;rw[rN.eq_2]at h;(conv=>whnf);left;refine bS h (fun h=>?_) fun h=>?_
  ·(conv=>whnf);refine jN h fun x=>jM [(1,pp 3),(5,.an 4 1),(24,sM fy f),(25,aI (@Nat.cast Int instNatCastInt (List.length (List.map fy f)))),(26,aI w)] (T5 c fs l++[(3,rF [pp 0]),(4,rT cJ x)]) 5 (fun h=>?_) fun h=>?_
   ·(conv=>whnf);left;(conv=>whnf);refine gX h fun h=>?_;(conv=>whnf);refine oB h fun S h=>?_;(conv=>whnf);left;(conv=>whnf);refine cR h (fun h=>eT (HY h) rfl) fun T h=>?_;(conv=>whnf);left;refine bS h (fun h=>?_) fun h=>?_
    ·(conv=>whnf);left;(conv=>whnf);refine aX ?_;(conv=>whnf);refine aX ?_;(conv=>whnf);refine gS h fun h=>?_;cases h;exact eE (ii 4 [(4,389)])
    exact qE (ii 5 [])
   exact rE (A,(IntKind.wrap IntKind.i64 (w+(1:Int))),x) (ii 5 []) h
  exact qE (ii 5 [])
 (conv=>whnf);refine cG [4] h M6 fun U h=>?_;(conv=>whnf);left;(conv=>whnf);left;(conv=>whnf);left;(conv=>whnf);left;(conv=>whnf);left;(conv=>whnf);left;obtain⟨g,hy,h⟩:=dS h;refine⟨_,_,(eT (M7 hy) rfl),Or.inr ⟨[4],rfl,?_⟩⟩;(conv=>whnf);left;(conv=>whnf);refine aX ?_;obtain⟨o5,h5,h⟩:=dS h;(conv=>whnf);refine Ks 140 g 46 47 13 (α:=(Int×(List ((List UInt8)×(List Int)))×(List (List Int))×Bool×(List bp)×(List UInt8)×Int×Int)) ((1,(AV.ptr 3 0 0))::((9,(AV.ptr 4 0 0))::((10,(AV.ptr 5 0 0))::((11,(AV.ptr 6 0 0))::[])))) (fun xq=>((0,(AO.rows false (((AV.aw 1)::((AV.an 7 2)::((AV.int IntKind.i64 xq.1)::[])))::[])))::((1,(fS xq.2.1))::((3,(AO.rows false (((AV.ptr 0 0 0)::[])::[])))::((4,(AO.rows false (((AV.ptr 8 0 0)::[])::[])))::((5,(AO.rows false (((AV.sl (List.map (fe cB) xq.2.2.1))::[])::[])))::((6,(AO.rows false (((AV.bool xq.2.2.2.1)::[])::[])))::((7,(AO.rows true (List.map bp.c xq.2.2.2.2.1)))::((8,(AO.rows false (((AV.ptr 0 0 0)::((AV.str xq.2.2.2.2.2.1)::((AV.int IntKind.i64 xq.2.2.2.2.2.2.1)::((AV.int IntKind.i64 xq.2.2.2.2.2.2.2)::[]))))::[])))::[]))))))))) 9 (fun kq xq=>kB F (List.drop kq (List.reverse g)) xq.1 xq.2.1 xq.2.2.1 xq.2.2.2.1 xq.2.2.2.2.1 xq.2.2.2.2.2.1 xq.2.2.2.2.2.2.1 xq.2.2.2.2.2.2.2=some o5) (c,fs,[],false,l,([]:List UInt8),(0:Int),(0:Int)) [(0,0),(1,1),(3,3),(4,165),(5,229),(6,261),(7,2),(8,133)] JW rfl rfl rfl h5 (ep.cons (Wk.eq rfl) (ep.cons (Wk.eq rfl) (ep.cons (Wk.eq rfl) (ep.cons (Wk.eq rfl) ep.nil)))) (du.cons (fT.eq (YO rfl)) (du.cons (fT.eq (YO rfl)) (du.cons (fT.eq (YO rfl)) (du.cons (fT.eq (YO rfl)) (du.cons (fT.r (lN.cons (ep.cons Wk.dq ep.nil) lN.nil)) (du.cons (fT.eq (YO rfl)) (du.cons (fT.eq (YO rfl)) (du.cons (fT.eq (YO rfl)) du.nil)))))))) rfl (fun kq b xq hk hI=>?_) (fun xq hI=>?_)
 ·obtain⟨i,j,k,m,n,o,a,p⟩:=xq;replace hI:kB F (List.drop kq (List.reverse g)) i j k m n o a p=some o5:=hI;rw[AR hk,kB.eq_2]at hI;clear h;have h:=hI;clear hI;(conv=>whnf);left;(conv=>whnf);left;(conv=>whnf);refine cR h (fun h=>eT (H6 h) rfl) fun t h=>?_;(conv=>whnf);refine gX h fun h=>?_;(conv=>whnf);refine aX ?_;obtain⟨d,hy,h⟩:=dS h;rcases d with d|d
  ·replace h:=jH h;(conv=>whnf);refine cg [0,1,7] (MW hy) ?_;(conv=>whnf);left;obtain⟨q,hy,h⟩:=dS h;refine⟨_,_,(eT (DP hy) rfl),Or.inr ⟨[556],rfl,?_⟩⟩;(conv=>whnf);refine jN h fun B=>jM [(1,pp 3),(9,pp 4),(10,pp 5),(11,pp 6),(14,.str (([108,111,103,45]:List UInt8)++t)),(15,.an 7 1),(17,sM (fe cB) q.2.2),(18,aI q.1),(80,.bool B)] (M' i j k m++[(7,AO.cT (List.map cB d.2)),(8,rT bp.c n),(9,rF [pp 0,.str o,aI (if(b>a)then b else a),aI p])]) 10 (fun h=>qE (ii 7 [(7,556),(8,7),(9,8)])) fun h=>?_;(conv=>whnf);left;refine bS h (fun h=>?_) fun h=>?_
   ·(conv=>whnf);refine cG [0,1,8] h B6 fun u h=>?_;(conv=>whnf);exact⟨(u.2.1,u.2.2.1,k,m,u.2.2.2,o,(if(b>a)then b else a),p),(ii 7 [(7,77),(8,9)]),h,rfl,(.of_eq rfl),(.of_eq rfl)⟩
   (conv=>whnf);exact⟨(i,j,q.2.2,(q.1==(@Nat.cast Int instNatCastInt (List.length (List.map cB d.2)))),n,(([108,111,103,45]:List UInt8)++t),(if(b>a)then b else a),(@Nat.cast Int instNatCastInt (List.length (List.map (fe cB) q.2.2)))),(ii 7 [(7,8),(8,9)]),h,rfl,(.of_eq rfl),(.of_eq rfl)⟩
  replace h:=jI h;(conv=>whnf);refine ch [0,1,7] (MX hy) ?_;(conv=>whnf);left;(conv=>whnf);refine cR h (fun h=>eT (DP h) rfl) fun s h=>?_;(conv=>whnf);refine jN h fun C=>jM [(1,pp 3),(9,pp 4),(10,pp 5),(11,pp 6),(14,.str (([108,111,103,45]:List UInt8)++t)),(15,sM cB d.1),(17,sM (fe cB) s.2.2),(18,aI s.1),(80,.bool C)] (Nc i j k m n o (if(b>a)then b else a) p) 9 (fun h=>qE (ii 9 [])) fun h=>?_;(conv=>whnf);left;refine bS h (fun h=>?_) fun h=>?_
  ·(conv=>whnf);refine cG [0,1,7] h B6 fun v h=>?_;(conv=>whnf);exact⟨(v.2.1,v.2.2.1,k,m,v.2.2.2,o,(if(b>a)then b else a),p),(ii 7 [(7,76),(8,8)]),h,rfl,(.of_eq rfl),(.of_eq rfl)⟩
  (conv=>whnf);exact⟨(i,j,s.2.2,(s.1==(@Nat.cast Int instNatCastInt (List.length (List.map cB d.1)))),n,(([108,111,103,45]:List UInt8)++t),(if(b>a)then b else a),(@Nat.cast Int instNatCastInt (List.length (List.map (fe cB) s.2.2)))),(ii 9 []),h,rfl,(.of_eq rfl),(.of_eq rfl)⟩
 obtain⟨D,E,y,G,H,I,J,K⟩:=xq;replace hI:kB F (List.drop (List.length g) (List.reverse g)) D E y G H I J K=some o5:=hI;rw[KF,kB.eq_1]at hI;cases hI;(conv=>whnf);refine jS h fun o8 ⟨L,M,N,O,P,Q⟩=>jT [(9,pp 3),(10,pp 4)] (Nb (L) M y N O (P) (Q)) 7 (fun h k8 e=>?_) fun h=>?_
 ·(conv=>whnf);left;refine bS h (fun h=>?_) fun h=>?_
  ·(conv=>whnf);refine cG [8,0,1,7] h Ia fun V h=>?_;(conv=>whnf);left;refine bS h (fun h=>?_) fun h=>?_
   ·cases h;cases k8;exact gE [(0,0),(1,1),(2,2),(3,329),(4,141)]
   exact qE [(0,0),(1,1),(2,2),(3,4),(4,5),(5,141),(6,8)]
  exact qE [(0,0),(1,1),(2,2),(3,4),(4,5),(5,7),(6,8)]
 (conv=>whnf);refine aX ?_;cases h
theorem HW{c fs l r}(h:s9 F c fs l=some (Sum.inr r)):FZ ml 67 (T5 c fs l) [pp 0] (.bN [pp 3,sM (fe cB) r.1,aI r.2.1]) (ED r.2.2.1 r.2.2.2.1++[(3,rF [pp 0,.str r.2.2.2.2.1,aI r.2.2.2.2.2.1,aI r.2.2.2.2.2.2.1]),(4,rT bp.c r.2.2.2.2.2.2.2)]):=by
 refine fG Tryz.func67 ?_
 unfold s9 at h
 (conv=>whnf);left;(conv=>whnf);left;(conv=>whnf);refine cH [0,1,2] h MQ fun f h=>?_;(conv=>whnf);refine jN h fun z=>jM [(1,pp 3),(5,.an 4 1)] (T5 c fs l++[(3,rF [pp 0]),(4,rT cJ z)]) 5 (fun h=>?_) fun h=>?_
 ·(conv=>whnf);left;(conv=>whnf);refine lI (fun n' x'=>rN F f n' x'.1 x'.2) (fun x'=>[(1,pp 3),(5,.an 4 1),(24,sM fy f),(25,aI (@Nat.cast Int instNatCastInt (List.length (List.map fy f)))),(26,aI x'.1)]) (fun x'=>(T5 c fs l++[(3,rF [pp 0]),(4,rT cJ x'.2)])) 5 ((0:Int),[]) [(0,0),(1,1),(2,2),(3,32),(4,224)] h ?_;rintro A ⟨w,R⟩ h;dsimp only at h;rw[rN.eq_2]at h;(conv=>whnf);left;refine bS h (fun h=>?_) fun h=>?_
  ·(conv=>whnf);refine jN h fun x=>jM [(1,pp 3),(5,.an 4 1),(24,sM fy f),(25,aI (@Nat.cast Int instNatCastInt (List.length (List.map fy f)))),(26,aI w)] (T5 c fs l++[(3,rF [pp 0]),(4,rT cJ x)]) 5 (fun h=>?_) fun h=>?_
   ·(conv=>whnf);left;(conv=>whnf);refine gX h fun h=>?_;(conv=>whnf);refine oB h fun S h=>?_;(conv=>whnf);left;(conv=>whnf);refine cR h (fun h=>eT (HY h) rfl) fun T h=>?_;(conv=>whnf);left;refine bS h (fun h=>?_) fun h=>?_
    ·(conv=>whnf);left;(conv=>whnf);refine aX ?_;(conv=>whnf);refine aX ?_;(conv=>whnf);refine gS h fun h=>?_;cases h;exact eE (ii 4 [(4,389)])
    exact qE (ii 5 [])
   exact rE (A,(IntKind.wrap IntKind.i64 (w+(1:Int))),x) (ii 5 []) h
  exact qE (ii 5 [])
 (conv=>whnf);refine cG [4] h M6 fun U h=>?_;(conv=>whnf);left;(conv=>whnf);left;(conv=>whnf);left;(conv=>whnf);left;(conv=>whnf);left;(conv=>whnf);left;obtain⟨g,hy,h⟩:=dS h;refine⟨_,_,(eT (M7 hy) rfl),Or.inr ⟨[4],rfl,?_⟩⟩;(conv=>whnf);left;(conv=>whnf);refine aX ?_;obtain⟨o5,h5,h⟩:=dS h;(conv=>whnf);refine Ks 140 g 46 47 13 (α:=(Int×(List ((List UInt8)×(List Int)))×(List (List Int))×Bool×(List bp)×(List UInt8)×Int×Int)) ((1,(AV.ptr 3 0 0))::((9,(AV.ptr 4 0 0))::((10,(AV.ptr 5 0 0))::((11,(AV.ptr 6 0 0))::[])))) (fun xq=>((0,(AO.rows false (((AV.aw 1)::((AV.an 7 2)::((AV.int IntKind.i64 xq.1)::[])))::[])))::((1,(fS xq.2.1))::((3,(AO.rows false (((AV.ptr 0 0 0)::[])::[])))::((4,(AO.rows false (((AV.ptr 8 0 0)::[])::[])))::((5,(AO.rows false (((AV.sl (List.map (fe cB) xq.2.2.1))::[])::[])))::((6,(AO.rows false (((AV.bool xq.2.2.2.1)::[])::[])))::((7,(AO.rows true (List.map bp.c xq.2.2.2.2.1)))::((8,(AO.rows false (((AV.ptr 0 0 0)::((AV.str xq.2.2.2.2.2.1)::((AV.int IntKind.i64 xq.2.2.2.2.2.2.1)::((AV.int IntKind.i64 xq.2.2.2.2.2.2.2)::[]))))::[])))::[]))))))))) 9 (fun kq xq=>kB F (List.drop kq (List.reverse g)) xq.1 xq.2.1 xq.2.2.1 xq.2.2.2.1 xq.2.2.2.2.1 xq.2.2.2.2.2.1 xq.2.2.2.2.2.2.1 xq.2.2.2.2.2.2.2=some o5) (c,fs,[],false,l,([]:List UInt8),(0:Int),(0:Int)) [(0,0),(1,1),(3,3),(4,165),(5,229),(6,261),(7,2),(8,133)] JW rfl rfl rfl h5 (ep.cons (Wk.eq rfl) (ep.cons (Wk.eq rfl) (ep.cons (Wk.eq rfl) (ep.cons (Wk.eq rfl) ep.nil)))) (du.cons (fT.eq (YO rfl)) (du.cons (fT.eq (YO rfl)) (du.cons (fT.eq (YO rfl)) (du.cons (fT.eq (YO rfl)) (du.cons (fT.r (lN.cons (ep.cons Wk.dq ep.nil) lN.nil)) (du.cons (fT.eq (YO rfl)) (du.cons (fT.eq (YO rfl)) (du.cons (fT.eq (YO rfl)) du.nil)))))))) rfl (fun kq b xq hk hI=>?_) (fun xq hI=>?_)
 ·obtain⟨i,j,k,m,n,o,a,p⟩:=xq;replace hI:kB F (List.drop kq (List.reverse g)) i j k m n o a p=some o5:=hI;rw[AR hk,kB.eq_2]at hI;clear h;have h:=hI;clear hI;(conv=>whnf);left;(conv=>whnf);left;(conv=>whnf);refine cR h (fun h=>eT (H6 h) rfl) fun t h=>?_;(conv=>whnf);refine gX h fun h=>?_;(conv=>whnf);refine aX ?_;obtain⟨d,hy,h⟩:=dS h;rcases d with d|d
  ·replace h:=jH h;(conv=>whnf);refine cg [0,1,7] (MW hy) ?_;(conv=>whnf);left;obtain⟨q,hy,h⟩:=dS h;refine⟨_,_,(eT (DP hy) rfl),Or.inr ⟨[556],rfl,?_⟩⟩;(conv=>whnf);refine jN h fun B=>jM [(1,pp 3),(9,pp 4),(10,pp 5),(11,pp 6),(14,.str (([108,111,103,45]:List UInt8)++t)),(15,.an 7 1),(17,sM (fe cB) q.2.2),(18,aI q.1),(80,.bool B)] (M' i j k m++[(7,AO.cT (List.map cB d.2)),(8,rT bp.c n),(9,rF [pp 0,.str o,aI (if(b>a)then b else a),aI p])]) 10 (fun h=>qE (ii 7 [(7,556),(8,7),(9,8)])) fun h=>?_;(conv=>whnf);left;refine bS h (fun h=>?_) fun h=>?_
   ·(conv=>whnf);refine cG [0,1,8] h B6 fun u h=>?_;(conv=>whnf);exact⟨(u.2.1,u.2.2.1,k,m,u.2.2.2,o,(if(b>a)then b else a),p),(ii 7 [(7,77),(8,9)]),h,rfl,(.of_eq rfl),(.of_eq rfl)⟩
   (conv=>whnf);exact⟨(i,j,q.2.2,(q.1==(@Nat.cast Int instNatCastInt (List.length (List.map cB d.2)))),n,(([108,111,103,45]:List UInt8)++t),(if(b>a)then b else a),(@Nat.cast Int instNatCastInt (List.length (List.map (fe cB) q.2.2)))),(ii 7 [(7,8),(8,9)]),h,rfl,(.of_eq rfl),(.of_eq rfl)⟩
  replace h:=jI h;(conv=>whnf);refine ch [0,1,7] (MX hy) ?_;(conv=>whnf);left;(conv=>whnf);refine cR h (fun h=>eT (DP h) rfl) fun s h=>?_;(conv=>whnf);refine jN h fun C=>jM [(1,pp 3),(9,pp 4),(10,pp 5),(11,pp 6),(14,.str (([108,111,103,45]:List UInt8)++t)),(15,sM cB d.1),(17,sM (fe cB) s.2.2),(18,aI s.1),(80,.bool C)] (Nc i j k m n o (if(b>a)then b else a) p) 9 (fun h=>qE (ii 9 [])) fun h=>?_;(conv=>whnf);left;refine bS h (fun h=>?_) fun h=>?_
  ·(conv=>whnf);refine cG [0,1,7] h B6 fun v h=>?_;(conv=>whnf);exact⟨(v.2.1,v.2.2.1,k,m,v.2.2.2,o,(if(b>a)then b else a),p),(ii 7 [(7,76),(8,8)]),h,rfl,(.of_eq rfl),(.of_eq rfl)⟩
  (conv=>whnf);exact⟨(i,j,s.2.2,(s.1==(@Nat.cast Int instNatCastInt (List.length (List.map cB d.1)))),n,(([108,111,103,45]:List UInt8)++t),(if(b>a)then b else a),(@Nat.cast Int instNatCastInt (List.length (List.map (fe cB) s.2.2)))),(ii 9 []),h,rfl,(.of_eq rfl),(.of_eq rfl)⟩
 obtain⟨D,E,y,G,H,I,J,K⟩:=xq;replace hI:kB F (List.drop (List.length g) (List.reverse g)) D E y G H I J K=some o5:=hI;rw[KF,kB.eq_1]at hI;cases hI;(conv=>whnf);refine jS h fun o8 ⟨L,M,N,O,P,Q⟩=>jT [(9,pp 3),(10,pp 4)] (Nb (L) M y N O (P) (Q)) 7 (fun h k8 e=>?_) fun h=>?_
 ·(conv=>whnf);left;refine bS h (fun h=>?_) fun h=>?_
  ·(conv=>whnf);refine cG [8,0,1,7] h Ia fun V h=>?_;(conv=>whnf);left;refine bS h (fun h=>?_) fun h=>?_
   ·cases h;cases k8
   exact qE [(0,0),(1,1),(2,2),(3,4),(4,5),(5,141),(6,8)]
  exact qE [(0,0),(1,1),(2,2),(3,4),(4,5),(5,7),(6,8)]
 exact qG [(0,0),(1,1),(2,2),(3,6),(4,5)]
theorem Vz{r}(h:DO F=some r):FZ ml 97 [] [] (AV.aw 0) [(0,AO.bL 1 (@dT Int Int (fun(a:Int)=>(AV.int IntKind.u8 a)) cJ r) none)]:=by
 refine fG Tryz.func97 ?_
 unfold DO at h
 (conv=>whnf);refine Or.inr ?_;(conv=>whnf);refine⟨Or.inl ⟨1,?_⟩⟩;(conv=>whnf);left;(conv=>whnf);refine aX ?_;(conv=>whnf);obtain⟨hg,h⟩:=dA h;refine vR (ek:=(fun(a:Int)=>(AV.int IntKind.u8 a))) (en:=cJ) [] (1:Int) ((1:Int)::((1:Int)::((1:Int)::[]))) 96 rfl rfl (jK Tryz.underlying5) (.inl rfl) hg rfl _ rfl rQ (fun _=>rfl) rfl ?_;(conv=>whnf);left;(conv=>whnf);refine aX ?_;(conv=>whnf);obtain⟨hg,h⟩:=dA h;refine vR (ek:=(fun(a:Int)=>(AV.int IntKind.u8 a))) (en:=cJ) (bw (1:Int) ((1:Int)::((1:Int)::((1:Int)::[]))) []) (2:Int) ((1:Int)::((1:Int)::((1:Int)::((3:Int)::[])))) 160 rfl rfl (jK Tryz.underlying5) (.inl rfl) hg rfl _ rfl rQ (fun _=>rfl) rfl ?_;(conv=>whnf);left;(conv=>whnf);refine aX ?_;(conv=>whnf);obtain⟨hg,h⟩:=dA h;refine vR (ek:=(fun(a:Int)=>(AV.int IntKind.u8 a))) (en:=cJ) (bw (2:Int) ((1:Int)::((1:Int)::((1:Int)::((3:Int)::[])))) (bw (1:Int) ((1:Int)::((1:Int)::((1:Int)::[]))) [])) (3:Int) ((1:Int)::((1:Int)::((1:Int)::((3:Int)::[])))) 224 rfl rfl (jK Tryz.underlying5) (.inl rfl) hg rfl _ rfl rQ (fun _=>rfl) rfl ?_;(conv=>whnf);left;(conv=>whnf);refine aX ?_;(conv=>whnf);obtain⟨hg,h⟩:=dA h;refine vR (ek:=(fun(a:Int)=>(AV.int IntKind.u8 a))) (en:=cJ) (bw (3:Int) ((1:Int)::((1:Int)::((1:Int)::((3:Int)::[])))) (bw (2:Int) ((1:Int)::((1:Int)::((1:Int)::((3:Int)::[])))) (bw (1:Int) ((1:Int)::((1:Int)::((1:Int)::[]))) []))) (4:Int) ((1:Int)::((1:Int)::[])) 288 rfl rfl (jK Tryz.underlying5) (.inl rfl) hg rfl _ rfl rQ (fun _=>rfl) rfl ?_;exact qG [(0,64)]
theorem VQ{b l r}(h:yj F b l=some r):FZ ml 33 (jv l) [.an 0 1,sM cB b] (.bN [.an 1 3,aI r.1]) (jv l++[(1,rT bW.c r.2)]):=by
 refine fG Tryz.func33 ?_
 unfold yj at h
 (conv=>whnf);refine jS h fun o0 ⟨d,f⟩=>jT [(1,sM cB d),(6,.an 1 3)] (jv l++[(1,rT bW.c f)]) 2 (fun h k0 e=>?_) fun h=>?_
 ·(conv=>whnf);left;(conv=>whnf);refine lI (fun n' x'=>yv F l n' x'.1 x'.2.1 x'.2.2) (fun x'=>[(1,sM cB x'.1),(6,.an 1 3),(12,.an 0 1),(13,aI (@Nat.cast Int instNatCastInt (List.length (List.map cJ l)))),(14,aI x'.2.1)]) (fun x'=>(jv l++[(1,rT bW.c x'.2.2)])) 2 (b,(0:Int),[]) [(0,0),(1,96)] h ?_;rintro g ⟨i,j,k⟩ h;dsimp only at h;rw[yv.eq_2]at h;(conv=>whnf);left;refine bS h (fun h=>?_) fun h=>?_
  ·(conv=>whnf);left;(conv=>whnf);refine gX h fun h=>?_;(conv=>whnf);refine oB h fun m h=>?_;(conv=>whnf);refine oB h fun n h=>?_;(conv=>whnf);left;(conv=>whnf);refine cL h ME fun a h=>?_;(conv=>whnf);left;(conv=>whnf);left;refine bS h (fun h=>?_) fun h=>?_
   ·cases h;cases k0;exact gE [(0,0),(1,578)]
   (conv=>whnf);left;(conv=>whnf);refine aX ?_;(conv=>whnf);refine aX ?_;(conv=>whnf);refine gS h fun h=>?_;(conv=>whnf);refine aX ?_;(conv=>whnf);refine gX h fun h=>?_;(conv=>whnf);refine gS h fun h=>?_;(conv=>whnf);refine gS h fun h=>?_;exact rV (g,(List.drop (Int.toNat a.2.1) i),(IntKind.wrap IntKind.i64 (j+(1:Int))),(k++(a.1::[]))) [(0,0),(1,642)] h
  exact qE [(0,0),(1,1)]
 (conv=>whnf);left;refine bS h (fun h=>?_) fun h=>?_
 ·cases h;exact gE [(0,0),(1,98)]
 exact qG [(0,0),(1,1)]
theorem uP{s r}(h:pG F s=some r):FZ ml 44 [] [(.sl (List.map bj.c s))] (.an 0 2) [(0,.rows true (List.map bj.c r))]:=by
 unfold pG at h
 obtain⟨hg,h⟩:=dA h
 cases h
 refine lW 2000 Tryz.func44 rfl (by kernel_rfl) mixed (by show 1≤8;decide) (by decide) rfl ?_
 refine oL ?_
 refine And.intro (fun hp=>?_) ?_
 ·conv=>whnf
  exact kG [(0,128)] rfl (by rw[hp];rfl) rfl
 refine oL ?_
 refine And.intro (dU.map (fun _=>rfl)) ?_
 refine And.intro dU.nil ?_
 refine And.intro (show 0+(List.map bj.c s).length≤bm by simpa using hg) ?_
 conv=>whnf
 exact gI [(0,192)]
theorem ya{t n r}(h:rO F t n=some r):FZ ml 149 [] [.agg (cD.c t),aI n] (.bN [aI r.1,.bool r.2]) []:=by
 refine fA Tryz.func149 ?_
 unfold rO at h
 (conv=>whnf);left;(conv=>whnf);refine jN h fun a=>jM [(1,aI n),(2,pp 0),(20,.bool a)] [(0,rF (cD.c t))] 1 (fun h=>?_) fun h=>?_
 ·(conv=>whnf);left;(conv=>whnf);left;(conv=>whnf);refine cL h uJ fun b h=>?_;(conv=>whnf);refine bS h (fun h=>qE [(0,32)]) fun h=>?_;(conv=>whnf);refine bS h (fun h=>qE [(0,32)]) fun h=>?_;(conv=>whnf);left;(conv=>whnf);exact cL h yb fun d h=>qE [(0,32)]
 (conv=>whnf);left;refine bS h (fun h=>qR) fun h=>?_;(conv=>whnf);left;(conv=>whnf);exact cL h Mw fun e h=>qR
theorem HU{t dm r}(h:wy F t dm=some r):FZ ml 124 [] [.agg (cD.c t),aI dm] (.bN [.agg (cD.c r.1),.bool r.2]) []:=by
 refine fK Tryz.func124 ?_
 unfold wy at h
 (conv=>whnf);left;(conv=>whnf);left;(conv=>whnf);left;(conv=>whnf);refine cL h ya fun a h=>?_;(conv=>whnf);left;refine bS h (fun h=>qK) fun h=>?_;(conv=>whnf);refine aX ?_;(conv=>whnf);refine gX h fun h=>?_;(conv=>whnf);refine gS h fun h=>?_;(conv=>whnf);refine gS h fun h=>?_;(conv=>whnf);left;(conv=>whnf);obtain⟨b,hy,h⟩:=dS h;refine⟨_,_,(lg (bZ (YF AV.sl rQ) rfl) (eT (uP hy) rfl)),Or.inr ⟨[],rfl,?_⟩⟩;exact qK
theorem HX{t n term r}(h:wx F t n term=some r):FZ ml 98 [] [.agg (cD.c t),aI n,aI term] (.agg (cD.c r)) []:=by
 refine fK Tryz.func98 ?_
 unfold wx at h
 (conv=>whnf);left;(conv=>whnf);left;(conv=>whnf);left;(conv=>whnf);refine cL h ya fun b h=>?_;(conv=>whnf);refine jN h fun a=>jM [(1,aI n),(2,aI term),(3,pp 0),(6,pp 1),(20,.bool a)] (w9 t 0 0) 2 (fun h=>qE [(0,32),(1,64)]) fun h=>?_;(conv=>whnf);left;refine bS h (fun h=>?_) fun h=>?_
 ·(conv=>whnf);left;(conv=>whnf);exact cR h HU fun d h=>qK
 exact qK
theorem Et{s r}(h:uS F s=some r):FZ ml 150 [] [(.sl (List.map cJ s))] (.an 0 1) [(0,.rows true (List.map cJ r))]:=by
 unfold uS at h
 obtain⟨hg,h⟩:=dA h
 cases h
 refine lW 2000 Tryz.func150 rfl (by kernel_rfl) mixed (by show 1≤8;decide) (by decide) rfl ?_
 refine oL ?_
 refine And.intro (fun hp=>?_) ?_
 ·conv=>whnf
  exact kG [(0,128)] rfl (by rw[hp];rfl) rfl
 refine oL ?_
 refine And.intro (dU.map (fun _=>rfl)) ?_
 refine And.intro dU.nil ?_
 refine And.intro (show 0+(List.map cJ s).length≤bm by simpa using hg) ?_
 conv=>whnf
 exact gI [(0,192)]
theorem U3{r_ r}(h:Bw F r_=some r):FZ ml 99 [] [.agg (bn.c r_)] (.agg (bn.c r)) []:=by
 refine fA Tryz.func99 ?_
 unfold Bw at h
 (conv=>whnf);left;(conv=>whnf);left;(conv=>whnf);left;(conv=>whnf);refine cR h (fun h=>eT (wY h) rfl) fun a h=>?_;(conv=>whnf);left;(conv=>whnf);refine cR h (fun h=>eT (wY h) rfl) fun b h=>?_;(conv=>whnf);left;(conv=>whnf);refine cR h (fun h=>eT (Et h) rfl) fun d h=>?_;(conv=>whnf);left;(conv=>whnf);refine cR h (fun h=>eT (Et h) rfl) fun e h=>?_;(conv=>whnf);refine aX ?_;(conv=>whnf);left;(conv=>whnf);exact cR h (fun h=>eT (uP h) rfl) fun f h=>qR
theorem pg{r_ r}(h:np F r_=some r):FZ ml 69 [] [.agg (bn.c r_)] (.agg (bn.c r)) []:=by
 refine fK Tryz.func69 ?_
 unfold np at h
 (conv=>whnf);left;(conv=>whnf);left;(conv=>whnf);left;(conv=>whnf);exact cR h U3 fun a h=>qK
theorem yi{r_ b r}(h:xL F r_ b=some r):FZ ml 68 [] [.agg (bn.c r_),sM cB b] (.bN [.agg (bn.c r.1),.bool r.2]) []:=by
 refine fA Tryz.func68 ?_
 unfold xL at h
 (conv=>whnf);left;(conv=>whnf);left;(conv=>whnf);left;refine bS h (fun h=>qR) fun h=>?_;(conv=>whnf);left;(conv=>whnf);refine cR h Vz fun a h=>?_;(conv=>whnf);refine aX ?_;(conv=>whnf);refine oB h fun d h=>?_;(conv=>whnf);refine aX ?_;(conv=>whnf);refine both (b:=(Option.isSome (ak d a))) (fun hb=>?_) fun hb=>?_
 ·replace h:=qH h hb;refine xV (ek:=(fun(f:Int)=>(AV.int IntKind.u8 f))) (en:=cJ) a d rfl rfl (jK Tryz.underlying5) hb ?_;(conv=>whnf);refine cG [352] h VQ fun g h=>?_;(conv=>whnf);refine aX ?_;(conv=>whnf);refine jN h fun l=>jM [(1,sM cB b),(2,pp 0),(4,pp 1),(6,.an 2 3),(30,.bool l)] (ln r_++[(1,rF pn),(2,rT bW.c g.2)]) 3 (fun h=>qE [(0,32),(1,64),(2,417)]) fun h=>?_;(conv=>whnf);left;refine bS h (fun h=>qR) fun h=>?_;(conv=>whnf);refine aX ?_;(conv=>whnf);refine oB h fun A h=>?_;(conv=>whnf);refine oB h fun i h=>?_;(conv=>whnf);refine aX ?_;(conv=>whnf);refine aX ?_;(conv=>whnf);refine oB h fun B h=>?_;(conv=>whnf);left;(conv=>whnf);left;refine bS h (fun h=>?_) fun h=>?_
  ·(conv=>whnf);refine aX ?_;(conv=>whnf);refine oB h fun C h=>?_;(conv=>whnf);refine oB h fun D h=>?_;(conv=>whnf);refine aX ?_;(conv=>whnf);left;(conv=>whnf);refine cR h pg fun E h=>?_;(conv=>whnf);left;(conv=>whnf);exact cL h pD fun G h=>qR
  (conv=>whnf);left;refine bS h (fun h=>?_) fun h=>?_
  ·(conv=>whnf);refine jN h fun m=>jM [(2,pp 0),(4,pp 1),(6,.an 2 3),(8,aI i.N),(68,.bool m)] (ln r_++[(1,rF pn),(2,rT bW.c g.2)]) 3 (fun h=>qE [(0,0),(1,1),(2,2)]) fun h=>?_;(conv=>whnf);left;refine bS h (fun h=>qR) fun h=>?_;(conv=>whnf);refine aX ?_;(conv=>whnf);refine gX h fun h=>?_;(conv=>whnf);refine gX h fun h=>?_;(conv=>whnf);refine gS h fun h=>?_;(conv=>whnf);left;(conv=>whnf);refine cR h (fun h=>aE (uP h)) fun H h=>?_;(conv=>whnf);refine aX ?_;(conv=>whnf);refine oB h fun I h=>?_;(conv=>whnf);refine oB h fun J h=>?_;(conv=>whnf);refine aX ?_;(conv=>whnf);refine oB h fun K h=>?_;(conv=>whnf);refine oB h fun L h=>?_;(conv=>whnf);left;(conv=>whnf);left;(conv=>whnf);refine aX ?_;(conv=>whnf);refine aX ?_;(conv=>whnf);refine gS h fun h=>?_;(conv=>whnf);left;(conv=>whnf);refine aX ?_;(conv=>whnf);left;obtain⟨M,hy,h⟩:=dS h;refine⟨_,_,(aE (pg hy)),Or.inr ⟨[675],rfl,?_⟩⟩;(conv=>whnf);left;(conv=>whnf);exact cL h pD fun O h=>qR
  (conv=>whnf);refine jS h fun zc ⟨n,o,p,q⟩=>jT [(2,pp 0),(4,pp 1)] [(0,rF [aI r_.Id,sM cJ r_.au,aI r_.Term,aI r_.bg,aI r_.bx,aI r_.bf,aI (n),aI (o),sM bj.c p,.str q,aI r_.aj,aI r_.Left,aI r_.bY,sM cJ r_.bB,sM cJ r_.Next,sM cJ r_.Match]),(1,rF pn)] 2 (fun h Ct e=>?_) fun h=>?_
  ·(conv=>whnf);left;refine bS h (fun h=>?_) fun h=>?_
   ·(conv=>whnf);refine aX ?_;(conv=>whnf);refine oB h fun P h=>?_;(conv=>whnf);refine oB h fun Q h=>?_;(conv=>whnf);left;(conv=>whnf);refine cR h HX fun R h=>?_;(conv=>whnf);refine aX ?_;(conv=>whnf);refine oB h fun S h=>?_;(conv=>whnf);refine oB h fun T h=>?_;exact qE [(0,0),(1,1)]
   (conv=>whnf);left;refine bS h (fun h=>?_) fun h=>?_
   ·(conv=>whnf);refine jN h fun s=>jM [(2,pp 0),(4,pp 1),(8,aI i.N),(121,.bool s)] (ln r_++[(1,rF pn)]) 2 (fun h=>qE [(0,0),(1,1)]) fun h=>?_;(conv=>whnf);left;refine bS h (fun h=>?_) fun h=>?_
    ·cases h;cases Ct;exact rfl
    (conv=>whnf);refine aX ?_;(conv=>whnf);refine gX h fun h=>?_;(conv=>whnf);refine gX h fun h=>?_;(conv=>whnf);refine gS h fun h=>?_;(conv=>whnf);left;(conv=>whnf);obtain⟨U,hy,h⟩:=dS h;refine⟨_,_,(lg (bZ (YF AV.sl rQ) rfl) (eT (uP hy) rfl)),Or.inr ⟨[],rfl,?_⟩⟩;exact qE [(0,0),(1,1)]
   exact qE [(0,0),(1,1)]
  (conv=>whnf);left;(conv=>whnf);refine cR h pg fun V h=>?_;(conv=>whnf);left;(conv=>whnf);exact cL h pD fun X h=>qR
 replace h:=qF h hb;refine xU (ek:=(fun(f:Int)=>(AV.int IntKind.u8 f))) (en:=cJ) a d .dq rfl rfl (jK Tryz.underlying5) hb ⟨32,.dq,by kernel_rfl,by kernel_rfl,.refl _⟩ ?_;(conv=>whnf);left;(conv=>whnf);refine cR h (fun h=>aW (eT (DW h) rfl)) fun j h=>?_;(conv=>whnf);refine aX ?_;(conv=>whnf);refine jN h fun t=>jM [(1,sM cB b),(2,pp 0),(4,pp 1),(6,sM bW.c j.2),(30,.bool t)] (ln r_++[(1,rF pn)]) 2 (fun h=>qE [(0,32),(1,64)]) fun h=>?_;(conv=>whnf);left;refine bS h (fun h=>qR) fun h=>?_;(conv=>whnf);refine aX ?_;(conv=>whnf);refine oB h fun k h=>?_;(conv=>whnf);refine aX ?_;(conv=>whnf);refine aX ?_;(conv=>whnf);refine oB h fun Y h=>?_;(conv=>whnf);left;(conv=>whnf);left;refine bS h (fun h=>?_) fun h=>?_
 ·(conv=>whnf);refine aX ?_;(conv=>whnf);refine oB h fun Z h=>?_;(conv=>whnf);refine aX ?_;(conv=>whnf);left;(conv=>whnf);refine cR h pg fun a0 h=>?_;(conv=>whnf);left;(conv=>whnf);exact cL h pD fun a1 h=>qR
 (conv=>whnf);left;refine bS h (fun h=>?_) fun h=>?_
 ·(conv=>whnf);refine jN h fun u=>jM [(2,pp 0),(4,pp 1),(6,sM bW.c j.2),(8,aI k.N),(68,.bool u)] (ln r_++[(1,rF pn)]) 2 (fun h=>qE [(0,0),(1,1)]) fun h=>?_;(conv=>whnf);left;refine bS h (fun h=>qR) fun h=>?_;(conv=>whnf);refine aX ?_;(conv=>whnf);refine gX h fun h=>?_;(conv=>whnf);refine gX h fun h=>?_;(conv=>whnf);refine gS h fun h=>?_;(conv=>whnf);left;(conv=>whnf);refine cR h (fun h=>aE (uP h)) fun a2 h=>?_;(conv=>whnf);refine aX ?_;(conv=>whnf);refine oB h fun a3 h=>?_;(conv=>whnf);refine aX ?_;(conv=>whnf);refine oB h fun a4 h=>?_;(conv=>whnf);left;(conv=>whnf);left;(conv=>whnf);refine aX ?_;(conv=>whnf);refine aX ?_;(conv=>whnf);refine gS h fun h=>?_;(conv=>whnf);left;(conv=>whnf);refine aX ?_;(conv=>whnf);left;obtain⟨a5,hy,h⟩:=dS h;refine⟨_,_,(aE (pg hy)),Or.inr ⟨[674],rfl,?_⟩⟩;(conv=>whnf);left;(conv=>whnf);exact cL h pD fun a6 h=>qR
 (conv=>whnf);refine jS h fun y9 ⟨v,w,x,y⟩=>jT [(2,pp 0),(4,pp 1)] [(0,rF [aI r_.Id,sM cJ r_.au,aI r_.Term,aI r_.bg,aI r_.bx,aI r_.bf,aI (v),aI (w),sM bj.c x,.str y,aI r_.aj,aI r_.Left,aI r_.bY,sM cJ r_.bB,sM cJ r_.Next,sM cJ r_.Match]),(1,rF pn)] 2 (fun h Cs e=>?_) fun h=>?_
 ·(conv=>whnf);left;refine bS h (fun h=>?_) fun h=>?_
  ·(conv=>whnf);refine aX ?_;(conv=>whnf);refine oB h fun a7 h=>?_;(conv=>whnf);left;(conv=>whnf);refine cR h HX fun a8 h=>?_;(conv=>whnf);refine aX ?_;(conv=>whnf);refine oB h fun a9 h=>?_;exact qE [(0,0),(1,1)]
  (conv=>whnf);left;refine bS h (fun h=>?_) fun h=>?_
  ·(conv=>whnf);refine jN h fun z=>jM [(2,pp 0),(4,pp 1),(8,aI k.N),(121,.bool z)] (ln r_++[(1,rF pn)]) 2 (fun h=>qE [(0,0),(1,1)]) fun h=>?_;(conv=>whnf);left;refine bS h (fun h=>?_) fun h=>?_
   ·cases h;cases Cs;exact rfl
   (conv=>whnf);refine aX ?_;(conv=>whnf);refine gX h fun h=>?_;(conv=>whnf);refine gX h fun h=>?_;(conv=>whnf);refine gS h fun h=>?_;(conv=>whnf);left;(conv=>whnf);obtain⟨aA,hy,h⟩:=dS h;refine⟨_,_,(lg (bZ (YF AV.sl rQ) rfl) (eT (uP hy) rfl)),Or.inr ⟨[],rfl,?_⟩⟩;exact qE [(0,0),(1,1)]
  exact qE [(0,0),(1,1)]
 (conv=>whnf);left;(conv=>whnf);refine cR h pg fun aB h=>?_;(conv=>whnf);left;(conv=>whnf);exact cL h pD fun aC h=>qR
theorem Mz{id U c fs l r}(h:rR F id U c fs l=some (Sum.inl r)):FZ ml 52 (T5 c fs l) [pp 0,aI id,sM cJ U] (.bN [AV.ei (Value.pointer none),.agg (bn.c r.1),aI r.2.1]) (xb r.2.2.1 r.2.2.2.1 r.2.2.2.2):=by
 refine fG Tryz.func52 ?_
 unfold rR at h
 (conv=>whnf);left;(conv=>whnf);left;(conv=>whnf);refine cR h HR fun a h=>?_;(conv=>whnf);left;(conv=>whnf);left;(conv=>whnf);left;refine bS h (fun h=>?_) fun h=>?_
 ·(conv=>whnf);left;cases h;exact gW [(0,0),(1,1),(3,2)]
 obtain⟨b,hy,h⟩:=dS h;rcases b with b|b
 ·replace h:=jH h;(conv=>whnf);refine cg [0,1,2] (HV hy) ?_;(conv=>whnf);left;refine bS h (fun h=>?_) fun h=>?_
  ·(conv=>whnf);left;cases h;exact gW [(0,0),(1,1),(2,2),(3,644)]
  (conv=>whnf);refine jS h fun o0 ⟨V,X,Y,Z,a0,a1,a2,a3,a4,a5,a6,a7,a8,a9,aA,aB⟩=>jT [(7,pp 3),(9,pp 4),(11,AV.ei (Value.pointer none))] (Ix b.2.1 b.2.2.1 (V) X (Y) (Z) (a0) (a1) (a2) (a3) a4 a5 (a6) (a7) (a8) a9 aA aB b.2.2.2.2) 6 (fun h k0 e=>?_) fun h=>?_
  ·(conv=>whnf);left;(conv=>whnf);refine lI (fun n' ⟨g,m,n,o,p,q,s,t,u,v,w,x,y,z,A,B,C⟩=>uK F b n' g m n o p q s t u v w x y z A B C) (fun⟨g,m,n,o,p,q,s,t,u,v,w,x,y,z,A,B,C⟩=>[(7,pp 3),(9,pp 4),(11,AV.ei (Value.pointer none)),(40,.an 5 1),(41,aI (@Nat.cast Int instNatCastInt (List.length (List.map (fe cB) b.2.2.2.1)))),(42,aI g)]) (fun⟨g,m,n,o,p,q,s,t,u,v,w,x,y,z,A,B,C⟩=>(Iy b.2.1 b.2.2.1 m n o p q s t u v w x y z A B C b.2.2.2.1 b.2.2.2.2)) 7 ((0:Int),a.1.Id,a.1.au,a.1.Term,a.1.bg,a.1.bx,a.1.bf,a.1.Trail.ar,a.1.Trail.aq,a.1.Trail.Entries,a.1.bM,a.1.aj,a.1.Left,a.1.bY,a.1.bB,a.1.Next,a.1.Match) [(0,0),(1,1),(2,2),(3,64),(4,320),(5,643),(6,644)] h ?_;rintro aC ⟨g,m,n,o,p,q,s,t,u,v,w,x,y,z,A,B,C⟩ h;dsimp only at h;rw[uK.eq_2]at h;(conv=>whnf);left;refine bS h (fun h=>?_) fun h=>?_
   ·(conv=>whnf);left;(conv=>whnf);refine gX h fun h=>?_;(conv=>whnf);refine oB h fun aZ h=>?_;(conv=>whnf);refine oB h fun b0 h=>?_;(conv=>whnf);left;(conv=>whnf);refine cR h yi fun d h=>?_;(conv=>whnf);left;(conv=>whnf);left;refine bS h (fun h=>?_) fun h=>?_
    ·(conv=>whnf);left;cases h;cases k0;exact gW [(0,0),(1,1),(2,2),(3,6)]
    exact rE (aC,(IntKind.wrap IntKind.i64 (g+(1:Int))),d.1.Id,d.1.au,d.1.Term,d.1.bg,d.1.bx,d.1.bf,d.1.Trail.ar,d.1.Trail.aq,d.1.Trail.Entries,d.1.bM,d.1.aj,d.1.Left,d.1.bY,d.1.bB,d.1.Next,d.1.Match) (ii 7 []) h
   exact qE (ii 5 [(5,6)])
  (conv=>whnf);left;(conv=>whnf);left;(conv=>whnf);left;(conv=>whnf);refine cR h pg fun b1 h=>?_;(conv=>whnf);refine aX ?_;cases h
 replace h:=jI h;(conv=>whnf);refine cg [0,1,2] (HW hy) ?_;(conv=>whnf);left;refine bS h (fun h=>?_) fun h=>?_
 ·(conv=>whnf);left;cases h;exact gW [(0,0),(1,1),(2,2),(3,644)]
 (conv=>whnf);refine jS h fun o1 ⟨aD,aF,aG,aH,aJ,aK,aL,aM,aN,aO,aP,aQ,aR,aS,aT,aU,aV⟩=>jT [(7,pp 3),(9,pp 4),(11,pp 5)] (T7 b.2.2.1 b.2.2.2.1 0 0 0 0 0 0 0 [] 0 0 (aD) (aF) aG (aH) (aJ) (aK) (aL) (aM) (aN) aO aP (aQ) (aR) (aS) aT aU aV b.2.2.2.2.1 b.2.2.2.2.2.1 b.2.2.2.2.2.2.1 b.2.2.2.2.2.2.2) 7 (fun h k1 e=>?_) fun h=>?_
 ·(conv=>whnf);left;(conv=>whnf);refine lI (fun n' ⟨i,j,k,D,E,G,H,I,J,K,L,M,N,O,P,Q,R,S,T⟩=>qS F b n' i j k D E G H I J K L M N O P Q R S T) (fun⟨i,j,k,D,E,G,H,I,J,K,L,M,N,O,P,Q,R,S,T⟩=>[(7,pp 3),(9,pp 4),(11,pp 5),(40,sM (fe cB) b.1),(41,aI i),(42,aI j)]) (fun⟨i,j,k,D,E,G,H,I,J,K,L,M,N,O,P,Q,R,S,T⟩=>(T7 b.2.2.1 b.2.2.2.1 0 0 0 0 0 0 0 [] 0 0 k D E G H I J K L M N O P Q R S T b.2.2.2.2.1 b.2.2.2.2.2.1 b.2.2.2.2.2.2.1 b.2.2.2.2.2.2.2)) 7 ((@Nat.cast Int instNatCastInt (List.length (List.map (fe cB) b.1))),(0:Int),(0:Int),a.1.Id,a.1.au,a.1.Term,a.1.bg,a.1.bx,a.1.bf,a.1.Trail.ar,a.1.Trail.aq,a.1.Trail.Entries,a.1.bM,a.1.aj,a.1.Left,a.1.bY,a.1.bB,a.1.Next,a.1.Match) [(0,0),(1,1),(2,2),(3,64),(4,320),(5,643),(6,644)] h ?_;rintro aY ⟨i,j,k,D,E,G,H,I,J,K,L,M,N,O,P,Q,R,S,T⟩ h;dsimp only at h;rw[qS.eq_2]at h;(conv=>whnf);left;refine bS h (fun h=>?_) fun h=>?_
  ·(conv=>whnf);left;(conv=>whnf);refine gX h fun h=>?_;(conv=>whnf);refine oB h fun b2 h=>?_;(conv=>whnf);left;(conv=>whnf);refine cR h yi fun f h=>?_;(conv=>whnf);left;(conv=>whnf);left;refine bS h (fun h=>?_) fun h=>?_
   ·(conv=>whnf);left;cases h;cases k1;exact gW [(0,0),(1,1),(2,2),(3,6)]
   exact rE (aY,i,(IntKind.wrap IntKind.i64 (j+(1:Int))),k,f.1.Id,f.1.au,f.1.Term,f.1.bg,f.1.bx,f.1.bf,f.1.Trail.ar,f.1.Trail.aq,f.1.Trail.Entries,f.1.bM,f.1.aj,f.1.Left,f.1.bY,f.1.bB,f.1.Next,f.1.Match) (ii 7 []) h
  exact qE (ii 7 [])
 (conv=>whnf);left;(conv=>whnf);left;(conv=>whnf);left;(conv=>whnf);refine cR h pg fun b3 h=>?_;(conv=>whnf);refine aX ?_;cases h
theorem MA{id U c fs l r}(h:rR F id U c fs l=some (Sum.inr (Sum.inl r))):FZ ml 52 (T5 c fs l) [pp 0,aI id,sM cJ U] (.bN [pp 3,.agg (bn.c r.1),aI r.2.1]) (ED r.2.2.1 r.2.2.2.1++[(3,rF ([AV.ei (Value.pointer none)]++bn.c r.2.2.2.2.1)),(4,rT bp.c r.2.2.2.2.2)]):=by
 refine fG Tryz.func52 ?_
 unfold rR at h
 (conv=>whnf);left;(conv=>whnf);left;(conv=>whnf);refine cR h HR fun a h=>?_;(conv=>whnf);left;(conv=>whnf);left;(conv=>whnf);left;refine bS h (fun h=>?_) fun h=>?_
 ·(conv=>whnf);left;cases h
 obtain⟨b,hy,h⟩:=dS h;rcases b with b|b
 ·replace h:=jH h;(conv=>whnf);refine cg [0,1,2] (HV hy) ?_;(conv=>whnf);left;refine bS h (fun h=>?_) fun h=>?_
  ·(conv=>whnf);left;cases h
  (conv=>whnf);refine jS h fun o0 ⟨V,X,Y,Z,a0,a1,a2,a3,a4,a5,a6,a7,a8,a9,aA,aB⟩=>jT [(7,pp 3),(9,pp 4),(11,AV.ei (Value.pointer none))] (Ix b.2.1 b.2.2.1 (V) X (Y) (Z) (a0) (a1) (a2) (a3) a4 a5 (a6) (a7) (a8) a9 aA aB b.2.2.2.2) 6 (fun h k0 e=>?_) fun h=>?_
  ·(conv=>whnf);left;(conv=>whnf);refine lI (fun n' ⟨g,m,n,o,p,q,s,t,u,v,w,x,y,z,A,B,C⟩=>uK F b n' g m n o p q s t u v w x y z A B C) (fun⟨g,m,n,o,p,q,s,t,u,v,w,x,y,z,A,B,C⟩=>[(7,pp 3),(9,pp 4),(11,AV.ei (Value.pointer none)),(40,.an 5 1),(41,aI (@Nat.cast Int instNatCastInt (List.length (List.map (fe cB) b.2.2.2.1)))),(42,aI g)]) (fun⟨g,m,n,o,p,q,s,t,u,v,w,x,y,z,A,B,C⟩=>(Iy b.2.1 b.2.2.1 m n o p q s t u v w x y z A B C b.2.2.2.1 b.2.2.2.2)) 7 ((0:Int),a.1.Id,a.1.au,a.1.Term,a.1.bg,a.1.bx,a.1.bf,a.1.Trail.ar,a.1.Trail.aq,a.1.Trail.Entries,a.1.bM,a.1.aj,a.1.Left,a.1.bY,a.1.bB,a.1.Next,a.1.Match) [(0,0),(1,1),(2,2),(3,64),(4,320),(5,643),(6,644)] h ?_;rintro aC ⟨g,m,n,o,p,q,s,t,u,v,w,x,y,z,A,B,C⟩ h;dsimp only at h;rw[uK.eq_2]at h;(conv=>whnf);left;refine bS h (fun h=>?_) fun h=>?_
   ·(conv=>whnf);left;(conv=>whnf);refine gX h fun h=>?_;(conv=>whnf);refine oB h fun aZ h=>?_;(conv=>whnf);refine oB h fun b0 h=>?_;(conv=>whnf);left;(conv=>whnf);refine cR h yi fun d h=>?_;(conv=>whnf);left;(conv=>whnf);left;refine bS h (fun h=>?_) fun h=>?_
    ·(conv=>whnf);left;cases h;cases k0
    exact rE (aC,(IntKind.wrap IntKind.i64 (g+(1:Int))),d.1.Id,d.1.au,d.1.Term,d.1.bg,d.1.bx,d.1.bf,d.1.Trail.ar,d.1.Trail.aq,d.1.Trail.Entries,d.1.bM,d.1.aj,d.1.Left,d.1.bY,d.1.bB,d.1.Next,d.1.Match) (ii 7 []) h
   exact qE (ii 5 [(5,6)])
  (conv=>whnf);left;(conv=>whnf);left;(conv=>whnf);left;(conv=>whnf);refine cR h pg fun b1 h=>?_;(conv=>whnf);refine aX ?_;(conv=>whnf);obtain rfl:=Sum.inl.inj (Vn (YO h));exact gI [(0,0),(1,1),(2,2),(3,102),(4,5)]
 replace h:=jI h;(conv=>whnf);refine cg [0,1,2] (HW hy) ?_;(conv=>whnf);left;refine bS h (fun h=>?_) fun h=>?_
 ·(conv=>whnf);left;cases h
 (conv=>whnf);refine jS h fun o1 ⟨aD,aF,aG,aH,aJ,aK,aL,aM,aN,aO,aP,aQ,aR,aS,aT,aU,aV⟩=>jT [(7,pp 3),(9,pp 4),(11,pp 5)] (T7 b.2.2.1 b.2.2.2.1 0 0 0 0 0 0 0 [] 0 0 (aD) (aF) aG (aH) (aJ) (aK) (aL) (aM) (aN) aO aP (aQ) (aR) (aS) aT aU aV b.2.2.2.2.1 b.2.2.2.2.2.1 b.2.2.2.2.2.2.1 b.2.2.2.2.2.2.2) 7 (fun h k1 e=>?_) fun h=>?_
 ·(conv=>whnf);left;(conv=>whnf);refine lI (fun n' ⟨i,j,k,D,E,G,H,I,J,K,L,M,N,O,P,Q,R,S,T⟩=>qS F b n' i j k D E G H I J K L M N O P Q R S T) (fun⟨i,j,k,D,E,G,H,I,J,K,L,M,N,O,P,Q,R,S,T⟩=>[(7,pp 3),(9,pp 4),(11,pp 5),(40,sM (fe cB) b.1),(41,aI i),(42,aI j)]) (fun⟨i,j,k,D,E,G,H,I,J,K,L,M,N,O,P,Q,R,S,T⟩=>(T7 b.2.2.1 b.2.2.2.1 0 0 0 0 0 0 0 [] 0 0 k D E G H I J K L M N O P Q R S T b.2.2.2.2.1 b.2.2.2.2.2.1 b.2.2.2.2.2.2.1 b.2.2.2.2.2.2.2)) 7 ((@Nat.cast Int instNatCastInt (List.length (List.map (fe cB) b.1))),(0:Int),(0:Int),a.1.Id,a.1.au,a.1.Term,a.1.bg,a.1.bx,a.1.bf,a.1.Trail.ar,a.1.Trail.aq,a.1.Trail.Entries,a.1.bM,a.1.aj,a.1.Left,a.1.bY,a.1.bB,a.1.Next,a.1.Match) [(0,0),(1,1),(2,2),(3,64),(4,320),(5,643),(6,644)] h ?_;rintro aY ⟨i,j,k,D,E,G,H,I,J,K,L,M,N,O,P,Q,R,S,T⟩ h;dsimp only at h;rw[qS.eq_2]at h;(conv=>whnf);left;refine bS h (fun h=>?_) fun h=>?_
  ·(conv=>whnf);left;(conv=>whnf);refine gX h fun h=>?_;(conv=>whnf);refine oB h fun b2 h=>?_;(conv=>whnf);left;(conv=>whnf);refine cR h yi fun f h=>?_;(conv=>whnf);left;(conv=>whnf);left;refine bS h (fun h=>?_) fun h=>?_
   ·(conv=>whnf);left;cases h;cases k1
   exact rE (aY,i,(IntKind.wrap IntKind.i64 (j+(1:Int))),k,f.1.Id,f.1.au,f.1.Term,f.1.bg,f.1.bx,f.1.bf,f.1.Trail.ar,f.1.Trail.aq,f.1.Trail.Entries,f.1.bM,f.1.aj,f.1.Left,f.1.bY,f.1.bB,f.1.Next,f.1.Match) (ii 7 []) h
  exact qE (ii 7 [])
 (conv=>whnf);left;(conv=>whnf);left;(conv=>whnf);left;(conv=>whnf);refine cR h pg fun b3 h=>?_;(conv=>whnf);refine aX ?_;cases h
theorem MC{id U c fs l r}(h:rR F id U c fs l=some (Sum.inr (Sum.inr r))):FZ ml 52 (T5 c fs l) [pp 0,aI id,sM cJ U] (.bN [pp 3,.agg (bn.c r.1),aI r.2.1]) (ED r.2.2.1 r.2.2.2.1++[(3,rF ([pp 5]++bn.c r.2.2.2.2.1)),(4,rT bp.c r.2.2.2.2.2.1),(5,rF [pp 0,.str r.2.2.2.2.2.2.1,aI r.2.2.2.2.2.2.2.1,aI r.2.2.2.2.2.2.2.2])]):=by
 refine fG Tryz.func52 ?_
 unfold rR at h
 (conv=>whnf);left;(conv=>whnf);left;(conv=>whnf);refine cR h HR fun a h=>?_;(conv=>whnf);left;(conv=>whnf);left;(conv=>whnf);left;refine bS h (fun h=>?_) fun h=>?_
 ·(conv=>whnf);left;cases h
 obtain⟨b,hy,h⟩:=dS h;rcases b with b|b
 ·replace h:=jH h;(conv=>whnf);refine cg [0,1,2] (HV hy) ?_;(conv=>whnf);left;refine bS h (fun h=>?_) fun h=>?_
  ·(conv=>whnf);left;cases h
  (conv=>whnf);refine jS h fun o0 ⟨V,X,Y,Z,a0,a1,a2,a3,a4,a5,a6,a7,a8,a9,aA,aB⟩=>jT [(7,pp 3),(9,pp 4),(11,AV.ei (Value.pointer none))] (Ix b.2.1 b.2.2.1 (V) X (Y) (Z) (a0) (a1) (a2) (a3) a4 a5 (a6) (a7) (a8) a9 aA aB b.2.2.2.2) 6 (fun h k0 e=>?_) fun h=>?_
  ·(conv=>whnf);left;(conv=>whnf);refine lI (fun n' ⟨g,m,n,o,p,q,s,t,u,v,w,x,y,z,A,B,C⟩=>uK F b n' g m n o p q s t u v w x y z A B C) (fun⟨g,m,n,o,p,q,s,t,u,v,w,x,y,z,A,B,C⟩=>[(7,pp 3),(9,pp 4),(11,AV.ei (Value.pointer none)),(40,.an 5 1),(41,aI (@Nat.cast Int instNatCastInt (List.length (List.map (fe cB) b.2.2.2.1)))),(42,aI g)]) (fun⟨g,m,n,o,p,q,s,t,u,v,w,x,y,z,A,B,C⟩=>(Iy b.2.1 b.2.2.1 m n o p q s t u v w x y z A B C b.2.2.2.1 b.2.2.2.2)) 7 ((0:Int),a.1.Id,a.1.au,a.1.Term,a.1.bg,a.1.bx,a.1.bf,a.1.Trail.ar,a.1.Trail.aq,a.1.Trail.Entries,a.1.bM,a.1.aj,a.1.Left,a.1.bY,a.1.bB,a.1.Next,a.1.Match) [(0,0),(1,1),(2,2),(3,64),(4,320),(5,643),(6,644)] h ?_;rintro aC ⟨g,m,n,o,p,q,s,t,u,v,w,x,y,z,A,B,C⟩ h;dsimp only at h;rw[uK.eq_2]at h;(conv=>whnf);left;refine bS h (fun h=>?_) fun h=>?_
   ·(conv=>whnf);left;(conv=>whnf);refine gX h fun h=>?_;(conv=>whnf);refine oB h fun aZ h=>?_;(conv=>whnf);refine oB h fun b0 h=>?_;(conv=>whnf);left;(conv=>whnf);refine cR h yi fun d h=>?_;(conv=>whnf);left;(conv=>whnf);left;refine bS h (fun h=>?_) fun h=>?_
    ·(conv=>whnf);left;cases h;cases k0
    exact rE (aC,(IntKind.wrap IntKind.i64 (g+(1:Int))),d.1.Id,d.1.au,d.1.Term,d.1.bg,d.1.bx,d.1.bf,d.1.Trail.ar,d.1.Trail.aq,d.1.Trail.Entries,d.1.bM,d.1.aj,d.1.Left,d.1.bY,d.1.bB,d.1.Next,d.1.Match) (ii 7 []) h
   exact qE (ii 5 [(5,6)])
  (conv=>whnf);left;(conv=>whnf);left;(conv=>whnf);left;(conv=>whnf);refine cR h pg fun b1 h=>?_;(conv=>whnf);refine aX ?_;cases h
 replace h:=jI h;(conv=>whnf);refine cg [0,1,2] (HW hy) ?_;(conv=>whnf);left;refine bS h (fun h=>?_) fun h=>?_
 ·(conv=>whnf);left;cases h
 (conv=>whnf);refine jS h fun o1 ⟨aD,aF,aG,aH,aJ,aK,aL,aM,aN,aO,aP,aQ,aR,aS,aT,aU,aV⟩=>jT [(7,pp 3),(9,pp 4),(11,pp 5)] (T7 b.2.2.1 b.2.2.2.1 0 0 0 0 0 0 0 [] 0 0 (aD) (aF) aG (aH) (aJ) (aK) (aL) (aM) (aN) aO aP (aQ) (aR) (aS) aT aU aV b.2.2.2.2.1 b.2.2.2.2.2.1 b.2.2.2.2.2.2.1 b.2.2.2.2.2.2.2) 7 (fun h k1 e=>?_) fun h=>?_
 ·(conv=>whnf);left;(conv=>whnf);refine lI (fun n' ⟨i,j,k,D,E,G,H,I,J,K,L,M,N,O,P,Q,R,S,T⟩=>qS F b n' i j k D E G H I J K L M N O P Q R S T) (fun⟨i,j,k,D,E,G,H,I,J,K,L,M,N,O,P,Q,R,S,T⟩=>[(7,pp 3),(9,pp 4),(11,pp 5),(40,sM (fe cB) b.1),(41,aI i),(42,aI j)]) (fun⟨i,j,k,D,E,G,H,I,J,K,L,M,N,O,P,Q,R,S,T⟩=>(T7 b.2.2.1 b.2.2.2.1 0 0 0 0 0 0 0 [] 0 0 k D E G H I J K L M N O P Q R S T b.2.2.2.2.1 b.2.2.2.2.2.1 b.2.2.2.2.2.2.1 b.2.2.2.2.2.2.2)) 7 ((@Nat.cast Int instNatCastInt (List.length (List.map (fe cB) b.1))),(0:Int),(0:Int),a.1.Id,a.1.au,a.1.Term,a.1.bg,a.1.bx,a.1.bf,a.1.Trail.ar,a.1.Trail.aq,a.1.Trail.Entries,a.1.bM,a.1.aj,a.1.Left,a.1.bY,a.1.bB,a.1.Next,a.1.Match) [(0,0),(1,1),(2,2),(3,64),(4,320),(5,643),(6,644)] h ?_;rintro aY ⟨i,j,k,D,E,G,H,I,J,K,L,M,N,O,P,Q,R,S,T⟩ h;dsimp only at h;rw[qS.eq_2]at h;(conv=>whnf);left;refine bS h (fun h=>?_) fun h=>?_
  ·(conv=>whnf);left;(conv=>whnf);refine gX h fun h=>?_;(conv=>whnf);refine oB h fun b2 h=>?_;(conv=>whnf);left;(conv=>whnf);refine cR h yi fun f h=>?_;(conv=>whnf);left;(conv=>whnf);left;refine bS h (fun h=>?_) fun h=>?_
   ·(conv=>whnf);left;cases h;cases k1
   exact rE (aY,i,(IntKind.wrap IntKind.i64 (j+(1:Int))),k,f.1.Id,f.1.au,f.1.Term,f.1.bg,f.1.bx,f.1.bf,f.1.Trail.ar,f.1.Trail.aq,f.1.Trail.Entries,f.1.bM,f.1.aj,f.1.Left,f.1.bY,f.1.bB,f.1.Next,f.1.Match) (ii 7 []) h
  exact qE (ii 7 [])
 (conv=>whnf);left;(conv=>whnf);left;(conv=>whnf);left;(conv=>whnf);refine cR h pg fun b3 h=>?_;(conv=>whnf);refine aX ?_;(conv=>whnf);obtain rfl:=Vn (Vn (YO h));exact gI [(0,0),(1,1),(2,2),(3,103),(4,6),(5,5)]
theorem wL{s r}(h:qM F s=some r):FZ ml 53 [] [.str s] (.bN [aI r.1,.int IntKind.u32 r.2]) []:=by
 refine fA Tryz.func53 ?_
 unfold qM at h
 (conv=>whnf);left;(conv=>whnf);refine gX h fun h=>?_;(conv=>whnf);left;obtain⟨a,hy,h⟩:=dS h;refine⟨_,_,(lg (bZ (YF AV.sl rQ) (bZ (YF AV.sl rQ) rfl)) (eT (DW hy) rfl)),Or.inr ⟨[96,160],rfl,?_⟩⟩;(conv=>whnf);left;refine bS h (fun h=>qR) fun h=>?_;(conv=>whnf);refine aX ?_;(conv=>whnf);refine oB h fun b h=>?_;(conv=>whnf);refine aX ?_;(conv=>whnf);refine oB h fun c h=>?_;exact qR
end Go.T
