import Derived.Test.YtjpmdkgonlmddaaGreatDoorCertA
set_option linter.unusedVariables false
set_option maxRecDepth 200000
set_option maxHeartbeats 4000000
namespace Go.T
open Go Go.Ab Go.Proofs
variable {ml:Gv}{F:Nat}
theorem ZeK{recs c a b k fs l r}(h:Zbl F recs c a b k fs l=some r):FZ ml 96 (T21 c a b k fs l) [pp 0,sM (cSl cB) recs] (aI r.1) (T17 r.2.1 r.2.2.1 r.2.2.2.1 r.2.2.2.2.1 r.2.2.2.2.2.1 r.2.2.2.2.2.2):=by
 refine fG Tryz.func96 ?_
 unfold Zbl at h
 (conv=>whnf);left;(conv=>whnf);left;(conv=>whnf);left;(conv=>whnf);refine cR h (fun h=>Zav (Zkw h) rfl) fun m h=>?_;(conv=>whnf);left;refine bS h (fun h=>qG [(0,0),(1,1),(2,2),(4,3)]) fun h=>?_;(conv=>whnf);left;(conv=>whnf);refine cR h (fun h=>Zav (ZfM h) rfl) fun j h=>?_;(conv=>whnf);refine gX h fun h=>?_;(conv=>whnf);left;(conv=>whnf);refine cR h (fun h=>Zav (Zgy h) rfl) fun w h=>?_;(conv=>whnf);left;refine bS h (fun h=>qG [(0,0),(1,1),(2,2),(4,3)]) fun h=>?_;(conv=>whnf);refine jS h fun o0 ⟨o,p,q⟩=>jT [(0,pp 0),(1,sM (cSl cB) recs),(7,.str (([108,111,103,45]:List UInt8)++j))] (T17 c (IntKind.wrap IntKind.i64 (a+(1:Int))) b (o) p q) 5 (fun h k0 e=>?_) fun h=>?_
 ·(conv=>whnf);left;(conv=>whnf);refine lI (fun n' ⟨d,f,g,i⟩=>ZaA F c a b m j n' d f g i) (fun⟨d,f,g,i⟩=>[(0,pp 0),(1,sM (cSl cB) recs),(7,.str (([108,111,103,45]:List UInt8)++j)),(44,sM (cSl cB) m.2),(45,aI (@Nat.cast Int instNatCastInt (List.length (List.map (cSl cB) m.2)))),(46,aI d)]) (fun⟨d,f,g,i⟩=>(T17 c (IntKind.wrap IntKind.i64 (a+(1:Int))) b f g i)) 5 ((0:Int),k,fs,l) [(0,0),(1,1),(2,2),(4,3)] h ?_;rintro s ⟨d,f,g,i⟩ h;dsimp only at h;rw[ZaA.eq_2]at h;(conv=>whnf);left;refine bS h (fun h=>?_) fun h=>?_
  ·(conv=>whnf);left;(conv=>whnf);refine gX h fun h=>?_;(conv=>whnf);refine oB h fun x h=>?_;(conv=>whnf);refine cG [1,2,4] h Zfn fun n h=>?_;(conv=>whnf);left;refine bS h (fun h=>?_) fun h=>?_
   ·cases h;cases k0;exact gI (ii 4 [(4,328)])
   exact rE (s,(IntKind.wrap IntKind.i64 (d+(1:Int))),n.2.1,n.2.2.1,n.2.2.2) (ii 4 [(4,328)]) h
  exact qE (ii 5 [])
 (conv=>whnf);refine cG [1,2,4] h ZfI fun y h=>?_;(conv=>whnf);refine jN h fun⟨t,u,v⟩=>jM [(0,pp 0),(1,sM (cSl cB) recs),(7,.str (([108,111,103,45]:List UInt8)++j))] (T17 c (IntKind.wrap IntKind.i64 (a+(1:Int))) b t u v) 5 (fun h=>?_) fun h=>?_
 ·(conv=>whnf);left;refine bS h (fun h=>?_) fun h=>?_
  ·(conv=>whnf);exact cG [1,2,168] h Zb5 fun z h=>qE (ii 4 [(4,616)])
  exact qE (ii 4 [(4,168)])
 exact qG (ii 5 [])
theorem Zht{c fs l r}(h:ZfP F c fs l=some (Sum.inl r)):FZ ml 67 (T5 c fs l) [pp 0] (.tup [AV.con (Value.pointer none),.osw 3 1,aI r.1]) (T30 r.2.1 r.2.2.1++[(3,rT (cSl cB) r.2.2.2.1),(4,rT Zaa.c r.2.2.2.2)]):=by
 refine fG Tryz.func67 ?_
 unfold ZfP at h
 (conv=>whnf);left;(conv=>whnf);left;(conv=>whnf);refine cH [0,1,2] h Zfq fun f h=>?_;(conv=>whnf);refine jN h fun z=>jM [(1,pp 3),(5,.osw 4 1)] (T5 c fs l++[(3,rF [pp 0]),(4,rT cJ z)]) 5 (fun h=>?_) fun h=>?_
 ·(conv=>whnf);left;(conv=>whnf);refine lI (fun n' x'=>Zdf F f n' x'.1 x'.2) (fun x'=>[(1,pp 3),(5,.osw 4 1),(24,sM cStr f),(25,aI (@Nat.cast Int instNatCastInt (List.length (List.map cStr f)))),(26,aI x'.1)]) (fun x'=>(T5 c fs l++[(3,rF [pp 0]),(4,rT cJ x'.2)])) 5 ((0:Int),[]) [(0,0),(1,1),(2,2),(3,32),(4,224)] h ?_;rintro A ⟨w,R⟩ h;dsimp only at h;rw[Zdf.eq_2]at h;(conv=>whnf);left;refine bS h (fun h=>?_) fun h=>?_
  ·(conv=>whnf);refine jN h fun x=>jM [(1,pp 3),(5,.osw 4 1),(24,sM cStr f),(25,aI (@Nat.cast Int instNatCastInt (List.length (List.map cStr f)))),(26,aI w)] (T5 c fs l++[(3,rF [pp 0]),(4,rT cJ x)]) 5 (fun h=>?_) fun h=>?_
   ·(conv=>whnf);left;(conv=>whnf);refine gX h fun h=>?_;(conv=>whnf);refine oB h fun S h=>?_;(conv=>whnf);left;(conv=>whnf);refine cR h (fun h=>Zav (Zgy h) rfl) fun T h=>?_;(conv=>whnf);left;refine bS h (fun h=>?_) fun h=>?_
    ·(conv=>whnf);left;(conv=>whnf);refine aX ?_;(conv=>whnf);refine aX ?_;(conv=>whnf);refine gS h fun h=>?_;cases h;exact eE (ii 4 [(4,389)])
    exact qE (ii 5 [])
   exact rE (A,(IntKind.wrap IntKind.i64 (w+(1:Int))),x) (ii 5 []) h
  exact qE (ii 5 [])
 (conv=>whnf);refine cG [4] h Zd0 fun U h=>?_;(conv=>whnf);left;(conv=>whnf);left;(conv=>whnf);left;(conv=>whnf);left;(conv=>whnf);left;(conv=>whnf);left;obtain⟨g,hy,h⟩:=ZaE h;refine⟨_,_,(Zav (ZdL hy) rfl),Or.inr ⟨[4],rfl,?_⟩⟩;(conv=>whnf);left;(conv=>whnf);refine aX ?_;obtain⟨o5,h5,h⟩:=ZaE h;(conv=>whnf);refine Znt 140 g 46 47 13 (α:=(Int×(List ((List UInt8)×(List Int)))×(List (List Int))×Bool×(List Zaa)×(List UInt8)×Int×Int)) ((1,(AV.ptr 3 0 0))::((9,(AV.ptr 4 0 0))::((10,(AV.ptr 5 0 0))::((11,(AV.ptr 6 0 0))::[])))) (fun xq=>((0,(AO.rows false (((AV.mapo 1)::((AV.osw 7 2)::((AV.int IntKind.i64 xq.1)::[])))::[])))::((1,(fS xq.2.1))::((3,(AO.rows false (((AV.ptr 0 0 0)::[])::[])))::((4,(AO.rows false (((AV.ptr 8 0 0)::[])::[])))::((5,(AO.rows false (((AV.sl (List.map (cSl cB) xq.2.2.1))::[])::[])))::((6,(AO.rows false (((AV.bool xq.2.2.2.1)::[])::[])))::((7,(AO.rows true (List.map Zaa.c xq.2.2.2.2.1)))::((8,(AO.rows false (((AV.ptr 0 0 0)::((AV.str xq.2.2.2.2.2.1)::((AV.int IntKind.i64 xq.2.2.2.2.2.2.1)::((AV.int IntKind.i64 xq.2.2.2.2.2.2.2)::[]))))::[])))::[]))))))))) 9 (fun kq xq=>Za1 F (List.drop kq (List.reverse g)) xq.1 xq.2.1 xq.2.2.1 xq.2.2.2.1 xq.2.2.2.2.1 xq.2.2.2.2.2.1 xq.2.2.2.2.2.2.1 xq.2.2.2.2.2.2.2=some o5) (c,fs,[],false,l,([]:List UInt8),(0:Int),(0:Int)) [(0,0),(1,1),(3,3),(4,165),(5,229),(6,261),(7,2),(8,133)] Zqn rfl rfl rfl h5 (WkL.cons (Wk.eq rfl) (WkL.cons (Wk.eq rfl) (WkL.cons (Wk.eq rfl) (WkL.cons (Wk.eq rfl) WkL.nil)))) (WkOs.cons (WkO.eq (YL rfl)) (WkOs.cons (WkO.eq (YL rfl)) (WkOs.cons (WkO.eq (YL rfl)) (WkOs.cons (WkO.eq (YL rfl)) (WkOs.cons (WkO.r (WkR.cons (WkL.cons Wk.esl WkL.nil) WkR.nil)) (WkOs.cons (WkO.eq (YL rfl)) (WkOs.cons (WkO.eq (YL rfl)) (WkOs.cons (WkO.eq (YL rfl)) WkOs.nil)))))))) rfl (fun kq b xq hk hI=>?_) (fun xq hI=>?_)
 ·obtain⟨i,j,k,m,n,o,a,p⟩:=xq;replace hI:Za1 F (List.drop kq (List.reverse g)) i j k m n o a p=some o5:=hI;rw[ZiT hk,Za1.eq_2]at hI;clear h;have h:=hI;clear hI;(conv=>whnf);left;(conv=>whnf);left;(conv=>whnf);refine cR h (fun h=>Zav (ZfM h) rfl) fun t h=>?_;(conv=>whnf);refine gX h fun h=>?_;(conv=>whnf);refine aX ?_;obtain⟨d,hy,h⟩:=ZaE h;rcases d with d|d
  ·replace h:=Zeg h;(conv=>whnf);refine cg [0,1,7] (ZfK hy) ?_;(conv=>whnf);left;obtain⟨q,hy,h⟩:=ZaE h;refine⟨_,_,(Zav (Zgt hy) rfl),Or.inr ⟨[556],rfl,?_⟩⟩;(conv=>whnf);refine jN h fun B=>jM [(1,pp 3),(9,pp 4),(10,pp 5),(11,pp 6),(14,.str (([108,111,103,45]:List UInt8)++t)),(15,.osw 7 1),(17,sM (cSl cB) q.2.2),(18,aI q.1),(80,.bool B)] (T38 i j k m++[(7,AO.froz (List.map cB d.2)),(8,rT Zaa.c n),(9,rF [pp 0,.str o,aI (if(b>a)then b else a),aI p])]) 10 (fun h=>qE (ii 7 [(7,556),(8,7),(9,8)])) fun h=>?_;(conv=>whnf);left;refine bS h (fun h=>?_) fun h=>?_
   ·(conv=>whnf);refine cG [0,1,8] h Zb5 fun u h=>?_;(conv=>whnf);exact⟨(u.2.1,u.2.2.1,k,m,u.2.2.2,o,(if(b>a)then b else a),p),(ii 7 [(7,77),(8,9)]),h,rfl,(.of_eq rfl),(.of_eq rfl)⟩
   (conv=>whnf);exact⟨(i,j,q.2.2,(q.1==(@Nat.cast Int instNatCastInt (List.length (List.map cB d.2)))),n,(([108,111,103,45]:List UInt8)++t),(if(b>a)then b else a),(@Nat.cast Int instNatCastInt (List.length (List.map (cSl cB) q.2.2)))),(ii 7 [(7,8),(8,9)]),h,rfl,(.of_eq rfl),(.of_eq rfl)⟩
  replace h:=Zef h;(conv=>whnf);refine ch [0,1,7] (ZfJ hy) ?_;(conv=>whnf);left;(conv=>whnf);refine cR h (fun h=>Zav (Zgt h) rfl) fun s h=>?_;(conv=>whnf);refine jN h fun C=>jM [(1,pp 3),(9,pp 4),(10,pp 5),(11,pp 6),(14,.str (([108,111,103,45]:List UInt8)++t)),(15,sM cB d.1),(17,sM (cSl cB) s.2.2),(18,aI s.1),(80,.bool C)] (T34 i j k m n o (if(b>a)then b else a) p) 9 (fun h=>qE (ii 9 [])) fun h=>?_;(conv=>whnf);left;refine bS h (fun h=>?_) fun h=>?_
  ·(conv=>whnf);refine cG [0,1,7] h Zb5 fun v h=>?_;(conv=>whnf);exact⟨(v.2.1,v.2.2.1,k,m,v.2.2.2,o,(if(b>a)then b else a),p),(ii 7 [(7,76),(8,8)]),h,rfl,(.of_eq rfl),(.of_eq rfl)⟩
  (conv=>whnf);exact⟨(i,j,s.2.2,(s.1==(@Nat.cast Int instNatCastInt (List.length (List.map cB d.1)))),n,(([108,111,103,45]:List UInt8)++t),(if(b>a)then b else a),(@Nat.cast Int instNatCastInt (List.length (List.map (cSl cB) s.2.2)))),(ii 9 []),h,rfl,(.of_eq rfl),(.of_eq rfl)⟩
 obtain⟨D,E,y,G,H,I,J,K⟩:=xq;replace hI:Za1 F (List.drop (List.length g) (List.reverse g)) D E y G H I J K=some o5:=hI;rw[ZnT,Za1.eq_1]at hI;cases hI;(conv=>whnf);refine jS h fun o8 ⟨L,M,N,O,P,Q⟩=>jT [(9,pp 3),(10,pp 4)] (T35 (L) M y N O (P) (Q)) 7 (fun h k8 e=>?_) fun h=>?_
 ·(conv=>whnf);left;refine bS h (fun h=>?_) fun h=>?_
  ·(conv=>whnf);refine cG [8,0,1,7] h ZeK fun V h=>?_;(conv=>whnf);left;refine bS h (fun h=>?_) fun h=>?_
   ·cases h;cases k8;exact gE [(0,0),(1,1),(2,2),(3,329),(4,141)]
   exact qE [(0,0),(1,1),(2,2),(3,4),(4,5),(5,141),(6,8)]
  exact qE [(0,0),(1,1),(2,2),(3,4),(4,5),(5,7),(6,8)]
 (conv=>whnf);refine aX ?_;cases h
theorem Zhs{c fs l r}(h:ZfP F c fs l=some (Sum.inr r)):FZ ml 67 (T5 c fs l) [pp 0] (.tup [pp 3,sM (cSl cB) r.1,aI r.2.1]) (T30 r.2.2.1 r.2.2.2.1++[(3,rF [pp 0,.str r.2.2.2.2.1,aI r.2.2.2.2.2.1,aI r.2.2.2.2.2.2.1]),(4,rT Zaa.c r.2.2.2.2.2.2.2)]):=by
 refine fG Tryz.func67 ?_
 unfold ZfP at h
 (conv=>whnf);left;(conv=>whnf);left;(conv=>whnf);refine cH [0,1,2] h Zfq fun f h=>?_;(conv=>whnf);refine jN h fun z=>jM [(1,pp 3),(5,.osw 4 1)] (T5 c fs l++[(3,rF [pp 0]),(4,rT cJ z)]) 5 (fun h=>?_) fun h=>?_
 ·(conv=>whnf);left;(conv=>whnf);refine lI (fun n' x'=>Zdf F f n' x'.1 x'.2) (fun x'=>[(1,pp 3),(5,.osw 4 1),(24,sM cStr f),(25,aI (@Nat.cast Int instNatCastInt (List.length (List.map cStr f)))),(26,aI x'.1)]) (fun x'=>(T5 c fs l++[(3,rF [pp 0]),(4,rT cJ x'.2)])) 5 ((0:Int),[]) [(0,0),(1,1),(2,2),(3,32),(4,224)] h ?_;rintro A ⟨w,R⟩ h;dsimp only at h;rw[Zdf.eq_2]at h;(conv=>whnf);left;refine bS h (fun h=>?_) fun h=>?_
  ·(conv=>whnf);refine jN h fun x=>jM [(1,pp 3),(5,.osw 4 1),(24,sM cStr f),(25,aI (@Nat.cast Int instNatCastInt (List.length (List.map cStr f)))),(26,aI w)] (T5 c fs l++[(3,rF [pp 0]),(4,rT cJ x)]) 5 (fun h=>?_) fun h=>?_
   ·(conv=>whnf);left;(conv=>whnf);refine gX h fun h=>?_;(conv=>whnf);refine oB h fun S h=>?_;(conv=>whnf);left;(conv=>whnf);refine cR h (fun h=>Zav (Zgy h) rfl) fun T h=>?_;(conv=>whnf);left;refine bS h (fun h=>?_) fun h=>?_
    ·(conv=>whnf);left;(conv=>whnf);refine aX ?_;(conv=>whnf);refine aX ?_;(conv=>whnf);refine gS h fun h=>?_;cases h;exact eE (ii 4 [(4,389)])
    exact qE (ii 5 [])
   exact rE (A,(IntKind.wrap IntKind.i64 (w+(1:Int))),x) (ii 5 []) h
  exact qE (ii 5 [])
 (conv=>whnf);refine cG [4] h Zd0 fun U h=>?_;(conv=>whnf);left;(conv=>whnf);left;(conv=>whnf);left;(conv=>whnf);left;(conv=>whnf);left;(conv=>whnf);left;obtain⟨g,hy,h⟩:=ZaE h;refine⟨_,_,(Zav (ZdL hy) rfl),Or.inr ⟨[4],rfl,?_⟩⟩;(conv=>whnf);left;(conv=>whnf);refine aX ?_;obtain⟨o5,h5,h⟩:=ZaE h;(conv=>whnf);refine Znt 140 g 46 47 13 (α:=(Int×(List ((List UInt8)×(List Int)))×(List (List Int))×Bool×(List Zaa)×(List UInt8)×Int×Int)) ((1,(AV.ptr 3 0 0))::((9,(AV.ptr 4 0 0))::((10,(AV.ptr 5 0 0))::((11,(AV.ptr 6 0 0))::[])))) (fun xq=>((0,(AO.rows false (((AV.mapo 1)::((AV.osw 7 2)::((AV.int IntKind.i64 xq.1)::[])))::[])))::((1,(fS xq.2.1))::((3,(AO.rows false (((AV.ptr 0 0 0)::[])::[])))::((4,(AO.rows false (((AV.ptr 8 0 0)::[])::[])))::((5,(AO.rows false (((AV.sl (List.map (cSl cB) xq.2.2.1))::[])::[])))::((6,(AO.rows false (((AV.bool xq.2.2.2.1)::[])::[])))::((7,(AO.rows true (List.map Zaa.c xq.2.2.2.2.1)))::((8,(AO.rows false (((AV.ptr 0 0 0)::((AV.str xq.2.2.2.2.2.1)::((AV.int IntKind.i64 xq.2.2.2.2.2.2.1)::((AV.int IntKind.i64 xq.2.2.2.2.2.2.2)::[]))))::[])))::[]))))))))) 9 (fun kq xq=>Za1 F (List.drop kq (List.reverse g)) xq.1 xq.2.1 xq.2.2.1 xq.2.2.2.1 xq.2.2.2.2.1 xq.2.2.2.2.2.1 xq.2.2.2.2.2.2.1 xq.2.2.2.2.2.2.2=some o5) (c,fs,[],false,l,([]:List UInt8),(0:Int),(0:Int)) [(0,0),(1,1),(3,3),(4,165),(5,229),(6,261),(7,2),(8,133)] Zqn rfl rfl rfl h5 (WkL.cons (Wk.eq rfl) (WkL.cons (Wk.eq rfl) (WkL.cons (Wk.eq rfl) (WkL.cons (Wk.eq rfl) WkL.nil)))) (WkOs.cons (WkO.eq (YL rfl)) (WkOs.cons (WkO.eq (YL rfl)) (WkOs.cons (WkO.eq (YL rfl)) (WkOs.cons (WkO.eq (YL rfl)) (WkOs.cons (WkO.r (WkR.cons (WkL.cons Wk.esl WkL.nil) WkR.nil)) (WkOs.cons (WkO.eq (YL rfl)) (WkOs.cons (WkO.eq (YL rfl)) (WkOs.cons (WkO.eq (YL rfl)) WkOs.nil)))))))) rfl (fun kq b xq hk hI=>?_) (fun xq hI=>?_)
 ·obtain⟨i,j,k,m,n,o,a,p⟩:=xq;replace hI:Za1 F (List.drop kq (List.reverse g)) i j k m n o a p=some o5:=hI;rw[ZiT hk,Za1.eq_2]at hI;clear h;have h:=hI;clear hI;(conv=>whnf);left;(conv=>whnf);left;(conv=>whnf);refine cR h (fun h=>Zav (ZfM h) rfl) fun t h=>?_;(conv=>whnf);refine gX h fun h=>?_;(conv=>whnf);refine aX ?_;obtain⟨d,hy,h⟩:=ZaE h;rcases d with d|d
  ·replace h:=Zeg h;(conv=>whnf);refine cg [0,1,7] (ZfK hy) ?_;(conv=>whnf);left;obtain⟨q,hy,h⟩:=ZaE h;refine⟨_,_,(Zav (Zgt hy) rfl),Or.inr ⟨[556],rfl,?_⟩⟩;(conv=>whnf);refine jN h fun B=>jM [(1,pp 3),(9,pp 4),(10,pp 5),(11,pp 6),(14,.str (([108,111,103,45]:List UInt8)++t)),(15,.osw 7 1),(17,sM (cSl cB) q.2.2),(18,aI q.1),(80,.bool B)] (T38 i j k m++[(7,AO.froz (List.map cB d.2)),(8,rT Zaa.c n),(9,rF [pp 0,.str o,aI (if(b>a)then b else a),aI p])]) 10 (fun h=>qE (ii 7 [(7,556),(8,7),(9,8)])) fun h=>?_;(conv=>whnf);left;refine bS h (fun h=>?_) fun h=>?_
   ·(conv=>whnf);refine cG [0,1,8] h Zb5 fun u h=>?_;(conv=>whnf);exact⟨(u.2.1,u.2.2.1,k,m,u.2.2.2,o,(if(b>a)then b else a),p),(ii 7 [(7,77),(8,9)]),h,rfl,(.of_eq rfl),(.of_eq rfl)⟩
   (conv=>whnf);exact⟨(i,j,q.2.2,(q.1==(@Nat.cast Int instNatCastInt (List.length (List.map cB d.2)))),n,(([108,111,103,45]:List UInt8)++t),(if(b>a)then b else a),(@Nat.cast Int instNatCastInt (List.length (List.map (cSl cB) q.2.2)))),(ii 7 [(7,8),(8,9)]),h,rfl,(.of_eq rfl),(.of_eq rfl)⟩
  replace h:=Zef h;(conv=>whnf);refine ch [0,1,7] (ZfJ hy) ?_;(conv=>whnf);left;(conv=>whnf);refine cR h (fun h=>Zav (Zgt h) rfl) fun s h=>?_;(conv=>whnf);refine jN h fun C=>jM [(1,pp 3),(9,pp 4),(10,pp 5),(11,pp 6),(14,.str (([108,111,103,45]:List UInt8)++t)),(15,sM cB d.1),(17,sM (cSl cB) s.2.2),(18,aI s.1),(80,.bool C)] (T34 i j k m n o (if(b>a)then b else a) p) 9 (fun h=>qE (ii 9 [])) fun h=>?_;(conv=>whnf);left;refine bS h (fun h=>?_) fun h=>?_
  ·(conv=>whnf);refine cG [0,1,7] h Zb5 fun v h=>?_;(conv=>whnf);exact⟨(v.2.1,v.2.2.1,k,m,v.2.2.2,o,(if(b>a)then b else a),p),(ii 7 [(7,76),(8,8)]),h,rfl,(.of_eq rfl),(.of_eq rfl)⟩
  (conv=>whnf);exact⟨(i,j,s.2.2,(s.1==(@Nat.cast Int instNatCastInt (List.length (List.map cB d.1)))),n,(([108,111,103,45]:List UInt8)++t),(if(b>a)then b else a),(@Nat.cast Int instNatCastInt (List.length (List.map (cSl cB) s.2.2)))),(ii 9 []),h,rfl,(.of_eq rfl),(.of_eq rfl)⟩
 obtain⟨D,E,y,G,H,I,J,K⟩:=xq;replace hI:Za1 F (List.drop (List.length g) (List.reverse g)) D E y G H I J K=some o5:=hI;rw[ZnT,Za1.eq_1]at hI;cases hI;(conv=>whnf);refine jS h fun o8 ⟨L,M,N,O,P,Q⟩=>jT [(9,pp 3),(10,pp 4)] (T35 (L) M y N O (P) (Q)) 7 (fun h k8 e=>?_) fun h=>?_
 ·(conv=>whnf);left;refine bS h (fun h=>?_) fun h=>?_
  ·(conv=>whnf);refine cG [8,0,1,7] h ZeK fun V h=>?_;(conv=>whnf);left;refine bS h (fun h=>?_) fun h=>?_
   ·cases h;cases k8
   exact qE [(0,0),(1,1),(2,2),(3,4),(4,5),(5,141),(6,8)]
  exact qE [(0,0),(1,1),(2,2),(3,4),(4,5),(5,7),(6,8)]
 exact qG [(0,0),(1,1),(2,2),(3,6),(4,5)]
theorem Zjw{r}(h:Zgu F=some r):FZ ml 97 [] [] (AV.mapo 0) [(0,AO.fmap 1 (@encF Int Int (fun(a:Int)=>(AV.int IntKind.u8 a)) cJ r) none)]:=by
 refine fG Tryz.func97 ?_
 unfold Zgu at h
 (conv=>whnf);refine Or.inr ?_;(conv=>whnf);refine⟨Or.inl ⟨1,?_⟩⟩;(conv=>whnf);left;(conv=>whnf);refine aX ?_;(conv=>whnf);obtain⟨hg,h⟩:=grd_e h;refine Zkd (ek:=(fun(a:Int)=>(AV.int IntKind.u8 a))) (en:=cJ) [] (1:Int) ((1:Int)::((1:Int)::((1:Int)::[]))) 96 rfl rfl (ZcC Tryz.underlying5) (.inl rfl) hg rfl _ rfl rQ (fun _=>rfl) rfl ?_;(conv=>whnf);left;(conv=>whnf);refine aX ?_;(conv=>whnf);obtain⟨hg,h⟩:=grd_e h;refine Zkd (ek:=(fun(a:Int)=>(AV.int IntKind.u8 a))) (en:=cJ) (mput (1:Int) ((1:Int)::((1:Int)::((1:Int)::[]))) []) (2:Int) ((1:Int)::((1:Int)::((1:Int)::((3:Int)::[])))) 160 rfl rfl (ZcC Tryz.underlying5) (.inl rfl) hg rfl _ rfl rQ (fun _=>rfl) rfl ?_;(conv=>whnf);left;(conv=>whnf);refine aX ?_;(conv=>whnf);obtain⟨hg,h⟩:=grd_e h;refine Zkd (ek:=(fun(a:Int)=>(AV.int IntKind.u8 a))) (en:=cJ) (mput (2:Int) ((1:Int)::((1:Int)::((1:Int)::((3:Int)::[])))) (mput (1:Int) ((1:Int)::((1:Int)::((1:Int)::[]))) [])) (3:Int) ((1:Int)::((1:Int)::((1:Int)::((3:Int)::[])))) 224 rfl rfl (ZcC Tryz.underlying5) (.inl rfl) hg rfl _ rfl rQ (fun _=>rfl) rfl ?_;(conv=>whnf);left;(conv=>whnf);refine aX ?_;(conv=>whnf);obtain⟨hg,h⟩:=grd_e h;refine Zkd (ek:=(fun(a:Int)=>(AV.int IntKind.u8 a))) (en:=cJ) (mput (3:Int) ((1:Int)::((1:Int)::((1:Int)::((3:Int)::[])))) (mput (2:Int) ((1:Int)::((1:Int)::((1:Int)::((3:Int)::[])))) (mput (1:Int) ((1:Int)::((1:Int)::((1:Int)::[]))) []))) (4:Int) ((1:Int)::((1:Int)::[])) 288 rfl rfl (ZcC Tryz.underlying5) (.inl rfl) hg rfl _ rfl rQ (fun _=>rfl) rfl ?_;exact qG [(0,64)]
theorem ZiV{b l r}(h:Zeb F b l=some r):FZ ml 33 (T27 l) [.osw 0 1,sM cB b] (.tup [.osw 1 3,aI r.1]) (T27 l++[(1,rT Zaf.c r.2)]):=by
 refine fG Tryz.func33 ?_
 unfold Zeb at h
 (conv=>whnf);refine jS h fun o0 ⟨d,f⟩=>jT [(1,sM cB d),(6,.osw 1 3)] (T27 l++[(1,rT Zaf.c f)]) 2 (fun h k0 e=>?_) fun h=>?_
 ·(conv=>whnf);left;(conv=>whnf);refine lI (fun n' x'=>ZcI F l n' x'.1 x'.2.1 x'.2.2) (fun x'=>[(1,sM cB x'.1),(6,.osw 1 3),(12,.osw 0 1),(13,aI (@Nat.cast Int instNatCastInt (List.length (List.map cJ l)))),(14,aI x'.2.1)]) (fun x'=>(T27 l++[(1,rT Zaf.c x'.2.2)])) 2 (b,(0:Int),[]) [(0,0),(1,96)] h ?_;rintro g ⟨i,j,k⟩ h;dsimp only at h;rw[ZcI.eq_2]at h;(conv=>whnf);left;refine bS h (fun h=>?_) fun h=>?_
  ·(conv=>whnf);left;(conv=>whnf);refine gX h fun h=>?_;(conv=>whnf);refine oB h fun m h=>?_;(conv=>whnf);refine oB h fun n h=>?_;(conv=>whnf);left;(conv=>whnf);refine cL h ZiU fun a h=>?_;(conv=>whnf);left;(conv=>whnf);left;refine bS h (fun h=>?_) fun h=>?_
   ·cases h;cases k0;exact gE [(0,0),(1,578)]
   (conv=>whnf);left;(conv=>whnf);refine aX ?_;(conv=>whnf);refine aX ?_;(conv=>whnf);refine gS h fun h=>?_;(conv=>whnf);refine aX ?_;(conv=>whnf);refine gX h fun h=>?_;(conv=>whnf);refine gS h fun h=>?_;(conv=>whnf);refine gS h fun h=>?_;exact rV (g,(List.drop (Int.toNat a.2.1) i),(IntKind.wrap IntKind.i64 (j+(1:Int))),(k++(a.1::[]))) [(0,0),(1,642)] h
  exact qE [(0,0),(1,1)]
 (conv=>whnf);left;refine bS h (fun h=>?_) fun h=>?_
 ·cases h;exact gE [(0,0),(1,98)]
 exact qG [(0,0),(1,1)]
theorem Zan{s r}(h:Zal F s=some r):FZ ml 44 [] [(.sl (List.map Zab.c s))] (.osw 0 2) [(0,.rows true (List.map Zab.c r))]:=by
 unfold Zal at h
 obtain⟨hg,h⟩:=grd_e h
 cases h
 refine Zfr 2000 Tryz.func44 rfl (by kernel_rfl) mixed (by show 1≤8;decide) (by decide) rfl ?_
 refine oL ?_
 refine And.intro (fun hp=>?_) ?_
 ·conv=>whnf
  exact ZeP [(0,128)] rfl (by rw[hp];rfl) rfl
 refine oL ?_
 refine And.intro (ZaF.map (fun _=>rfl)) ?_
 refine And.intro ZaF.nil ?_
 refine And.intro (show 0+(List.map Zab.c s).length≤LIM by simpa using hg) ?_
 conv=>whnf
 exact gI [(0,192)]
theorem Zeu{t n r}(h:Zc2 F t n=some r):FZ ml 149 [] [.agg (Zag.c t),aI n] (.tup [aI r.1,.bool r.2]) []:=by
 refine fA Tryz.func149 ?_
 unfold Zc2 at h
 (conv=>whnf);left;(conv=>whnf);refine jN h fun a=>jM [(1,aI n),(2,pp 0),(20,.bool a)] [(0,rF (Zag.c t))] 1 (fun h=>?_) fun h=>?_
 ·(conv=>whnf);left;(conv=>whnf);left;(conv=>whnf);refine cL h ZcE fun b h=>?_;(conv=>whnf);refine bS h (fun h=>qE [(0,32)]) fun h=>?_;(conv=>whnf);refine bS h (fun h=>qE [(0,32)]) fun h=>?_;(conv=>whnf);left;(conv=>whnf);exact cL h Zet fun d h=>qE [(0,32)]
 (conv=>whnf);left;refine bS h (fun h=>qR) fun h=>?_;(conv=>whnf);left;(conv=>whnf);exact cL h Ziu fun e h=>qR
theorem Zhv{t to_ r}(h:Ze6 F t to_=some r):FZ ml 124 [] [.agg (Zag.c t),aI to_] (.tup [.agg (Zag.c r.1),.bool r.2]) []:=by
 refine fK Tryz.func124 ?_
 unfold Ze6 at h
 (conv=>whnf);left;(conv=>whnf);left;(conv=>whnf);left;(conv=>whnf);refine cL h Zeu fun a h=>?_;(conv=>whnf);left;refine bS h (fun h=>qK) fun h=>?_;(conv=>whnf);refine aX ?_;(conv=>whnf);refine gX h fun h=>?_;(conv=>whnf);refine gS h fun h=>?_;(conv=>whnf);refine gS h fun h=>?_;(conv=>whnf);left;(conv=>whnf);obtain⟨b,hy,h⟩:=ZaE h;refine⟨_,_,(ZdE (cons2 (YI AV.sl rQ) rfl) (Zav (Zan hy) rfl)),Or.inr ⟨[],rfl,?_⟩⟩;exact qK
theorem ZhA{t n term r}(h:Zf8 F t n term=some r):FZ ml 98 [] [.agg (Zag.c t),aI n,aI term] (.agg (Zag.c r)) []:=by
 refine fK Tryz.func98 ?_
 unfold Zf8 at h
 (conv=>whnf);left;(conv=>whnf);left;(conv=>whnf);left;(conv=>whnf);refine cL h Zeu fun b h=>?_;(conv=>whnf);refine jN h fun a=>jM [(1,aI n),(2,aI term),(3,pp 0),(6,pp 1),(20,.bool a)] (T40 t 0 0) 2 (fun h=>qE [(0,32),(1,64)]) fun h=>?_;(conv=>whnf);left;refine bS h (fun h=>?_) fun h=>?_
 ·(conv=>whnf);left;(conv=>whnf);exact cR h Zhv fun d h=>qK
 exact qK
theorem ZbA{s r}(h:ZaG F s=some r):FZ ml 150 [] [(.sl (List.map cJ s))] (.osw 0 1) [(0,.rows true (List.map cJ r))]:=by
 unfold ZaG at h
 obtain⟨hg,h⟩:=grd_e h
 cases h
 refine Zfr 2000 Tryz.func150 rfl (by kernel_rfl) mixed (by show 1≤8;decide) (by decide) rfl ?_
 refine oL ?_
 refine And.intro (fun hp=>?_) ?_
 ·conv=>whnf
  exact ZeP [(0,128)] rfl (by rw[hp];rfl) rfl
 refine oL ?_
 refine And.intro (ZaF.map (fun _=>rfl)) ?_
 refine And.intro ZaF.nil ?_
 refine And.intro (show 0+(List.map cJ s).length≤LIM by simpa using hg) ?_
 conv=>whnf
 exact gI [(0,192)]
theorem Zkz{r_ r}(h:Zgb F r_=some r):FZ ml 99 [] [.agg (Zad.c r_)] (.agg (Zad.c r)) []:=by
 refine fA Tryz.func99 ?_
 unfold Zgb at h
 (conv=>whnf);left;(conv=>whnf);left;(conv=>whnf);left;(conv=>whnf);refine cR h (fun h=>Zav (ZaV h) rfl) fun a h=>?_;(conv=>whnf);left;(conv=>whnf);refine cR h (fun h=>Zav (ZaV h) rfl) fun b h=>?_;(conv=>whnf);left;(conv=>whnf);refine cR h (fun h=>Zav (ZbA h) rfl) fun d h=>?_;(conv=>whnf);left;(conv=>whnf);refine cR h (fun h=>Zav (ZbA h) rfl) fun e h=>?_;(conv=>whnf);refine aX ?_;(conv=>whnf);left;(conv=>whnf);exact cR h (fun h=>Zav (Zan h) rfl) fun f h=>qR
theorem Zbb{r_ r}(h:Zbt F r_=some r):FZ ml 69 [] [.agg (Zad.c r_)] (.agg (Zad.c r)) []:=by
 refine fK Tryz.func69 ?_
 unfold Zbt at h
 (conv=>whnf);left;(conv=>whnf);left;(conv=>whnf);left;(conv=>whnf);exact cR h Zkz fun a h=>qK
theorem Zd7{r_ b r}(h:Zft F r_ b=some r):FZ ml 68 [] [.agg (Zad.c r_),sM cB b] (.tup [.agg (Zad.c r.1),.bool r.2]) []:=by
 refine fA Tryz.func68 ?_
 unfold Zft at h
 (conv=>whnf);left;(conv=>whnf);left;(conv=>whnf);left;refine bS h (fun h=>qR) fun h=>?_;(conv=>whnf);left;(conv=>whnf);refine cR h Zjw fun a h=>?_;(conv=>whnf);refine aX ?_;(conv=>whnf);refine oB h fun d h=>?_;(conv=>whnf);refine aX ?_;(conv=>whnf);refine both (b:=(Option.isSome (mget d a))) (fun hb=>?_) fun hb=>?_
 ·replace h:=ZhM h hb;refine Zf3 (ek:=(fun(f:Int)=>(AV.int IntKind.u8 f))) (en:=cJ) a d rfl rfl (ZcC Tryz.underlying5) hb ?_;(conv=>whnf);refine cG [352] h ZiV fun g h=>?_;(conv=>whnf);refine aX ?_;(conv=>whnf);refine jN h fun l=>jM [(1,sM cB b),(2,pp 0),(4,pp 1),(6,.osw 2 3),(30,.bool l)] (T39 r_++[(1,rF zr0),(2,rT Zaf.c g.2)]) 3 (fun h=>qE [(0,32),(1,64),(2,417)]) fun h=>?_;(conv=>whnf);left;refine bS h (fun h=>qR) fun h=>?_;(conv=>whnf);refine aX ?_;(conv=>whnf);refine oB h fun A h=>?_;(conv=>whnf);refine oB h fun i h=>?_;(conv=>whnf);refine aX ?_;(conv=>whnf);refine aX ?_;(conv=>whnf);refine oB h fun B h=>?_;(conv=>whnf);left;(conv=>whnf);left;refine bS h (fun h=>?_) fun h=>?_
  ·(conv=>whnf);refine aX ?_;(conv=>whnf);refine oB h fun C h=>?_;(conv=>whnf);refine oB h fun D h=>?_;(conv=>whnf);refine aX ?_;(conv=>whnf);left;(conv=>whnf);refine cR h Zbb fun E h=>?_;(conv=>whnf);left;(conv=>whnf);exact cL h ZbQ fun G h=>qR
  (conv=>whnf);left;refine bS h (fun h=>?_) fun h=>?_
  ·(conv=>whnf);refine jN h fun m=>jM [(2,pp 0),(4,pp 1),(6,.osw 2 3),(8,aI i.N),(68,.bool m)] (T39 r_++[(1,rF zr0),(2,rT Zaf.c g.2)]) 3 (fun h=>qE [(0,0),(1,1),(2,2)]) fun h=>?_;(conv=>whnf);left;refine bS h (fun h=>qR) fun h=>?_;(conv=>whnf);refine aX ?_;(conv=>whnf);refine gX h fun h=>?_;(conv=>whnf);refine gX h fun h=>?_;(conv=>whnf);refine gS h fun h=>?_;(conv=>whnf);left;(conv=>whnf);refine cR h (fun h=>aE (Zan h)) fun H h=>?_;(conv=>whnf);refine aX ?_;(conv=>whnf);refine oB h fun I h=>?_;(conv=>whnf);refine oB h fun J h=>?_;(conv=>whnf);refine aX ?_;(conv=>whnf);refine oB h fun K h=>?_;(conv=>whnf);refine oB h fun L h=>?_;(conv=>whnf);left;(conv=>whnf);left;(conv=>whnf);refine aX ?_;(conv=>whnf);refine aX ?_;(conv=>whnf);refine gS h fun h=>?_;(conv=>whnf);left;(conv=>whnf);refine aX ?_;(conv=>whnf);left;obtain⟨M,hy,h⟩:=ZaE h;refine⟨_,_,(aE (Zbb hy)),Or.inr ⟨[675],rfl,?_⟩⟩;(conv=>whnf);left;(conv=>whnf);exact cL h ZbQ fun O h=>qR
  (conv=>whnf);refine jS h fun o21 ⟨n,o,p,q⟩=>jT [(2,pp 0),(4,pp 1)] [(0,rF [aI r_.Id,sM cJ r_.Conf,aI r_.Term,aI r_.Vote,aI r_.Role,aI r_.Leader,aI (n),aI (o),sM Zab.c p,.str q,aI r_.Commit,aI r_.Left,aI r_.Wait,sM cJ r_.Votes,sM cJ r_.Next,sM cJ r_.Match]),(1,rF zr0)] 2 (fun h k21 e=>?_) fun h=>?_
  ·(conv=>whnf);left;refine bS h (fun h=>?_) fun h=>?_
   ·(conv=>whnf);refine aX ?_;(conv=>whnf);refine oB h fun P h=>?_;(conv=>whnf);refine oB h fun Q h=>?_;(conv=>whnf);left;(conv=>whnf);refine cR h ZhA fun R h=>?_;(conv=>whnf);refine aX ?_;(conv=>whnf);refine oB h fun S h=>?_;(conv=>whnf);refine oB h fun T h=>?_;exact qE [(0,0),(1,1)]
   (conv=>whnf);left;refine bS h (fun h=>?_) fun h=>?_
   ·(conv=>whnf);refine jN h fun s=>jM [(2,pp 0),(4,pp 1),(8,aI i.N),(121,.bool s)] (T39 r_++[(1,rF zr0)]) 2 (fun h=>qE [(0,0),(1,1)]) fun h=>?_;(conv=>whnf);left;refine bS h (fun h=>?_) fun h=>?_
    ·cases h;cases k21;exact rfl
    (conv=>whnf);refine aX ?_;(conv=>whnf);refine gX h fun h=>?_;(conv=>whnf);refine gX h fun h=>?_;(conv=>whnf);refine gS h fun h=>?_;(conv=>whnf);left;(conv=>whnf);obtain⟨U,hy,h⟩:=ZaE h;refine⟨_,_,(ZdE (cons2 (YI AV.sl rQ) rfl) (Zav (Zan hy) rfl)),Or.inr ⟨[],rfl,?_⟩⟩;exact qE [(0,0),(1,1)]
   exact qE [(0,0),(1,1)]
  (conv=>whnf);left;(conv=>whnf);refine cR h Zbb fun V h=>?_;(conv=>whnf);left;(conv=>whnf);exact cL h ZbQ fun X h=>qR
 replace h:=ZhN h hb;refine Zf4 (ek:=(fun(f:Int)=>(AV.int IntKind.u8 f))) (en:=cJ) a d .esl rfl rfl (ZcC Tryz.underlying5) hb ⟨32,.esl,by kernel_rfl,by kernel_rfl,.refl _⟩ ?_;(conv=>whnf);left;(conv=>whnf);refine cR h (fun h=>aW (Zav (Zfj h) rfl)) fun j h=>?_;(conv=>whnf);refine aX ?_;(conv=>whnf);refine jN h fun t=>jM [(1,sM cB b),(2,pp 0),(4,pp 1),(6,sM Zaf.c j.2),(30,.bool t)] (T39 r_++[(1,rF zr0)]) 2 (fun h=>qE [(0,32),(1,64)]) fun h=>?_;(conv=>whnf);left;refine bS h (fun h=>qR) fun h=>?_;(conv=>whnf);refine aX ?_;(conv=>whnf);refine oB h fun k h=>?_;(conv=>whnf);refine aX ?_;(conv=>whnf);refine aX ?_;(conv=>whnf);refine oB h fun Y h=>?_;(conv=>whnf);left;(conv=>whnf);left;refine bS h (fun h=>?_) fun h=>?_
 ·(conv=>whnf);refine aX ?_;(conv=>whnf);refine oB h fun Z h=>?_;(conv=>whnf);refine aX ?_;(conv=>whnf);left;(conv=>whnf);refine cR h Zbb fun a0 h=>?_;(conv=>whnf);left;(conv=>whnf);exact cL h ZbQ fun a1 h=>qR
 (conv=>whnf);left;refine bS h (fun h=>?_) fun h=>?_
 ·(conv=>whnf);refine jN h fun u=>jM [(2,pp 0),(4,pp 1),(6,sM Zaf.c j.2),(8,aI k.N),(68,.bool u)] (T39 r_++[(1,rF zr0)]) 2 (fun h=>qE [(0,0),(1,1)]) fun h=>?_;(conv=>whnf);left;refine bS h (fun h=>qR) fun h=>?_;(conv=>whnf);refine aX ?_;(conv=>whnf);refine gX h fun h=>?_;(conv=>whnf);refine gX h fun h=>?_;(conv=>whnf);refine gS h fun h=>?_;(conv=>whnf);left;(conv=>whnf);refine cR h (fun h=>aE (Zan h)) fun a2 h=>?_;(conv=>whnf);refine aX ?_;(conv=>whnf);refine oB h fun a3 h=>?_;(conv=>whnf);refine aX ?_;(conv=>whnf);refine oB h fun a4 h=>?_;(conv=>whnf);left;(conv=>whnf);left;(conv=>whnf);refine aX ?_;(conv=>whnf);refine aX ?_;(conv=>whnf);refine gS h fun h=>?_;(conv=>whnf);left;(conv=>whnf);refine aX ?_;(conv=>whnf);left;obtain⟨a5,hy,h⟩:=ZaE h;refine⟨_,_,(aE (Zbb hy)),Or.inr ⟨[674],rfl,?_⟩⟩;(conv=>whnf);left;(conv=>whnf);exact cL h ZbQ fun a6 h=>qR
 (conv=>whnf);refine jS h fun o43 ⟨v,w,x,y⟩=>jT [(2,pp 0),(4,pp 1)] [(0,rF [aI r_.Id,sM cJ r_.Conf,aI r_.Term,aI r_.Vote,aI r_.Role,aI r_.Leader,aI (v),aI (w),sM Zab.c x,.str y,aI r_.Commit,aI r_.Left,aI r_.Wait,sM cJ r_.Votes,sM cJ r_.Next,sM cJ r_.Match]),(1,rF zr0)] 2 (fun h k43 e=>?_) fun h=>?_
 ·(conv=>whnf);left;refine bS h (fun h=>?_) fun h=>?_
  ·(conv=>whnf);refine aX ?_;(conv=>whnf);refine oB h fun a7 h=>?_;(conv=>whnf);left;(conv=>whnf);refine cR h ZhA fun a8 h=>?_;(conv=>whnf);refine aX ?_;(conv=>whnf);refine oB h fun a9 h=>?_;exact qE [(0,0),(1,1)]
  (conv=>whnf);left;refine bS h (fun h=>?_) fun h=>?_
  ·(conv=>whnf);refine jN h fun z=>jM [(2,pp 0),(4,pp 1),(8,aI k.N),(121,.bool z)] (T39 r_++[(1,rF zr0)]) 2 (fun h=>qE [(0,0),(1,1)]) fun h=>?_;(conv=>whnf);left;refine bS h (fun h=>?_) fun h=>?_
   ·cases h;cases k43;exact rfl
   (conv=>whnf);refine aX ?_;(conv=>whnf);refine gX h fun h=>?_;(conv=>whnf);refine gX h fun h=>?_;(conv=>whnf);refine gS h fun h=>?_;(conv=>whnf);left;(conv=>whnf);obtain⟨aA,hy,h⟩:=ZaE h;refine⟨_,_,(ZdE (cons2 (YI AV.sl rQ) rfl) (Zav (Zan hy) rfl)),Or.inr ⟨[],rfl,?_⟩⟩;exact qE [(0,0),(1,1)]
  exact qE [(0,0),(1,1)]
 (conv=>whnf);left;(conv=>whnf);refine cR h Zbb fun aB h=>?_;(conv=>whnf);left;(conv=>whnf);exact cL h ZbQ fun aC h=>qR
theorem Zig{id U c fs l r}(h:Zd8 F id U c fs l=some (Sum.inl r)):FZ ml 52 (T5 c fs l) [pp 0,aI id,sM cJ U] (.tup [AV.con (Value.pointer none),.agg (Zad.c r.1),aI r.2.1]) (T16 r.2.2.1 r.2.2.2.1 r.2.2.2.2):=by
 refine fG Tryz.func52 ?_
 unfold Zd8 at h
 (conv=>whnf);left;(conv=>whnf);left;(conv=>whnf);refine cR h Zij fun a h=>?_;(conv=>whnf);left;(conv=>whnf);left;(conv=>whnf);left;refine bS h (fun h=>?_) fun h=>?_
 ·(conv=>whnf);left;cases h;exact gW [(0,0),(1,1),(3,2)]
 obtain⟨b,hy,h⟩:=ZaE h;rcases b with b|b
 ·replace h:=Zeg h;(conv=>whnf);refine cg [0,1,2] (Zht hy) ?_;(conv=>whnf);left;refine bS h (fun h=>?_) fun h=>?_
  ·(conv=>whnf);left;cases h;exact gW [(0,0),(1,1),(2,2),(3,644)]
  (conv=>whnf);refine jS h fun o0 ⟨V,X,Y,Z,a0,a1,a2,a3,a4,a5,a6,a7,a8,a9,aA,aB⟩=>jT [(7,pp 3),(9,pp 4),(11,AV.con (Value.pointer none))] (T23 b.2.1 b.2.2.1 (V) X (Y) (Z) (a0) (a1) (a2) (a3) a4 a5 (a6) (a7) (a8) a9 aA aB b.2.2.2.2) 6 (fun h k0 e=>?_) fun h=>?_
  ·(conv=>whnf);left;(conv=>whnf);refine lI (fun n' ⟨g,m,n,o,p,q,s,t,u,v,w,x,y,z,A,B,C⟩=>Zc7 F b n' g m n o p q s t u v w x y z A B C) (fun⟨g,m,n,o,p,q,s,t,u,v,w,x,y,z,A,B,C⟩=>[(7,pp 3),(9,pp 4),(11,AV.con (Value.pointer none)),(40,.osw 5 1),(41,aI (@Nat.cast Int instNatCastInt (List.length (List.map (cSl cB) b.2.2.2.1)))),(42,aI g)]) (fun⟨g,m,n,o,p,q,s,t,u,v,w,x,y,z,A,B,C⟩=>(T22 b.2.1 b.2.2.1 m n o p q s t u v w x y z A B C b.2.2.2.1 b.2.2.2.2)) 7 ((0:Int),a.1.Id,a.1.Conf,a.1.Term,a.1.Vote,a.1.Role,a.1.Leader,a.1.Trail.Base,a.1.Trail.BaseTerm,a.1.Trail.Entries,a.1.Snap,a.1.Commit,a.1.Left,a.1.Wait,a.1.Votes,a.1.Next,a.1.Match) [(0,0),(1,1),(2,2),(3,64),(4,320),(5,643),(6,644)] h ?_;rintro aC ⟨g,m,n,o,p,q,s,t,u,v,w,x,y,z,A,B,C⟩ h;dsimp only at h;rw[Zc7.eq_2]at h;(conv=>whnf);left;refine bS h (fun h=>?_) fun h=>?_
   ·(conv=>whnf);left;(conv=>whnf);refine gX h fun h=>?_;(conv=>whnf);refine oB h fun aZ h=>?_;(conv=>whnf);refine oB h fun b0 h=>?_;(conv=>whnf);left;(conv=>whnf);refine cR h Zd7 fun d h=>?_;(conv=>whnf);left;(conv=>whnf);left;refine bS h (fun h=>?_) fun h=>?_
    ·(conv=>whnf);left;cases h;cases k0;exact gW [(0,0),(1,1),(2,2),(3,6)]
    exact rE (aC,(IntKind.wrap IntKind.i64 (g+(1:Int))),d.1.Id,d.1.Conf,d.1.Term,d.1.Vote,d.1.Role,d.1.Leader,d.1.Trail.Base,d.1.Trail.BaseTerm,d.1.Trail.Entries,d.1.Snap,d.1.Commit,d.1.Left,d.1.Wait,d.1.Votes,d.1.Next,d.1.Match) (ii 7 []) h
   exact qE (ii 5 [(5,6)])
  (conv=>whnf);left;(conv=>whnf);left;(conv=>whnf);left;(conv=>whnf);refine cR h Zbb fun b1 h=>?_;(conv=>whnf);refine aX ?_;cases h
 replace h:=Zef h;(conv=>whnf);refine cg [0,1,2] (Zhs hy) ?_;(conv=>whnf);left;refine bS h (fun h=>?_) fun h=>?_
 ·(conv=>whnf);left;cases h;exact gW [(0,0),(1,1),(2,2),(3,644)]
 (conv=>whnf);refine jS h fun o1 ⟨aD,aF,aG,aH,aJ,aK,aL,aM,aN,aO,aP,aQ,aR,aS,aT,aU,aV⟩=>jT [(7,pp 3),(9,pp 4),(11,pp 5)] (T8 b.2.2.1 b.2.2.2.1 0 0 0 0 0 0 0 [] 0 0 (aD) (aF) aG (aH) (aJ) (aK) (aL) (aM) (aN) aO aP (aQ) (aR) (aS) aT aU aV b.2.2.2.2.1 b.2.2.2.2.2.1 b.2.2.2.2.2.2.1 b.2.2.2.2.2.2.2) 7 (fun h k1 e=>?_) fun h=>?_
 ·(conv=>whnf);left;(conv=>whnf);refine lI (fun n' ⟨i,j,k,D,E,G,H,I,J,K,L,M,N,O,P,Q,R,S,T⟩=>ZbX F b n' i j k D E G H I J K L M N O P Q R S T) (fun⟨i,j,k,D,E,G,H,I,J,K,L,M,N,O,P,Q,R,S,T⟩=>[(7,pp 3),(9,pp 4),(11,pp 5),(40,sM (cSl cB) b.1),(41,aI i),(42,aI j)]) (fun⟨i,j,k,D,E,G,H,I,J,K,L,M,N,O,P,Q,R,S,T⟩=>(T8 b.2.2.1 b.2.2.2.1 0 0 0 0 0 0 0 [] 0 0 k D E G H I J K L M N O P Q R S T b.2.2.2.2.1 b.2.2.2.2.2.1 b.2.2.2.2.2.2.1 b.2.2.2.2.2.2.2)) 7 ((@Nat.cast Int instNatCastInt (List.length (List.map (cSl cB) b.1))),(0:Int),(0:Int),a.1.Id,a.1.Conf,a.1.Term,a.1.Vote,a.1.Role,a.1.Leader,a.1.Trail.Base,a.1.Trail.BaseTerm,a.1.Trail.Entries,a.1.Snap,a.1.Commit,a.1.Left,a.1.Wait,a.1.Votes,a.1.Next,a.1.Match) [(0,0),(1,1),(2,2),(3,64),(4,320),(5,643),(6,644)] h ?_;rintro aY ⟨i,j,k,D,E,G,H,I,J,K,L,M,N,O,P,Q,R,S,T⟩ h;dsimp only at h;rw[ZbX.eq_2]at h;(conv=>whnf);left;refine bS h (fun h=>?_) fun h=>?_
  ·(conv=>whnf);left;(conv=>whnf);refine gX h fun h=>?_;(conv=>whnf);refine oB h fun b2 h=>?_;(conv=>whnf);left;(conv=>whnf);refine cR h Zd7 fun f h=>?_;(conv=>whnf);left;(conv=>whnf);left;refine bS h (fun h=>?_) fun h=>?_
   ·(conv=>whnf);left;cases h;cases k1;exact gW [(0,0),(1,1),(2,2),(3,6)]
   exact rE (aY,i,(IntKind.wrap IntKind.i64 (j+(1:Int))),k,f.1.Id,f.1.Conf,f.1.Term,f.1.Vote,f.1.Role,f.1.Leader,f.1.Trail.Base,f.1.Trail.BaseTerm,f.1.Trail.Entries,f.1.Snap,f.1.Commit,f.1.Left,f.1.Wait,f.1.Votes,f.1.Next,f.1.Match) (ii 7 []) h
  exact qE (ii 7 [])
 (conv=>whnf);left;(conv=>whnf);left;(conv=>whnf);left;(conv=>whnf);refine cR h Zbb fun b3 h=>?_;(conv=>whnf);refine aX ?_;cases h
theorem Zif{id U c fs l r}(h:Zd8 F id U c fs l=some (Sum.inr (Sum.inl r))):FZ ml 52 (T5 c fs l) [pp 0,aI id,sM cJ U] (.tup [pp 3,.agg (Zad.c r.1),aI r.2.1]) (T30 r.2.2.1 r.2.2.2.1++[(3,rF ([AV.con (Value.pointer none)]++Zad.c r.2.2.2.2.1)),(4,rT Zaa.c r.2.2.2.2.2)]):=by
 refine fG Tryz.func52 ?_
 unfold Zd8 at h
 (conv=>whnf);left;(conv=>whnf);left;(conv=>whnf);refine cR h Zij fun a h=>?_;(conv=>whnf);left;(conv=>whnf);left;(conv=>whnf);left;refine bS h (fun h=>?_) fun h=>?_
 ·(conv=>whnf);left;cases h
 obtain⟨b,hy,h⟩:=ZaE h;rcases b with b|b
 ·replace h:=Zeg h;(conv=>whnf);refine cg [0,1,2] (Zht hy) ?_;(conv=>whnf);left;refine bS h (fun h=>?_) fun h=>?_
  ·(conv=>whnf);left;cases h
  (conv=>whnf);refine jS h fun o0 ⟨V,X,Y,Z,a0,a1,a2,a3,a4,a5,a6,a7,a8,a9,aA,aB⟩=>jT [(7,pp 3),(9,pp 4),(11,AV.con (Value.pointer none))] (T23 b.2.1 b.2.2.1 (V) X (Y) (Z) (a0) (a1) (a2) (a3) a4 a5 (a6) (a7) (a8) a9 aA aB b.2.2.2.2) 6 (fun h k0 e=>?_) fun h=>?_
  ·(conv=>whnf);left;(conv=>whnf);refine lI (fun n' ⟨g,m,n,o,p,q,s,t,u,v,w,x,y,z,A,B,C⟩=>Zc7 F b n' g m n o p q s t u v w x y z A B C) (fun⟨g,m,n,o,p,q,s,t,u,v,w,x,y,z,A,B,C⟩=>[(7,pp 3),(9,pp 4),(11,AV.con (Value.pointer none)),(40,.osw 5 1),(41,aI (@Nat.cast Int instNatCastInt (List.length (List.map (cSl cB) b.2.2.2.1)))),(42,aI g)]) (fun⟨g,m,n,o,p,q,s,t,u,v,w,x,y,z,A,B,C⟩=>(T22 b.2.1 b.2.2.1 m n o p q s t u v w x y z A B C b.2.2.2.1 b.2.2.2.2)) 7 ((0:Int),a.1.Id,a.1.Conf,a.1.Term,a.1.Vote,a.1.Role,a.1.Leader,a.1.Trail.Base,a.1.Trail.BaseTerm,a.1.Trail.Entries,a.1.Snap,a.1.Commit,a.1.Left,a.1.Wait,a.1.Votes,a.1.Next,a.1.Match) [(0,0),(1,1),(2,2),(3,64),(4,320),(5,643),(6,644)] h ?_;rintro aC ⟨g,m,n,o,p,q,s,t,u,v,w,x,y,z,A,B,C⟩ h;dsimp only at h;rw[Zc7.eq_2]at h;(conv=>whnf);left;refine bS h (fun h=>?_) fun h=>?_
   ·(conv=>whnf);left;(conv=>whnf);refine gX h fun h=>?_;(conv=>whnf);refine oB h fun aZ h=>?_;(conv=>whnf);refine oB h fun b0 h=>?_;(conv=>whnf);left;(conv=>whnf);refine cR h Zd7 fun d h=>?_;(conv=>whnf);left;(conv=>whnf);left;refine bS h (fun h=>?_) fun h=>?_
    ·(conv=>whnf);left;cases h;cases k0
    exact rE (aC,(IntKind.wrap IntKind.i64 (g+(1:Int))),d.1.Id,d.1.Conf,d.1.Term,d.1.Vote,d.1.Role,d.1.Leader,d.1.Trail.Base,d.1.Trail.BaseTerm,d.1.Trail.Entries,d.1.Snap,d.1.Commit,d.1.Left,d.1.Wait,d.1.Votes,d.1.Next,d.1.Match) (ii 7 []) h
   exact qE (ii 5 [(5,6)])
  (conv=>whnf);left;(conv=>whnf);left;(conv=>whnf);left;(conv=>whnf);refine cR h Zbb fun b1 h=>?_;(conv=>whnf);refine aX ?_;(conv=>whnf);obtain rfl:=Sum.inl.inj (Vi (YL h));exact gI [(0,0),(1,1),(2,2),(3,102),(4,5)]
 replace h:=Zef h;(conv=>whnf);refine cg [0,1,2] (Zhs hy) ?_;(conv=>whnf);left;refine bS h (fun h=>?_) fun h=>?_
 ·(conv=>whnf);left;cases h
 (conv=>whnf);refine jS h fun o1 ⟨aD,aF,aG,aH,aJ,aK,aL,aM,aN,aO,aP,aQ,aR,aS,aT,aU,aV⟩=>jT [(7,pp 3),(9,pp 4),(11,pp 5)] (T8 b.2.2.1 b.2.2.2.1 0 0 0 0 0 0 0 [] 0 0 (aD) (aF) aG (aH) (aJ) (aK) (aL) (aM) (aN) aO aP (aQ) (aR) (aS) aT aU aV b.2.2.2.2.1 b.2.2.2.2.2.1 b.2.2.2.2.2.2.1 b.2.2.2.2.2.2.2) 7 (fun h k1 e=>?_) fun h=>?_
 ·(conv=>whnf);left;(conv=>whnf);refine lI (fun n' ⟨i,j,k,D,E,G,H,I,J,K,L,M,N,O,P,Q,R,S,T⟩=>ZbX F b n' i j k D E G H I J K L M N O P Q R S T) (fun⟨i,j,k,D,E,G,H,I,J,K,L,M,N,O,P,Q,R,S,T⟩=>[(7,pp 3),(9,pp 4),(11,pp 5),(40,sM (cSl cB) b.1),(41,aI i),(42,aI j)]) (fun⟨i,j,k,D,E,G,H,I,J,K,L,M,N,O,P,Q,R,S,T⟩=>(T8 b.2.2.1 b.2.2.2.1 0 0 0 0 0 0 0 [] 0 0 k D E G H I J K L M N O P Q R S T b.2.2.2.2.1 b.2.2.2.2.2.1 b.2.2.2.2.2.2.1 b.2.2.2.2.2.2.2)) 7 ((@Nat.cast Int instNatCastInt (List.length (List.map (cSl cB) b.1))),(0:Int),(0:Int),a.1.Id,a.1.Conf,a.1.Term,a.1.Vote,a.1.Role,a.1.Leader,a.1.Trail.Base,a.1.Trail.BaseTerm,a.1.Trail.Entries,a.1.Snap,a.1.Commit,a.1.Left,a.1.Wait,a.1.Votes,a.1.Next,a.1.Match) [(0,0),(1,1),(2,2),(3,64),(4,320),(5,643),(6,644)] h ?_;rintro aY ⟨i,j,k,D,E,G,H,I,J,K,L,M,N,O,P,Q,R,S,T⟩ h;dsimp only at h;rw[ZbX.eq_2]at h;(conv=>whnf);left;refine bS h (fun h=>?_) fun h=>?_
  ·(conv=>whnf);left;(conv=>whnf);refine gX h fun h=>?_;(conv=>whnf);refine oB h fun b2 h=>?_;(conv=>whnf);left;(conv=>whnf);refine cR h Zd7 fun f h=>?_;(conv=>whnf);left;(conv=>whnf);left;refine bS h (fun h=>?_) fun h=>?_
   ·(conv=>whnf);left;cases h;cases k1
   exact rE (aY,i,(IntKind.wrap IntKind.i64 (j+(1:Int))),k,f.1.Id,f.1.Conf,f.1.Term,f.1.Vote,f.1.Role,f.1.Leader,f.1.Trail.Base,f.1.Trail.BaseTerm,f.1.Trail.Entries,f.1.Snap,f.1.Commit,f.1.Left,f.1.Wait,f.1.Votes,f.1.Next,f.1.Match) (ii 7 []) h
  exact qE (ii 7 [])
 (conv=>whnf);left;(conv=>whnf);left;(conv=>whnf);left;(conv=>whnf);refine cR h Zbb fun b3 h=>?_;(conv=>whnf);refine aX ?_;cases h
theorem Zie{id U c fs l r}(h:Zd8 F id U c fs l=some (Sum.inr (Sum.inr r))):FZ ml 52 (T5 c fs l) [pp 0,aI id,sM cJ U] (.tup [pp 3,.agg (Zad.c r.1),aI r.2.1]) (T30 r.2.2.1 r.2.2.2.1++[(3,rF ([pp 5]++Zad.c r.2.2.2.2.1)),(4,rT Zaa.c r.2.2.2.2.2.1),(5,rF [pp 0,.str r.2.2.2.2.2.2.1,aI r.2.2.2.2.2.2.2.1,aI r.2.2.2.2.2.2.2.2])]):=by
 refine fG Tryz.func52 ?_
 unfold Zd8 at h
 (conv=>whnf);left;(conv=>whnf);left;(conv=>whnf);refine cR h Zij fun a h=>?_;(conv=>whnf);left;(conv=>whnf);left;(conv=>whnf);left;refine bS h (fun h=>?_) fun h=>?_
 ·(conv=>whnf);left;cases h
 obtain⟨b,hy,h⟩:=ZaE h;rcases b with b|b
 ·replace h:=Zeg h;(conv=>whnf);refine cg [0,1,2] (Zht hy) ?_;(conv=>whnf);left;refine bS h (fun h=>?_) fun h=>?_
  ·(conv=>whnf);left;cases h
  (conv=>whnf);refine jS h fun o0 ⟨V,X,Y,Z,a0,a1,a2,a3,a4,a5,a6,a7,a8,a9,aA,aB⟩=>jT [(7,pp 3),(9,pp 4),(11,AV.con (Value.pointer none))] (T23 b.2.1 b.2.2.1 (V) X (Y) (Z) (a0) (a1) (a2) (a3) a4 a5 (a6) (a7) (a8) a9 aA aB b.2.2.2.2) 6 (fun h k0 e=>?_) fun h=>?_
  ·(conv=>whnf);left;(conv=>whnf);refine lI (fun n' ⟨g,m,n,o,p,q,s,t,u,v,w,x,y,z,A,B,C⟩=>Zc7 F b n' g m n o p q s t u v w x y z A B C) (fun⟨g,m,n,o,p,q,s,t,u,v,w,x,y,z,A,B,C⟩=>[(7,pp 3),(9,pp 4),(11,AV.con (Value.pointer none)),(40,.osw 5 1),(41,aI (@Nat.cast Int instNatCastInt (List.length (List.map (cSl cB) b.2.2.2.1)))),(42,aI g)]) (fun⟨g,m,n,o,p,q,s,t,u,v,w,x,y,z,A,B,C⟩=>(T22 b.2.1 b.2.2.1 m n o p q s t u v w x y z A B C b.2.2.2.1 b.2.2.2.2)) 7 ((0:Int),a.1.Id,a.1.Conf,a.1.Term,a.1.Vote,a.1.Role,a.1.Leader,a.1.Trail.Base,a.1.Trail.BaseTerm,a.1.Trail.Entries,a.1.Snap,a.1.Commit,a.1.Left,a.1.Wait,a.1.Votes,a.1.Next,a.1.Match) [(0,0),(1,1),(2,2),(3,64),(4,320),(5,643),(6,644)] h ?_;rintro aC ⟨g,m,n,o,p,q,s,t,u,v,w,x,y,z,A,B,C⟩ h;dsimp only at h;rw[Zc7.eq_2]at h;(conv=>whnf);left;refine bS h (fun h=>?_) fun h=>?_
   ·(conv=>whnf);left;(conv=>whnf);refine gX h fun h=>?_;(conv=>whnf);refine oB h fun aZ h=>?_;(conv=>whnf);refine oB h fun b0 h=>?_;(conv=>whnf);left;(conv=>whnf);refine cR h Zd7 fun d h=>?_;(conv=>whnf);left;(conv=>whnf);left;refine bS h (fun h=>?_) fun h=>?_
    ·(conv=>whnf);left;cases h;cases k0
    exact rE (aC,(IntKind.wrap IntKind.i64 (g+(1:Int))),d.1.Id,d.1.Conf,d.1.Term,d.1.Vote,d.1.Role,d.1.Leader,d.1.Trail.Base,d.1.Trail.BaseTerm,d.1.Trail.Entries,d.1.Snap,d.1.Commit,d.1.Left,d.1.Wait,d.1.Votes,d.1.Next,d.1.Match) (ii 7 []) h
   exact qE (ii 5 [(5,6)])
  (conv=>whnf);left;(conv=>whnf);left;(conv=>whnf);left;(conv=>whnf);refine cR h Zbb fun b1 h=>?_;(conv=>whnf);refine aX ?_;cases h
 replace h:=Zef h;(conv=>whnf);refine cg [0,1,2] (Zhs hy) ?_;(conv=>whnf);left;refine bS h (fun h=>?_) fun h=>?_
 ·(conv=>whnf);left;cases h
 (conv=>whnf);refine jS h fun o1 ⟨aD,aF,aG,aH,aJ,aK,aL,aM,aN,aO,aP,aQ,aR,aS,aT,aU,aV⟩=>jT [(7,pp 3),(9,pp 4),(11,pp 5)] (T8 b.2.2.1 b.2.2.2.1 0 0 0 0 0 0 0 [] 0 0 (aD) (aF) aG (aH) (aJ) (aK) (aL) (aM) (aN) aO aP (aQ) (aR) (aS) aT aU aV b.2.2.2.2.1 b.2.2.2.2.2.1 b.2.2.2.2.2.2.1 b.2.2.2.2.2.2.2) 7 (fun h k1 e=>?_) fun h=>?_
 ·(conv=>whnf);left;(conv=>whnf);refine lI (fun n' ⟨i,j,k,D,E,G,H,I,J,K,L,M,N,O,P,Q,R,S,T⟩=>ZbX F b n' i j k D E G H I J K L M N O P Q R S T) (fun⟨i,j,k,D,E,G,H,I,J,K,L,M,N,O,P,Q,R,S,T⟩=>[(7,pp 3),(9,pp 4),(11,pp 5),(40,sM (cSl cB) b.1),(41,aI i),(42,aI j)]) (fun⟨i,j,k,D,E,G,H,I,J,K,L,M,N,O,P,Q,R,S,T⟩=>(T8 b.2.2.1 b.2.2.2.1 0 0 0 0 0 0 0 [] 0 0 k D E G H I J K L M N O P Q R S T b.2.2.2.2.1 b.2.2.2.2.2.1 b.2.2.2.2.2.2.1 b.2.2.2.2.2.2.2)) 7 ((@Nat.cast Int instNatCastInt (List.length (List.map (cSl cB) b.1))),(0:Int),(0:Int),a.1.Id,a.1.Conf,a.1.Term,a.1.Vote,a.1.Role,a.1.Leader,a.1.Trail.Base,a.1.Trail.BaseTerm,a.1.Trail.Entries,a.1.Snap,a.1.Commit,a.1.Left,a.1.Wait,a.1.Votes,a.1.Next,a.1.Match) [(0,0),(1,1),(2,2),(3,64),(4,320),(5,643),(6,644)] h ?_;rintro aY ⟨i,j,k,D,E,G,H,I,J,K,L,M,N,O,P,Q,R,S,T⟩ h;dsimp only at h;rw[ZbX.eq_2]at h;(conv=>whnf);left;refine bS h (fun h=>?_) fun h=>?_
  ·(conv=>whnf);left;(conv=>whnf);refine gX h fun h=>?_;(conv=>whnf);refine oB h fun b2 h=>?_;(conv=>whnf);left;(conv=>whnf);refine cR h Zd7 fun f h=>?_;(conv=>whnf);left;(conv=>whnf);left;refine bS h (fun h=>?_) fun h=>?_
   ·(conv=>whnf);left;cases h;cases k1
   exact rE (aY,i,(IntKind.wrap IntKind.i64 (j+(1:Int))),k,f.1.Id,f.1.Conf,f.1.Term,f.1.Vote,f.1.Role,f.1.Leader,f.1.Trail.Base,f.1.Trail.BaseTerm,f.1.Trail.Entries,f.1.Snap,f.1.Commit,f.1.Left,f.1.Wait,f.1.Votes,f.1.Next,f.1.Match) (ii 7 []) h
  exact qE (ii 7 [])
 (conv=>whnf);left;(conv=>whnf);left;(conv=>whnf);left;(conv=>whnf);refine cR h Zbb fun b3 h=>?_;(conv=>whnf);refine aX ?_;(conv=>whnf);obtain rfl:=Vi (Vi (YL h));exact gI [(0,0),(1,1),(2,2),(3,103),(4,6),(5,5)]
theorem ZcQ{s r}(h:Zcs F s=some r):FZ ml 53 [] [.str s] (.tup [aI r.1,.int IntKind.u32 r.2]) []:=by
 refine fA Tryz.func53 ?_
 unfold Zcs at h
 (conv=>whnf);left;(conv=>whnf);refine gX h fun h=>?_;(conv=>whnf);left;obtain⟨a,hy,h⟩:=ZaE h;refine⟨_,_,(ZdE (cons2 (YI AV.sl rQ) (cons2 (YI AV.sl rQ) rfl)) (Zav (Zfj hy) rfl)),Or.inr ⟨[96,160],rfl,?_⟩⟩;(conv=>whnf);left;refine bS h (fun h=>qR) fun h=>?_;(conv=>whnf);refine aX ?_;(conv=>whnf);refine oB h fun b h=>?_;(conv=>whnf);refine aX ?_;(conv=>whnf);refine oB h fun c h=>?_;exact qR
end Go.T
