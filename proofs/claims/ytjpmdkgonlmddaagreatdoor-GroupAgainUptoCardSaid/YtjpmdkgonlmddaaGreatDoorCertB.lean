import Derived.Test.YtjpmdkgonlmddaaGreatDoorCertA
set_option linter.unusedVariables false
set_option maxRecDepth 200000
set_option maxHeartbeats 4000000
namespace Go.T
open Go Go.Ab Go.Proofs
variable {ml:Gv}{F:Nat}
theorem ZeP{recs c a b k fs l r}(h:Zbh F recs c a b k fs l=some r):FZ ml 96 (T20 c a b k fs l) [pp 0,sM (cSl cB) recs] (aI r.1) (T16 r.2.1 r.2.2.1 r.2.2.2.1 r.2.2.2.2.1 r.2.2.2.2.2.1 r.2.2.2.2.2.2):=by
 refine fG Tryz.func96 ?_
 unfold Zbh at h
 (conv=>whnf);left;(conv=>whnf);left;(conv=>whnf);left;(conv=>whnf);refine cR h (fun h=>Zat (ZkB h) rfl) fun m h=>?_;(conv=>whnf);left;refine bS h (fun h=>qG [(0,0),(1,1),(2,2),(4,3)]) fun h=>?_;(conv=>whnf);left;(conv=>whnf);refine cR h (fun h=>Zat (ZfP h) rfl) fun j h=>?_;(conv=>whnf);refine gX h fun h=>?_;(conv=>whnf);left;(conv=>whnf);refine cR h (fun h=>Zat (Zgz h) rfl) fun w h=>?_;(conv=>whnf);left;refine bS h (fun h=>qG [(0,0),(1,1),(2,2),(4,3)]) fun h=>?_;(conv=>whnf);refine jS h fun o0 ⟨o,p,q⟩=>jT [(0,pp 0),(1,sM (cSl cB) recs),(7,.str (([108,111,103,45]:List UInt8)++j))] (T16 c (IntKind.wrap IntKind.i64 (a+(1:Int))) b (o) p q) 5 (fun h k0 e=>?_) fun h=>?_
 ·(conv=>whnf);left;(conv=>whnf);refine lI (fun n' ⟨d,f,g,i⟩=>Zaz F c a b m j n' d f g i) (fun⟨d,f,g,i⟩=>[(0,pp 0),(1,sM (cSl cB) recs),(7,.str (([108,111,103,45]:List UInt8)++j)),(44,sM (cSl cB) m.2),(45,aI (@Nat.cast Int instNatCastInt (List.length (List.map (cSl cB) m.2)))),(46,aI d)]) (fun⟨d,f,g,i⟩=>(T16 c (IntKind.wrap IntKind.i64 (a+(1:Int))) b f g i)) 5 ((0:Int),k,fs,l) [(0,0),(1,1),(2,2),(4,3)] h ?_;rintro s ⟨d,f,g,i⟩ h;dsimp only at h;rw[Zaz.eq_2]at h;(conv=>whnf);left;refine bS h (fun h=>?_) fun h=>?_
  ·(conv=>whnf);left;(conv=>whnf);refine gX h fun h=>?_;(conv=>whnf);refine oB h fun x h=>?_;(conv=>whnf);refine cG [1,2,4] h Zfr fun n h=>?_;(conv=>whnf);left;refine bS h (fun h=>?_) fun h=>?_
   ·cases h;cases k0;exact gI (ii 4 [(4,328)])
   exact rE (s,(IntKind.wrap IntKind.i64 (d+(1:Int))),n.2.1,n.2.2.1,n.2.2.2) (ii 4 [(4,328)]) h
  exact qE (ii 5 [])
 (conv=>whnf);refine cG [1,2,4] h ZfL fun y h=>?_;(conv=>whnf);refine jN h fun⟨t,u,v⟩=>jM [(0,pp 0),(1,sM (cSl cB) recs),(7,.str (([108,111,103,45]:List UInt8)++j))] (T16 c (IntKind.wrap IntKind.i64 (a+(1:Int))) b t u v) 5 (fun h=>?_) fun h=>?_
 ·(conv=>whnf);left;refine bS h (fun h=>?_) fun h=>?_
  ·(conv=>whnf);exact cG [1,2,168] h Zb4 fun z h=>qE (ii 4 [(4,616)])
  exact qE (ii 4 [(4,168)])
 exact qG (ii 5 [])
theorem Zhy{c fs l r}(h:ZfS F c fs l=some (Sum.inl r)):FZ ml 67 (T6 c fs l) [pp 0] (.tup [AV.con (Value.pointer none),.osw 3 1,aI r.1]) (T29 r.2.1 r.2.2.1++[(3,rT (cSl cB) r.2.2.2.1),(4,rT Zaa.c r.2.2.2.2)]):=by
 refine fG Tryz.func67 ?_
 unfold ZfS at h
 (conv=>whnf);left;(conv=>whnf);left;(conv=>whnf);refine cH [0,1,2] h Zfv fun f h=>?_;(conv=>whnf);refine jN h fun z=>jM [(1,pp 3),(5,.osw 4 1)] (T6 c fs l++[(3,rF [pp 0]),(4,rT cJ z)]) 5 (fun h=>?_) fun h=>?_
 ·(conv=>whnf);left;(conv=>whnf);refine lI (fun n' x'=>Zde F f n' x'.1 x'.2) (fun x'=>[(1,pp 3),(5,.osw 4 1),(24,sM cStr f),(25,aI (@Nat.cast Int instNatCastInt (List.length (List.map cStr f)))),(26,aI x'.1)]) (fun x'=>(T6 c fs l++[(3,rF [pp 0]),(4,rT cJ x'.2)])) 5 ((0:Int),[]) [(0,0),(1,1),(2,2),(3,32),(4,224)] h ?_;rintro A ⟨w,R⟩ h;dsimp only at h;rw[Zde.eq_2]at h;(conv=>whnf);left;refine bS h (fun h=>?_) fun h=>?_
  ·(conv=>whnf);refine jN h fun x=>jM [(1,pp 3),(5,.osw 4 1),(24,sM cStr f),(25,aI (@Nat.cast Int instNatCastInt (List.length (List.map cStr f)))),(26,aI w)] (T6 c fs l++[(3,rF [pp 0]),(4,rT cJ x)]) 5 (fun h=>?_) fun h=>?_
   ·(conv=>whnf);left;(conv=>whnf);refine gX h fun h=>?_;(conv=>whnf);refine oB h fun S h=>?_;(conv=>whnf);left;(conv=>whnf);refine cR h (fun h=>Zat (Zgz h) rfl) fun T h=>?_;(conv=>whnf);left;refine bS h (fun h=>?_) fun h=>?_
    ·(conv=>whnf);left;(conv=>whnf);refine aX ?_;(conv=>whnf);refine aX ?_;(conv=>whnf);refine gS h fun h=>?_;cases h;exact eE (ii 4 [(4,389)])
    exact qE (ii 5 [])
   exact rE (A,(IntKind.wrap IntKind.i64 (w+(1:Int))),x) (ii 5 []) h
  exact qE (ii 5 [])
 (conv=>whnf);refine cG [4] h ZdZ fun U h=>?_;(conv=>whnf);left;(conv=>whnf);left;(conv=>whnf);left;(conv=>whnf);left;(conv=>whnf);left;(conv=>whnf);left;obtain⟨g,hy,h⟩:=ZaB h;refine⟨_,_,(Zat (ZdJ hy) rfl),Or.inr ⟨[4],rfl,?_⟩⟩;(conv=>whnf);left;(conv=>whnf);refine aX ?_;obtain⟨o5,h5,h⟩:=ZaB h;(conv=>whnf);refine ZnA 140 g 46 47 13 (α:=(Int×(List ((List UInt8)×(List Int)))×(List (List Int))×Bool×(List Zaa)×(List UInt8)×Int×Int)) ((1,(AV.ptr 3 0 0))::((9,(AV.ptr 4 0 0))::((10,(AV.ptr 5 0 0))::((11,(AV.ptr 6 0 0))::[])))) (fun xq=>((0,(AO.rows false (((AV.mapo 1)::((AV.osw 7 2)::((AV.int IntKind.i64 xq.1)::[])))::[])))::((1,(fS xq.2.1))::((3,(AO.rows false (((AV.ptr 0 0 0)::[])::[])))::((4,(AO.rows false (((AV.ptr 8 0 0)::[])::[])))::((5,(AO.rows false (((AV.sl (List.map (cSl cB) xq.2.2.1))::[])::[])))::((6,(AO.rows false (((AV.bool xq.2.2.2.1)::[])::[])))::((7,(AO.rows true (List.map Zaa.c xq.2.2.2.2.1)))::((8,(AO.rows false (((AV.ptr 0 0 0)::((AV.str xq.2.2.2.2.2.1)::((AV.int IntKind.i64 xq.2.2.2.2.2.2.1)::((AV.int IntKind.i64 xq.2.2.2.2.2.2.2)::[]))))::[])))::[]))))))))) 9 (fun kq xq=>ZaV F (List.drop kq (List.reverse g)) xq.1 xq.2.1 xq.2.2.1 xq.2.2.2.1 xq.2.2.2.2.1 xq.2.2.2.2.2.1 xq.2.2.2.2.2.2.1 xq.2.2.2.2.2.2.2=some o5) (c,fs,[],false,l,([]:List UInt8),(0:Int),(0:Int)) [(0,0),(1,1),(3,3),(4,165),(5,229),(6,261),(7,2),(8,133)] Zqw rfl rfl rfl h5 (WkL.cons (Wk.eq rfl) (WkL.cons (Wk.eq rfl) (WkL.cons (Wk.eq rfl) (WkL.cons (Wk.eq rfl) WkL.nil)))) (WkOs.cons (WkO.eq (Option.some.inj rfl)) (WkOs.cons (WkO.eq (Option.some.inj rfl)) (WkOs.cons (WkO.eq (Option.some.inj rfl)) (WkOs.cons (WkO.eq (Option.some.inj rfl)) (WkOs.cons (WkO.r (WkR.cons (WkL.cons Wk.esl WkL.nil) WkR.nil)) (WkOs.cons (WkO.eq (Option.some.inj rfl)) (WkOs.cons (WkO.eq (Option.some.inj rfl)) (WkOs.cons (WkO.eq (Option.some.inj rfl)) WkOs.nil)))))))) rfl (fun kq b xq hk hI=>?_) (fun xq hI=>?_)
 ·obtain⟨i,j,k,m,n,o,a,p⟩:=xq;replace hI:ZaV F (List.drop kq (List.reverse g)) i j k m n o a p=some o5:=hI;rw[ZiY hk,ZaV.eq_2]at hI;clear h;have h:=hI;clear hI;(conv=>whnf);left;(conv=>whnf);left;(conv=>whnf);refine cR h (fun h=>Zat (ZfP h) rfl) fun t h=>?_;(conv=>whnf);refine gX h fun h=>?_;(conv=>whnf);refine aX ?_;obtain⟨d,hy,h⟩:=ZaB h;rcases d with d|d
  ·replace h:=ZdL h;(conv=>whnf);refine cg [0,1,7] (ZfN hy) ?_;(conv=>whnf);left;obtain⟨q,hy,h⟩:=ZaB h;refine⟨_,_,(Zat (Zgu hy) rfl),Or.inr ⟨[556],rfl,?_⟩⟩;(conv=>whnf);refine jN h fun B=>jM [(1,pp 3),(9,pp 4),(10,pp 5),(11,pp 6),(14,.str (([108,111,103,45]:List UInt8)++t)),(15,.osw 7 1),(17,sM (cSl cB) q.2.2),(18,aI q.1),(80,.bool B)] (T37 i j k m++[(7,AO.froz (List.map cB d.2)),(8,rT Zaa.c n),(9,rF [pp 0,.str o,aI (if(b>a)then b else a),aI p])]) 10 (fun h=>qE (ii 7 [(7,556),(8,7),(9,8)])) fun h=>?_;(conv=>whnf);left;refine bS h (fun h=>?_) fun h=>?_
   ·(conv=>whnf);refine cG [0,1,8] h Zb4 fun u h=>?_;(conv=>whnf);exact⟨(u.2.1,u.2.2.1,k,m,u.2.2.2,o,(if(b>a)then b else a),p),(ii 7 [(7,77),(8,9)]),h,rfl,(.of_eq rfl),(.of_eq rfl)⟩
   (conv=>whnf);exact⟨(i,j,q.2.2,(q.1==(@Nat.cast Int instNatCastInt (List.length (List.map cB d.2)))),n,(([108,111,103,45]:List UInt8)++t),(if(b>a)then b else a),(@Nat.cast Int instNatCastInt (List.length (List.map (cSl cB) q.2.2)))),(ii 7 [(7,8),(8,9)]),h,rfl,(.of_eq rfl),(.of_eq rfl)⟩
  replace h:=ZdK h;(conv=>whnf);refine ch [0,1,7] (ZfM hy) ?_;(conv=>whnf);left;(conv=>whnf);refine cR h (fun h=>Zat (Zgu h) rfl) fun s h=>?_;(conv=>whnf);refine jN h fun C=>jM [(1,pp 3),(9,pp 4),(10,pp 5),(11,pp 6),(14,.str (([108,111,103,45]:List UInt8)++t)),(15,sM cB d.1),(17,sM (cSl cB) s.2.2),(18,aI s.1),(80,.bool C)] (T33 i j k m n o (if(b>a)then b else a) p) 9 (fun h=>qE (ii 9 [])) fun h=>?_;(conv=>whnf);left;refine bS h (fun h=>?_) fun h=>?_
  ·(conv=>whnf);refine cG [0,1,7] h Zb4 fun v h=>?_;(conv=>whnf);exact⟨(v.2.1,v.2.2.1,k,m,v.2.2.2,o,(if(b>a)then b else a),p),(ii 7 [(7,76),(8,8)]),h,rfl,(.of_eq rfl),(.of_eq rfl)⟩
  (conv=>whnf);exact⟨(i,j,s.2.2,(s.1==(@Nat.cast Int instNatCastInt (List.length (List.map cB d.1)))),n,(([108,111,103,45]:List UInt8)++t),(if(b>a)then b else a),(@Nat.cast Int instNatCastInt (List.length (List.map (cSl cB) s.2.2)))),(ii 9 []),h,rfl,(.of_eq rfl),(.of_eq rfl)⟩
 obtain⟨D,E,y,G,H,I,J,K⟩:=xq;replace hI:ZaV F (List.drop (List.length g) (List.reverse g)) D E y G H I J K=some o5:=hI;rw[Zn0,ZaV.eq_1]at hI;cases hI;(conv=>whnf);refine jS h fun o8 ⟨L,M,N,O,P,Q⟩=>jT [(9,pp 3),(10,pp 4)] (T34 (L) M y N O (P) (Q)) 7 (fun h k8 e=>?_) fun h=>?_
 ·(conv=>whnf);left;refine bS h (fun h=>?_) fun h=>?_
  ·(conv=>whnf);refine cG [8,0,1,7] h ZeP fun V h=>?_;(conv=>whnf);left;refine bS h (fun h=>?_) fun h=>?_
   ·cases h;cases k8;exact gE [(0,0),(1,1),(2,2),(3,329),(4,141)]
   exact qE [(0,0),(1,1),(2,2),(3,4),(4,5),(5,141),(6,8)]
  exact qE [(0,0),(1,1),(2,2),(3,4),(4,5),(5,7),(6,8)]
 (conv=>whnf);refine aX ?_;cases h
theorem Zhx{c fs l r}(h:ZfS F c fs l=some (Sum.inr r)):FZ ml 67 (T6 c fs l) [pp 0] (.tup [pp 3,sM (cSl cB) r.1,aI r.2.1]) (T29 r.2.2.1 r.2.2.2.1++[(3,rF [pp 0,.str r.2.2.2.2.1,aI r.2.2.2.2.2.1,aI r.2.2.2.2.2.2.1]),(4,rT Zaa.c r.2.2.2.2.2.2.2)]):=by
 refine fG Tryz.func67 ?_
 unfold ZfS at h
 (conv=>whnf);left;(conv=>whnf);left;(conv=>whnf);refine cH [0,1,2] h Zfv fun f h=>?_;(conv=>whnf);refine jN h fun z=>jM [(1,pp 3),(5,.osw 4 1)] (T6 c fs l++[(3,rF [pp 0]),(4,rT cJ z)]) 5 (fun h=>?_) fun h=>?_
 ·(conv=>whnf);left;(conv=>whnf);refine lI (fun n' x'=>Zde F f n' x'.1 x'.2) (fun x'=>[(1,pp 3),(5,.osw 4 1),(24,sM cStr f),(25,aI (@Nat.cast Int instNatCastInt (List.length (List.map cStr f)))),(26,aI x'.1)]) (fun x'=>(T6 c fs l++[(3,rF [pp 0]),(4,rT cJ x'.2)])) 5 ((0:Int),[]) [(0,0),(1,1),(2,2),(3,32),(4,224)] h ?_;rintro A ⟨w,R⟩ h;dsimp only at h;rw[Zde.eq_2]at h;(conv=>whnf);left;refine bS h (fun h=>?_) fun h=>?_
  ·(conv=>whnf);refine jN h fun x=>jM [(1,pp 3),(5,.osw 4 1),(24,sM cStr f),(25,aI (@Nat.cast Int instNatCastInt (List.length (List.map cStr f)))),(26,aI w)] (T6 c fs l++[(3,rF [pp 0]),(4,rT cJ x)]) 5 (fun h=>?_) fun h=>?_
   ·(conv=>whnf);left;(conv=>whnf);refine gX h fun h=>?_;(conv=>whnf);refine oB h fun S h=>?_;(conv=>whnf);left;(conv=>whnf);refine cR h (fun h=>Zat (Zgz h) rfl) fun T h=>?_;(conv=>whnf);left;refine bS h (fun h=>?_) fun h=>?_
    ·(conv=>whnf);left;(conv=>whnf);refine aX ?_;(conv=>whnf);refine aX ?_;(conv=>whnf);refine gS h fun h=>?_;cases h;exact eE (ii 4 [(4,389)])
    exact qE (ii 5 [])
   exact rE (A,(IntKind.wrap IntKind.i64 (w+(1:Int))),x) (ii 5 []) h
  exact qE (ii 5 [])
 (conv=>whnf);refine cG [4] h ZdZ fun U h=>?_;(conv=>whnf);left;(conv=>whnf);left;(conv=>whnf);left;(conv=>whnf);left;(conv=>whnf);left;(conv=>whnf);left;obtain⟨g,hy,h⟩:=ZaB h;refine⟨_,_,(Zat (ZdJ hy) rfl),Or.inr ⟨[4],rfl,?_⟩⟩;(conv=>whnf);left;(conv=>whnf);refine aX ?_;obtain⟨o5,h5,h⟩:=ZaB h;(conv=>whnf);refine ZnA 140 g 46 47 13 (α:=(Int×(List ((List UInt8)×(List Int)))×(List (List Int))×Bool×(List Zaa)×(List UInt8)×Int×Int)) ((1,(AV.ptr 3 0 0))::((9,(AV.ptr 4 0 0))::((10,(AV.ptr 5 0 0))::((11,(AV.ptr 6 0 0))::[])))) (fun xq=>((0,(AO.rows false (((AV.mapo 1)::((AV.osw 7 2)::((AV.int IntKind.i64 xq.1)::[])))::[])))::((1,(fS xq.2.1))::((3,(AO.rows false (((AV.ptr 0 0 0)::[])::[])))::((4,(AO.rows false (((AV.ptr 8 0 0)::[])::[])))::((5,(AO.rows false (((AV.sl (List.map (cSl cB) xq.2.2.1))::[])::[])))::((6,(AO.rows false (((AV.bool xq.2.2.2.1)::[])::[])))::((7,(AO.rows true (List.map Zaa.c xq.2.2.2.2.1)))::((8,(AO.rows false (((AV.ptr 0 0 0)::((AV.str xq.2.2.2.2.2.1)::((AV.int IntKind.i64 xq.2.2.2.2.2.2.1)::((AV.int IntKind.i64 xq.2.2.2.2.2.2.2)::[]))))::[])))::[]))))))))) 9 (fun kq xq=>ZaV F (List.drop kq (List.reverse g)) xq.1 xq.2.1 xq.2.2.1 xq.2.2.2.1 xq.2.2.2.2.1 xq.2.2.2.2.2.1 xq.2.2.2.2.2.2.1 xq.2.2.2.2.2.2.2=some o5) (c,fs,[],false,l,([]:List UInt8),(0:Int),(0:Int)) [(0,0),(1,1),(3,3),(4,165),(5,229),(6,261),(7,2),(8,133)] Zqw rfl rfl rfl h5 (WkL.cons (Wk.eq rfl) (WkL.cons (Wk.eq rfl) (WkL.cons (Wk.eq rfl) (WkL.cons (Wk.eq rfl) WkL.nil)))) (WkOs.cons (WkO.eq (Option.some.inj rfl)) (WkOs.cons (WkO.eq (Option.some.inj rfl)) (WkOs.cons (WkO.eq (Option.some.inj rfl)) (WkOs.cons (WkO.eq (Option.some.inj rfl)) (WkOs.cons (WkO.r (WkR.cons (WkL.cons Wk.esl WkL.nil) WkR.nil)) (WkOs.cons (WkO.eq (Option.some.inj rfl)) (WkOs.cons (WkO.eq (Option.some.inj rfl)) (WkOs.cons (WkO.eq (Option.some.inj rfl)) WkOs.nil)))))))) rfl (fun kq b xq hk hI=>?_) (fun xq hI=>?_)
 ·obtain⟨i,j,k,m,n,o,a,p⟩:=xq;replace hI:ZaV F (List.drop kq (List.reverse g)) i j k m n o a p=some o5:=hI;rw[ZiY hk,ZaV.eq_2]at hI;clear h;have h:=hI;clear hI;(conv=>whnf);left;(conv=>whnf);left;(conv=>whnf);refine cR h (fun h=>Zat (ZfP h) rfl) fun t h=>?_;(conv=>whnf);refine gX h fun h=>?_;(conv=>whnf);refine aX ?_;obtain⟨d,hy,h⟩:=ZaB h;rcases d with d|d
  ·replace h:=ZdL h;(conv=>whnf);refine cg [0,1,7] (ZfN hy) ?_;(conv=>whnf);left;obtain⟨q,hy,h⟩:=ZaB h;refine⟨_,_,(Zat (Zgu hy) rfl),Or.inr ⟨[556],rfl,?_⟩⟩;(conv=>whnf);refine jN h fun B=>jM [(1,pp 3),(9,pp 4),(10,pp 5),(11,pp 6),(14,.str (([108,111,103,45]:List UInt8)++t)),(15,.osw 7 1),(17,sM (cSl cB) q.2.2),(18,aI q.1),(80,.bool B)] (T37 i j k m++[(7,AO.froz (List.map cB d.2)),(8,rT Zaa.c n),(9,rF [pp 0,.str o,aI (if(b>a)then b else a),aI p])]) 10 (fun h=>qE (ii 7 [(7,556),(8,7),(9,8)])) fun h=>?_;(conv=>whnf);left;refine bS h (fun h=>?_) fun h=>?_
   ·(conv=>whnf);refine cG [0,1,8] h Zb4 fun u h=>?_;(conv=>whnf);exact⟨(u.2.1,u.2.2.1,k,m,u.2.2.2,o,(if(b>a)then b else a),p),(ii 7 [(7,77),(8,9)]),h,rfl,(.of_eq rfl),(.of_eq rfl)⟩
   (conv=>whnf);exact⟨(i,j,q.2.2,(q.1==(@Nat.cast Int instNatCastInt (List.length (List.map cB d.2)))),n,(([108,111,103,45]:List UInt8)++t),(if(b>a)then b else a),(@Nat.cast Int instNatCastInt (List.length (List.map (cSl cB) q.2.2)))),(ii 7 [(7,8),(8,9)]),h,rfl,(.of_eq rfl),(.of_eq rfl)⟩
  replace h:=ZdK h;(conv=>whnf);refine ch [0,1,7] (ZfM hy) ?_;(conv=>whnf);left;(conv=>whnf);refine cR h (fun h=>Zat (Zgu h) rfl) fun s h=>?_;(conv=>whnf);refine jN h fun C=>jM [(1,pp 3),(9,pp 4),(10,pp 5),(11,pp 6),(14,.str (([108,111,103,45]:List UInt8)++t)),(15,sM cB d.1),(17,sM (cSl cB) s.2.2),(18,aI s.1),(80,.bool C)] (T33 i j k m n o (if(b>a)then b else a) p) 9 (fun h=>qE (ii 9 [])) fun h=>?_;(conv=>whnf);left;refine bS h (fun h=>?_) fun h=>?_
  ·(conv=>whnf);refine cG [0,1,7] h Zb4 fun v h=>?_;(conv=>whnf);exact⟨(v.2.1,v.2.2.1,k,m,v.2.2.2,o,(if(b>a)then b else a),p),(ii 7 [(7,76),(8,8)]),h,rfl,(.of_eq rfl),(.of_eq rfl)⟩
  (conv=>whnf);exact⟨(i,j,s.2.2,(s.1==(@Nat.cast Int instNatCastInt (List.length (List.map cB d.1)))),n,(([108,111,103,45]:List UInt8)++t),(if(b>a)then b else a),(@Nat.cast Int instNatCastInt (List.length (List.map (cSl cB) s.2.2)))),(ii 9 []),h,rfl,(.of_eq rfl),(.of_eq rfl)⟩
 obtain⟨D,E,y,G,H,I,J,K⟩:=xq;replace hI:ZaV F (List.drop (List.length g) (List.reverse g)) D E y G H I J K=some o5:=hI;rw[Zn0,ZaV.eq_1]at hI;cases hI;(conv=>whnf);refine jS h fun o8 ⟨L,M,N,O,P,Q⟩=>jT [(9,pp 3),(10,pp 4)] (T34 (L) M y N O (P) (Q)) 7 (fun h k8 e=>?_) fun h=>?_
 ·(conv=>whnf);left;refine bS h (fun h=>?_) fun h=>?_
  ·(conv=>whnf);refine cG [8,0,1,7] h ZeP fun V h=>?_;(conv=>whnf);left;refine bS h (fun h=>?_) fun h=>?_
   ·cases h;cases k8
   exact qE [(0,0),(1,1),(2,2),(3,4),(4,5),(5,141),(6,8)]
  exact qE [(0,0),(1,1),(2,2),(3,4),(4,5),(5,7),(6,8)]
 exact qG [(0,0),(1,1),(2,2),(3,6),(4,5)]
theorem Zjy{r}(h:Zgv F=some r):FZ ml 97 [] [] (AV.mapo 0) [(0,AO.fmap 1 (@encF Int Int (fun(a:Int)=>(AV.int IntKind.u8 a)) cJ r) none)]:=by
 refine fG Tryz.func97 ?_
 unfold Zgv at h
 (conv=>whnf);refine Or.inr ?_;(conv=>whnf);refine⟨Or.inl ⟨1,?_⟩⟩;(conv=>whnf);left;(conv=>whnf);refine aX ?_;(conv=>whnf);obtain⟨hg,h⟩:=grd_e h;refine Zkg (ek:=(fun(a:Int)=>(AV.int IntKind.u8 a))) (en:=cJ) [] (1:Int) ((1:Int)::((1:Int)::((1:Int)::[]))) 96 rfl rfl (ZcB Tryz.underlying5) (.inl rfl) hg rfl _ rfl rQ (fun _=>rfl) rfl ?_;(conv=>whnf);left;(conv=>whnf);refine aX ?_;(conv=>whnf);obtain⟨hg,h⟩:=grd_e h;refine Zkg (ek:=(fun(a:Int)=>(AV.int IntKind.u8 a))) (en:=cJ) (mput (1:Int) ((1:Int)::((1:Int)::((1:Int)::[]))) []) (2:Int) ((1:Int)::((1:Int)::((1:Int)::((3:Int)::[])))) 160 rfl rfl (ZcB Tryz.underlying5) (.inl rfl) hg rfl _ rfl rQ (fun _=>rfl) rfl ?_;(conv=>whnf);left;(conv=>whnf);refine aX ?_;(conv=>whnf);obtain⟨hg,h⟩:=grd_e h;refine Zkg (ek:=(fun(a:Int)=>(AV.int IntKind.u8 a))) (en:=cJ) (mput (2:Int) ((1:Int)::((1:Int)::((1:Int)::((3:Int)::[])))) (mput (1:Int) ((1:Int)::((1:Int)::((1:Int)::[]))) [])) (3:Int) ((1:Int)::((1:Int)::((1:Int)::((3:Int)::[])))) 224 rfl rfl (ZcB Tryz.underlying5) (.inl rfl) hg rfl _ rfl rQ (fun _=>rfl) rfl ?_;(conv=>whnf);left;(conv=>whnf);refine aX ?_;(conv=>whnf);obtain⟨hg,h⟩:=grd_e h;refine Zkg (ek:=(fun(a:Int)=>(AV.int IntKind.u8 a))) (en:=cJ) (mput (3:Int) ((1:Int)::((1:Int)::((1:Int)::((3:Int)::[])))) (mput (2:Int) ((1:Int)::((1:Int)::((1:Int)::((3:Int)::[])))) (mput (1:Int) ((1:Int)::((1:Int)::((1:Int)::[]))) []))) (4:Int) ((1:Int)::((1:Int)::[])) 288 rfl rfl (ZcB Tryz.underlying5) (.inl rfl) hg rfl _ rfl rQ (fun _=>rfl) rfl ?_;exact qG [(0,64)]
theorem Zi0{b l r}(h:Zec F b l=some r):FZ ml 33 (T26 l) [.osw 0 1,sM cB b] (.tup [.osw 1 3,aI r.1]) (T26 l++[(1,rT Zaf.c r.2)]):=by
 refine fG Tryz.func33 ?_
 unfold Zec at h
 (conv=>whnf);refine jS h fun o0 ⟨d,f⟩=>jT [(1,sM cB d),(6,.osw 1 3)] (T26 l++[(1,rT Zaf.c f)]) 2 (fun h k0 e=>?_) fun h=>?_
 ·(conv=>whnf);left;(conv=>whnf);refine lI (fun n' x'=>ZcI F l n' x'.1 x'.2.1 x'.2.2) (fun x'=>[(1,sM cB x'.1),(6,.osw 1 3),(12,.osw 0 1),(13,aI (@Nat.cast Int instNatCastInt (List.length (List.map cJ l)))),(14,aI x'.2.1)]) (fun x'=>(T26 l++[(1,rT Zaf.c x'.2.2)])) 2 (b,(0:Int),[]) [(0,0),(1,96)] h ?_;rintro g ⟨i,j,k⟩ h;dsimp only at h;rw[ZcI.eq_2]at h;(conv=>whnf);left;refine bS h (fun h=>?_) fun h=>?_
  ·(conv=>whnf);left;(conv=>whnf);refine gX h fun h=>?_;(conv=>whnf);refine oB h fun m h=>?_;(conv=>whnf);refine oB h fun n h=>?_;(conv=>whnf);left;(conv=>whnf);refine cL h ZiZ fun a h=>?_;(conv=>whnf);left;(conv=>whnf);left;refine bS h (fun h=>?_) fun h=>?_
   ·cases h;cases k0;exact gE [(0,0),(1,578)]
   (conv=>whnf);left;(conv=>whnf);refine aX ?_;(conv=>whnf);refine aX ?_;(conv=>whnf);refine gS h fun h=>?_;(conv=>whnf);refine aX ?_;(conv=>whnf);refine gX h fun h=>?_;(conv=>whnf);refine gS h fun h=>?_;(conv=>whnf);refine gS h fun h=>?_;exact rV (g,(List.drop (Int.toNat a.2.1) i),(IntKind.wrap IntKind.i64 (j+(1:Int))),(k++(a.1::[]))) [(0,0),(1,642)] h
  exact qE [(0,0),(1,1)]
 (conv=>whnf);left;refine bS h (fun h=>?_) fun h=>?_
 ·cases h;exact gE [(0,0),(1,98)]
 exact qG [(0,0),(1,1)]
theorem Zan{s r}(h:Zal F s=some r):FZ ml 44 [] [(.sl (List.map Zab.c s))] (.osw 0 2) [(0,.rows true (List.map Zab.c r))]:=by
 unfold Zal at h
 obtain⟨hg,h⟩:=grd_e h
 cases h
 refine Zfs 2000 Tryz.func44 rfl (by kernel_rfl) mixed (by show 1≤8;decide) (by decide) rfl ?_
 refine oL ?_
 refine And.intro (fun hp=>?_) ?_
 ·conv=>whnf
  exact ZeK [(0,128)] rfl (by rw[hp];rfl) rfl
 refine oL ?_
 refine And.intro (ZaC.map (fun _=>rfl)) ?_
 refine And.intro ZaC.nil ?_
 refine And.intro (show 0+(List.map Zab.c s).length≤LIM by simpa using hg) ?_
 conv=>whnf
 exact gI [(0,192)]
theorem Zev{t n r}(h:Zd6 F t n=some r):FZ ml 149 [] [.agg (Zai.c t),aI n] (.tup [aI r.1,.bool r.2]) []:=by
 refine fA Tryz.func149 ?_
 unfold Zd6 at h
 (conv=>whnf);left;(conv=>whnf);refine jN h fun a=>jM [(1,aI n),(2,pp 0),(20,.bool a)] [(0,rF (Zai.c t))] 1 (fun h=>?_) fun h=>?_
 ·(conv=>whnf);left;(conv=>whnf);left;(conv=>whnf);refine cL h ZcD fun b h=>?_;(conv=>whnf);refine bS h (fun h=>qE [(0,32)]) fun h=>?_;(conv=>whnf);refine bS h (fun h=>qE [(0,32)]) fun h=>?_;(conv=>whnf);left;(conv=>whnf);exact cL h Zeu fun d h=>qE [(0,32)]
 (conv=>whnf);left;refine bS h (fun h=>qR) fun h=>?_;(conv=>whnf);left;(conv=>whnf);exact cL h ZiA fun e h=>qR
theorem ZhA{t to_ r}(h:Zga F t to_=some r):FZ ml 124 [] [.agg (Zai.c t),aI to_] (.tup [.agg (Zai.c r.1),.bool r.2]) []:=by
 refine fK Tryz.func124 ?_
 unfold Zga at h
 (conv=>whnf);left;(conv=>whnf);left;(conv=>whnf);left;(conv=>whnf);refine cL h Zev fun a h=>?_;(conv=>whnf);left;refine bS h (fun h=>qK) fun h=>?_;(conv=>whnf);refine aX ?_;(conv=>whnf);refine gX h fun h=>?_;(conv=>whnf);refine gS h fun h=>?_;(conv=>whnf);refine gS h fun h=>?_;(conv=>whnf);left;(conv=>whnf);obtain⟨b,hy,h⟩:=ZaB h;refine⟨_,_,(ZdD (cons2 (congrArg AV.sl rQ) rfl) (Zat (Zan hy) rfl)),Or.inr ⟨[],rfl,?_⟩⟩;exact qK
theorem ZhE{t n term r}(h:Zgb F t n term=some r):FZ ml 98 [] [.agg (Zai.c t),aI n,aI term] (.agg (Zai.c r)) []:=by
 refine fK Tryz.func98 ?_
 unfold Zgb at h
 (conv=>whnf);left;(conv=>whnf);left;(conv=>whnf);left;(conv=>whnf);refine cL h Zev fun b h=>?_;(conv=>whnf);refine jN h fun a=>jM [(1,aI n),(2,aI term),(3,pp 0),(6,pp 1),(20,.bool a)] (T39 t 0 0) 2 (fun h=>qE [(0,32),(1,64)]) fun h=>?_;(conv=>whnf);left;refine bS h (fun h=>?_) fun h=>?_
 ·(conv=>whnf);left;(conv=>whnf);exact cR h ZhA fun d h=>qK
 exact qK
theorem Zbw{s r}(h:ZaE F s=some r):FZ ml 150 [] [(.sl (List.map cJ s))] (.osw 0 1) [(0,.rows true (List.map cJ r))]:=by
 unfold ZaE at h
 obtain⟨hg,h⟩:=grd_e h
 cases h
 refine Zfs 2000 Tryz.func150 rfl (by kernel_rfl) mixed (by show 1≤8;decide) (by decide) rfl ?_
 refine oL ?_
 refine And.intro (fun hp=>?_) ?_
 ·conv=>whnf
  exact ZeK [(0,128)] rfl (by rw[hp];rfl) rfl
 refine oL ?_
 refine And.intro (ZaC.map (fun _=>rfl)) ?_
 refine And.intro ZaC.nil ?_
 refine And.intro (show 0+(List.map cJ s).length≤LIM by simpa using hg) ?_
 conv=>whnf
 exact gI [(0,192)]
theorem ZkE{r_ r}(h:Zge F r_=some r):FZ ml 99 [] [.agg (Zae.c r_)] (.agg (Zae.c r)) []:=by
 refine fA Tryz.func99 ?_
 unfold Zge at h
 (conv=>whnf);left;(conv=>whnf);left;(conv=>whnf);left;(conv=>whnf);refine cR h (fun h=>Zat (ZaP h) rfl) fun a h=>?_;(conv=>whnf);left;(conv=>whnf);refine cR h (fun h=>Zat (ZaP h) rfl) fun b h=>?_;(conv=>whnf);left;(conv=>whnf);refine cR h (fun h=>Zat (Zbw h) rfl) fun d h=>?_;(conv=>whnf);left;(conv=>whnf);refine cR h (fun h=>Zat (Zbw h) rfl) fun e h=>?_;(conv=>whnf);refine aX ?_;(conv=>whnf);left;(conv=>whnf);exact cR h (fun h=>Zat (Zan h) rfl) fun f h=>qR
theorem Za6{r_ r}(h:Zbq F r_=some r):FZ ml 69 [] [.agg (Zae.c r_)] (.agg (Zae.c r)) []:=by
 refine fK Tryz.func69 ?_
 unfold Zbq at h
 (conv=>whnf);left;(conv=>whnf);left;(conv=>whnf);left;(conv=>whnf);exact cR h ZkE fun a h=>qK
theorem Zd7{r_ b r}(h:Zfx F r_ b=some r):FZ ml 68 [] [.agg (Zae.c r_),sM cB b] (.tup [.agg (Zae.c r.1),.bool r.2]) []:=by
 refine fA Tryz.func68 ?_
 unfold Zfx at h
 (conv=>whnf);left;(conv=>whnf);left;(conv=>whnf);left;refine bS h (fun h=>qR) fun h=>?_;(conv=>whnf);left;(conv=>whnf);refine cR h Zjy fun a h=>?_;(conv=>whnf);refine aX ?_;(conv=>whnf);refine oB h fun d h=>?_;(conv=>whnf);refine aX ?_;(conv=>whnf);refine both (b:=(Option.isSome (mget d a))) (fun hb=>?_) fun hb=>?_
 ·replace h:=ZhR h hb;refine Zf5 (ek:=(fun(f:Int)=>(AV.int IntKind.u8 f))) (en:=cJ) a d rfl rfl (ZcB Tryz.underlying5) hb ?_;(conv=>whnf);refine cG [352] h Zi0 fun g h=>?_;(conv=>whnf);refine aX ?_;(conv=>whnf);refine jN h fun l=>jM [(1,sM cB b),(2,pp 0),(4,pp 1),(6,.osw 2 3),(30,.bool l)] (T38 r_++[(1,rF zr0),(2,rT Zaf.c g.2)]) 3 (fun h=>qE [(0,32),(1,64),(2,417)]) fun h=>?_;(conv=>whnf);left;refine bS h (fun h=>qR) fun h=>?_;(conv=>whnf);refine aX ?_;(conv=>whnf);refine oB h fun A h=>?_;(conv=>whnf);refine oB h fun i h=>?_;(conv=>whnf);refine aX ?_;(conv=>whnf);refine aX ?_;(conv=>whnf);refine oB h fun B h=>?_;(conv=>whnf);left;(conv=>whnf);left;refine bS h (fun h=>?_) fun h=>?_
  ·(conv=>whnf);refine aX ?_;(conv=>whnf);refine oB h fun C h=>?_;(conv=>whnf);refine oB h fun D h=>?_;(conv=>whnf);refine aX ?_;(conv=>whnf);left;(conv=>whnf);refine cR h Za6 fun E h=>?_;(conv=>whnf);left;(conv=>whnf);exact cL h ZbP fun G h=>qR
  (conv=>whnf);left;refine bS h (fun h=>?_) fun h=>?_
  ·(conv=>whnf);refine jN h fun m=>jM [(2,pp 0),(4,pp 1),(6,.osw 2 3),(8,aI i.N),(68,.bool m)] (T38 r_++[(1,rF zr0),(2,rT Zaf.c g.2)]) 3 (fun h=>qE [(0,0),(1,1),(2,2)]) fun h=>?_;(conv=>whnf);left;refine bS h (fun h=>qR) fun h=>?_;(conv=>whnf);refine aX ?_;(conv=>whnf);refine gX h fun h=>?_;(conv=>whnf);refine gX h fun h=>?_;(conv=>whnf);refine gS h fun h=>?_;(conv=>whnf);left;(conv=>whnf);refine cR h (fun h=>aE (Zan h)) fun H h=>?_;(conv=>whnf);refine aX ?_;(conv=>whnf);refine oB h fun I h=>?_;(conv=>whnf);refine oB h fun J h=>?_;(conv=>whnf);refine aX ?_;(conv=>whnf);refine oB h fun K h=>?_;(conv=>whnf);refine oB h fun L h=>?_;(conv=>whnf);left;(conv=>whnf);left;(conv=>whnf);refine aX ?_;(conv=>whnf);refine aX ?_;(conv=>whnf);refine gS h fun h=>?_;(conv=>whnf);left;(conv=>whnf);refine aX ?_;(conv=>whnf);left;obtain⟨M,hy,h⟩:=ZaB h;refine⟨_,_,(aE (Za6 hy)),Or.inr ⟨[675],rfl,?_⟩⟩;(conv=>whnf);left;(conv=>whnf);exact cL h ZbP fun O h=>qR
  (conv=>whnf);refine jS h fun o21 ⟨n,o,p,q⟩=>jT [(2,pp 0),(4,pp 1)] [(0,rF [aI r_.Id,sM cJ r_.Conf,aI r_.Term,aI r_.Vote,aI r_.Role,aI r_.Leader,aI (n),aI (o),sM Zab.c p,.str q,aI r_.Commit,aI r_.Left,aI r_.Wait,sM cJ r_.Votes,sM cJ r_.Next,sM cJ r_.Match]),(1,rF zr0)] 2 (fun h k21 e=>?_) fun h=>?_
  ·(conv=>whnf);left;refine bS h (fun h=>?_) fun h=>?_
   ·(conv=>whnf);refine aX ?_;(conv=>whnf);refine oB h fun P h=>?_;(conv=>whnf);refine oB h fun Q h=>?_;(conv=>whnf);left;(conv=>whnf);refine cR h ZhE fun R h=>?_;(conv=>whnf);refine aX ?_;(conv=>whnf);refine oB h fun S h=>?_;(conv=>whnf);refine oB h fun T h=>?_;exact qE [(0,0),(1,1)]
   (conv=>whnf);left;refine bS h (fun h=>?_) fun h=>?_
   ·(conv=>whnf);refine jN h fun s=>jM [(2,pp 0),(4,pp 1),(8,aI i.N),(121,.bool s)] (T38 r_++[(1,rF zr0)]) 2 (fun h=>qE [(0,0),(1,1)]) fun h=>?_;(conv=>whnf);left;refine bS h (fun h=>?_) fun h=>?_
    ·cases h;cases k21;exact rfl
    (conv=>whnf);refine aX ?_;(conv=>whnf);refine gX h fun h=>?_;(conv=>whnf);refine gX h fun h=>?_;(conv=>whnf);refine gS h fun h=>?_;(conv=>whnf);left;(conv=>whnf);obtain⟨U,hy,h⟩:=ZaB h;refine⟨_,_,(ZdD (cons2 (congrArg AV.sl rQ) rfl) (Zat (Zan hy) rfl)),Or.inr ⟨[],rfl,?_⟩⟩;exact qE [(0,0),(1,1)]
   exact qE [(0,0),(1,1)]
  (conv=>whnf);left;(conv=>whnf);refine cR h Za6 fun V h=>?_;(conv=>whnf);left;(conv=>whnf);exact cL h ZbP fun X h=>qR
 replace h:=ZhS h hb;refine Zf6 (ek:=(fun(f:Int)=>(AV.int IntKind.u8 f))) (en:=cJ) a d .esl rfl rfl (ZcB Tryz.underlying5) hb ⟨32,.esl,by kernel_rfl,by kernel_rfl,.refl _⟩ ?_;(conv=>whnf);left;(conv=>whnf);refine cR h (fun h=>aW (Zat (Zfo h) rfl)) fun j h=>?_;(conv=>whnf);refine aX ?_;(conv=>whnf);refine jN h fun t=>jM [(1,sM cB b),(2,pp 0),(4,pp 1),(6,sM Zaf.c j.2),(30,.bool t)] (T38 r_++[(1,rF zr0)]) 2 (fun h=>qE [(0,32),(1,64)]) fun h=>?_;(conv=>whnf);left;refine bS h (fun h=>qR) fun h=>?_;(conv=>whnf);refine aX ?_;(conv=>whnf);refine oB h fun k h=>?_;(conv=>whnf);refine aX ?_;(conv=>whnf);refine aX ?_;(conv=>whnf);refine oB h fun Y h=>?_;(conv=>whnf);left;(conv=>whnf);left;refine bS h (fun h=>?_) fun h=>?_
 ·(conv=>whnf);refine aX ?_;(conv=>whnf);refine oB h fun Z h=>?_;(conv=>whnf);refine aX ?_;(conv=>whnf);left;(conv=>whnf);refine cR h Za6 fun a0 h=>?_;(conv=>whnf);left;(conv=>whnf);exact cL h ZbP fun a1 h=>qR
 (conv=>whnf);left;refine bS h (fun h=>?_) fun h=>?_
 ·(conv=>whnf);refine jN h fun u=>jM [(2,pp 0),(4,pp 1),(6,sM Zaf.c j.2),(8,aI k.N),(68,.bool u)] (T38 r_++[(1,rF zr0)]) 2 (fun h=>qE [(0,0),(1,1)]) fun h=>?_;(conv=>whnf);left;refine bS h (fun h=>qR) fun h=>?_;(conv=>whnf);refine aX ?_;(conv=>whnf);refine gX h fun h=>?_;(conv=>whnf);refine gX h fun h=>?_;(conv=>whnf);refine gS h fun h=>?_;(conv=>whnf);left;(conv=>whnf);refine cR h (fun h=>aE (Zan h)) fun a2 h=>?_;(conv=>whnf);refine aX ?_;(conv=>whnf);refine oB h fun a3 h=>?_;(conv=>whnf);refine aX ?_;(conv=>whnf);refine oB h fun a4 h=>?_;(conv=>whnf);left;(conv=>whnf);left;(conv=>whnf);refine aX ?_;(conv=>whnf);refine aX ?_;(conv=>whnf);refine gS h fun h=>?_;(conv=>whnf);left;(conv=>whnf);refine aX ?_;(conv=>whnf);left;obtain⟨a5,hy,h⟩:=ZaB h;refine⟨_,_,(aE (Za6 hy)),Or.inr ⟨[674],rfl,?_⟩⟩;(conv=>whnf);left;(conv=>whnf);exact cL h ZbP fun a6 h=>qR
 (conv=>whnf);refine jS h fun o43 ⟨v,w,x,y⟩=>jT [(2,pp 0),(4,pp 1)] [(0,rF [aI r_.Id,sM cJ r_.Conf,aI r_.Term,aI r_.Vote,aI r_.Role,aI r_.Leader,aI (v),aI (w),sM Zab.c x,.str y,aI r_.Commit,aI r_.Left,aI r_.Wait,sM cJ r_.Votes,sM cJ r_.Next,sM cJ r_.Match]),(1,rF zr0)] 2 (fun h k43 e=>?_) fun h=>?_
 ·(conv=>whnf);left;refine bS h (fun h=>?_) fun h=>?_
  ·(conv=>whnf);refine aX ?_;(conv=>whnf);refine oB h fun a7 h=>?_;(conv=>whnf);left;(conv=>whnf);refine cR h ZhE fun a8 h=>?_;(conv=>whnf);refine aX ?_;(conv=>whnf);refine oB h fun a9 h=>?_;exact qE [(0,0),(1,1)]
  (conv=>whnf);left;refine bS h (fun h=>?_) fun h=>?_
  ·(conv=>whnf);refine jN h fun z=>jM [(2,pp 0),(4,pp 1),(8,aI k.N),(121,.bool z)] (T38 r_++[(1,rF zr0)]) 2 (fun h=>qE [(0,0),(1,1)]) fun h=>?_;(conv=>whnf);left;refine bS h (fun h=>?_) fun h=>?_
   ·cases h;cases k43;exact rfl
   (conv=>whnf);refine aX ?_;(conv=>whnf);refine gX h fun h=>?_;(conv=>whnf);refine gX h fun h=>?_;(conv=>whnf);refine gS h fun h=>?_;(conv=>whnf);left;(conv=>whnf);obtain⟨aA,hy,h⟩:=ZaB h;refine⟨_,_,(ZdD (cons2 (congrArg AV.sl rQ) rfl) (Zat (Zan hy) rfl)),Or.inr ⟨[],rfl,?_⟩⟩;exact qE [(0,0),(1,1)]
  exact qE [(0,0),(1,1)]
 (conv=>whnf);left;(conv=>whnf);refine cR h Za6 fun aB h=>?_;(conv=>whnf);left;(conv=>whnf);exact cL h ZbP fun aC h=>qR
theorem Zim{id U c fs l r}(h:Zd8 F id U c fs l=some (Sum.inl r)):FZ ml 52 (T6 c fs l) [pp 0,aI id,sM cJ U] (.tup [AV.con (Value.pointer none),.agg (Zae.c r.1),aI r.2.1]) (T15 r.2.2.1 r.2.2.2.1 r.2.2.2.2):=by
 refine fG Tryz.func52 ?_
 unfold Zd8 at h
 (conv=>whnf);left;(conv=>whnf);left;(conv=>whnf);refine cR h Zip fun a h=>?_;(conv=>whnf);left;(conv=>whnf);left;(conv=>whnf);left;refine bS h (fun h=>?_) fun h=>?_
 ·(conv=>whnf);left;cases h;exact gW [(0,0),(1,1),(3,2)]
 obtain⟨b,hy,h⟩:=ZaB h;rcases b with b|b
 ·replace h:=ZdL h;(conv=>whnf);refine cg [0,1,2] (Zhy hy) ?_;(conv=>whnf);left;refine bS h (fun h=>?_) fun h=>?_
  ·(conv=>whnf);left;cases h;exact gW [(0,0),(1,1),(2,2),(3,644)]
  (conv=>whnf);refine jS h fun o0 ⟨V,X,Y,Z,a0,a1,a2,a3,a4,a5,a6,a7,a8,a9,aA,aB⟩=>jT [(7,pp 3),(9,pp 4),(11,AV.con (Value.pointer none))] (T22 b.2.1 b.2.2.1 (V) X (Y) (Z) (a0) (a1) (a2) (a3) a4 a5 (a6) (a7) (a8) a9 aA aB b.2.2.2.2) 6 (fun h k0 e=>?_) fun h=>?_
  ·(conv=>whnf);left;(conv=>whnf);refine lI (fun n' ⟨g,m,n,o,p,q,s,t,u,v,w,x,y,z,A,B,C⟩=>Zc7 F b n' g m n o p q s t u v w x y z A B C) (fun⟨g,m,n,o,p,q,s,t,u,v,w,x,y,z,A,B,C⟩=>[(7,pp 3),(9,pp 4),(11,AV.con (Value.pointer none)),(40,.osw 5 1),(41,aI (@Nat.cast Int instNatCastInt (List.length (List.map (cSl cB) b.2.2.2.1)))),(42,aI g)]) (fun⟨g,m,n,o,p,q,s,t,u,v,w,x,y,z,A,B,C⟩=>(T21 b.2.1 b.2.2.1 m n o p q s t u v w x y z A B C b.2.2.2.1 b.2.2.2.2)) 7 ((0:Int),a.1.Id,a.1.Conf,a.1.Term,a.1.Vote,a.1.Role,a.1.Leader,a.1.Trail.Base,a.1.Trail.BaseTerm,a.1.Trail.Entries,a.1.Snap,a.1.Commit,a.1.Left,a.1.Wait,a.1.Votes,a.1.Next,a.1.Match) [(0,0),(1,1),(2,2),(3,64),(4,320),(5,643),(6,644)] h ?_;rintro aC ⟨g,m,n,o,p,q,s,t,u,v,w,x,y,z,A,B,C⟩ h;dsimp only at h;rw[Zc7.eq_2]at h;(conv=>whnf);left;refine bS h (fun h=>?_) fun h=>?_
   ·(conv=>whnf);left;(conv=>whnf);refine gX h fun h=>?_;(conv=>whnf);refine oB h fun aZ h=>?_;(conv=>whnf);refine oB h fun b0 h=>?_;(conv=>whnf);left;(conv=>whnf);refine cR h Zd7 fun d h=>?_;(conv=>whnf);left;(conv=>whnf);left;refine bS h (fun h=>?_) fun h=>?_
    ·(conv=>whnf);left;cases h;cases k0;exact gW [(0,0),(1,1),(2,2),(3,6)]
    exact rE (aC,(IntKind.wrap IntKind.i64 (g+(1:Int))),d.1.Id,d.1.Conf,d.1.Term,d.1.Vote,d.1.Role,d.1.Leader,d.1.Trail.Base,d.1.Trail.BaseTerm,d.1.Trail.Entries,d.1.Snap,d.1.Commit,d.1.Left,d.1.Wait,d.1.Votes,d.1.Next,d.1.Match) (ii 7 []) h
   exact qE (ii 5 [(5,6)])
  (conv=>whnf);left;(conv=>whnf);left;(conv=>whnf);left;(conv=>whnf);refine cR h Za6 fun b1 h=>?_;(conv=>whnf);refine aX ?_;cases h
 replace h:=ZdK h;(conv=>whnf);refine cg [0,1,2] (Zhx hy) ?_;(conv=>whnf);left;refine bS h (fun h=>?_) fun h=>?_
 ·(conv=>whnf);left;cases h;exact gW [(0,0),(1,1),(2,2),(3,644)]
 (conv=>whnf);refine jS h fun o1 ⟨aD,aF,aG,aH,aJ,aK,aL,aM,aN,aO,aP,aQ,aR,aS,aT,aU,aV⟩=>jT [(7,pp 3),(9,pp 4),(11,pp 5)] (T8 b.2.2.1 b.2.2.2.1 0 0 0 0 0 0 0 [] 0 0 (aD) (aF) aG (aH) (aJ) (aK) (aL) (aM) (aN) aO aP (aQ) (aR) (aS) aT aU aV b.2.2.2.2.1 b.2.2.2.2.2.1 b.2.2.2.2.2.2.1 b.2.2.2.2.2.2.2) 7 (fun h k1 e=>?_) fun h=>?_
 ·(conv=>whnf);left;(conv=>whnf);refine lI (fun n' ⟨i,j,k,D,E,G,H,I,J,K,L,M,N,O,P,Q,R,S,T⟩=>ZbW F b n' i j k D E G H I J K L M N O P Q R S T) (fun⟨i,j,k,D,E,G,H,I,J,K,L,M,N,O,P,Q,R,S,T⟩=>[(7,pp 3),(9,pp 4),(11,pp 5),(40,sM (cSl cB) b.1),(41,aI i),(42,aI j)]) (fun⟨i,j,k,D,E,G,H,I,J,K,L,M,N,O,P,Q,R,S,T⟩=>(T8 b.2.2.1 b.2.2.2.1 0 0 0 0 0 0 0 [] 0 0 k D E G H I J K L M N O P Q R S T b.2.2.2.2.1 b.2.2.2.2.2.1 b.2.2.2.2.2.2.1 b.2.2.2.2.2.2.2)) 7 ((@Nat.cast Int instNatCastInt (List.length (List.map (cSl cB) b.1))),(0:Int),(0:Int),a.1.Id,a.1.Conf,a.1.Term,a.1.Vote,a.1.Role,a.1.Leader,a.1.Trail.Base,a.1.Trail.BaseTerm,a.1.Trail.Entries,a.1.Snap,a.1.Commit,a.1.Left,a.1.Wait,a.1.Votes,a.1.Next,a.1.Match) [(0,0),(1,1),(2,2),(3,64),(4,320),(5,643),(6,644)] h ?_;rintro aY ⟨i,j,k,D,E,G,H,I,J,K,L,M,N,O,P,Q,R,S,T⟩ h;dsimp only at h;rw[ZbW.eq_2]at h;(conv=>whnf);left;refine bS h (fun h=>?_) fun h=>?_
  ·(conv=>whnf);left;(conv=>whnf);refine gX h fun h=>?_;(conv=>whnf);refine oB h fun b2 h=>?_;(conv=>whnf);left;(conv=>whnf);refine cR h Zd7 fun f h=>?_;(conv=>whnf);left;(conv=>whnf);left;refine bS h (fun h=>?_) fun h=>?_
   ·(conv=>whnf);left;cases h;cases k1;exact gW [(0,0),(1,1),(2,2),(3,6)]
   exact rE (aY,i,(IntKind.wrap IntKind.i64 (j+(1:Int))),k,f.1.Id,f.1.Conf,f.1.Term,f.1.Vote,f.1.Role,f.1.Leader,f.1.Trail.Base,f.1.Trail.BaseTerm,f.1.Trail.Entries,f.1.Snap,f.1.Commit,f.1.Left,f.1.Wait,f.1.Votes,f.1.Next,f.1.Match) (ii 7 []) h
  exact qE (ii 7 [])
 (conv=>whnf);left;(conv=>whnf);left;(conv=>whnf);left;(conv=>whnf);refine cR h Za6 fun b3 h=>?_;(conv=>whnf);refine aX ?_;cases h
theorem Zil{id U c fs l r}(h:Zd8 F id U c fs l=some (Sum.inr (Sum.inl r))):FZ ml 52 (T6 c fs l) [pp 0,aI id,sM cJ U] (.tup [pp 3,.agg (Zae.c r.1),aI r.2.1]) (T29 r.2.2.1 r.2.2.2.1++[(3,rF ([AV.con (Value.pointer none)]++Zae.c r.2.2.2.2.1)),(4,rT Zaa.c r.2.2.2.2.2)]):=by
 refine fG Tryz.func52 ?_
 unfold Zd8 at h
 (conv=>whnf);left;(conv=>whnf);left;(conv=>whnf);refine cR h Zip fun a h=>?_;(conv=>whnf);left;(conv=>whnf);left;(conv=>whnf);left;refine bS h (fun h=>?_) fun h=>?_
 ·(conv=>whnf);left;cases h
 obtain⟨b,hy,h⟩:=ZaB h;rcases b with b|b
 ·replace h:=ZdL h;(conv=>whnf);refine cg [0,1,2] (Zhy hy) ?_;(conv=>whnf);left;refine bS h (fun h=>?_) fun h=>?_
  ·(conv=>whnf);left;cases h
  (conv=>whnf);refine jS h fun o0 ⟨V,X,Y,Z,a0,a1,a2,a3,a4,a5,a6,a7,a8,a9,aA,aB⟩=>jT [(7,pp 3),(9,pp 4),(11,AV.con (Value.pointer none))] (T22 b.2.1 b.2.2.1 (V) X (Y) (Z) (a0) (a1) (a2) (a3) a4 a5 (a6) (a7) (a8) a9 aA aB b.2.2.2.2) 6 (fun h k0 e=>?_) fun h=>?_
  ·(conv=>whnf);left;(conv=>whnf);refine lI (fun n' ⟨g,m,n,o,p,q,s,t,u,v,w,x,y,z,A,B,C⟩=>Zc7 F b n' g m n o p q s t u v w x y z A B C) (fun⟨g,m,n,o,p,q,s,t,u,v,w,x,y,z,A,B,C⟩=>[(7,pp 3),(9,pp 4),(11,AV.con (Value.pointer none)),(40,.osw 5 1),(41,aI (@Nat.cast Int instNatCastInt (List.length (List.map (cSl cB) b.2.2.2.1)))),(42,aI g)]) (fun⟨g,m,n,o,p,q,s,t,u,v,w,x,y,z,A,B,C⟩=>(T21 b.2.1 b.2.2.1 m n o p q s t u v w x y z A B C b.2.2.2.1 b.2.2.2.2)) 7 ((0:Int),a.1.Id,a.1.Conf,a.1.Term,a.1.Vote,a.1.Role,a.1.Leader,a.1.Trail.Base,a.1.Trail.BaseTerm,a.1.Trail.Entries,a.1.Snap,a.1.Commit,a.1.Left,a.1.Wait,a.1.Votes,a.1.Next,a.1.Match) [(0,0),(1,1),(2,2),(3,64),(4,320),(5,643),(6,644)] h ?_;rintro aC ⟨g,m,n,o,p,q,s,t,u,v,w,x,y,z,A,B,C⟩ h;dsimp only at h;rw[Zc7.eq_2]at h;(conv=>whnf);left;refine bS h (fun h=>?_) fun h=>?_
   ·(conv=>whnf);left;(conv=>whnf);refine gX h fun h=>?_;(conv=>whnf);refine oB h fun aZ h=>?_;(conv=>whnf);refine oB h fun b0 h=>?_;(conv=>whnf);left;(conv=>whnf);refine cR h Zd7 fun d h=>?_;(conv=>whnf);left;(conv=>whnf);left;refine bS h (fun h=>?_) fun h=>?_
    ·(conv=>whnf);left;cases h;cases k0
    exact rE (aC,(IntKind.wrap IntKind.i64 (g+(1:Int))),d.1.Id,d.1.Conf,d.1.Term,d.1.Vote,d.1.Role,d.1.Leader,d.1.Trail.Base,d.1.Trail.BaseTerm,d.1.Trail.Entries,d.1.Snap,d.1.Commit,d.1.Left,d.1.Wait,d.1.Votes,d.1.Next,d.1.Match) (ii 7 []) h
   exact qE (ii 5 [(5,6)])
  (conv=>whnf);left;(conv=>whnf);left;(conv=>whnf);left;(conv=>whnf);refine cR h Za6 fun b1 h=>?_;(conv=>whnf);refine aX ?_;(conv=>whnf);obtain rfl:=Sum.inl.inj (Sum.inr.inj (Option.some.inj h));exact gI [(0,0),(1,1),(2,2),(3,102),(4,5)]
 replace h:=ZdK h;(conv=>whnf);refine cg [0,1,2] (Zhx hy) ?_;(conv=>whnf);left;refine bS h (fun h=>?_) fun h=>?_
 ·(conv=>whnf);left;cases h
 (conv=>whnf);refine jS h fun o1 ⟨aD,aF,aG,aH,aJ,aK,aL,aM,aN,aO,aP,aQ,aR,aS,aT,aU,aV⟩=>jT [(7,pp 3),(9,pp 4),(11,pp 5)] (T8 b.2.2.1 b.2.2.2.1 0 0 0 0 0 0 0 [] 0 0 (aD) (aF) aG (aH) (aJ) (aK) (aL) (aM) (aN) aO aP (aQ) (aR) (aS) aT aU aV b.2.2.2.2.1 b.2.2.2.2.2.1 b.2.2.2.2.2.2.1 b.2.2.2.2.2.2.2) 7 (fun h k1 e=>?_) fun h=>?_
 ·(conv=>whnf);left;(conv=>whnf);refine lI (fun n' ⟨i,j,k,D,E,G,H,I,J,K,L,M,N,O,P,Q,R,S,T⟩=>ZbW F b n' i j k D E G H I J K L M N O P Q R S T) (fun⟨i,j,k,D,E,G,H,I,J,K,L,M,N,O,P,Q,R,S,T⟩=>[(7,pp 3),(9,pp 4),(11,pp 5),(40,sM (cSl cB) b.1),(41,aI i),(42,aI j)]) (fun⟨i,j,k,D,E,G,H,I,J,K,L,M,N,O,P,Q,R,S,T⟩=>(T8 b.2.2.1 b.2.2.2.1 0 0 0 0 0 0 0 [] 0 0 k D E G H I J K L M N O P Q R S T b.2.2.2.2.1 b.2.2.2.2.2.1 b.2.2.2.2.2.2.1 b.2.2.2.2.2.2.2)) 7 ((@Nat.cast Int instNatCastInt (List.length (List.map (cSl cB) b.1))),(0:Int),(0:Int),a.1.Id,a.1.Conf,a.1.Term,a.1.Vote,a.1.Role,a.1.Leader,a.1.Trail.Base,a.1.Trail.BaseTerm,a.1.Trail.Entries,a.1.Snap,a.1.Commit,a.1.Left,a.1.Wait,a.1.Votes,a.1.Next,a.1.Match) [(0,0),(1,1),(2,2),(3,64),(4,320),(5,643),(6,644)] h ?_;rintro aY ⟨i,j,k,D,E,G,H,I,J,K,L,M,N,O,P,Q,R,S,T⟩ h;dsimp only at h;rw[ZbW.eq_2]at h;(conv=>whnf);left;refine bS h (fun h=>?_) fun h=>?_
  ·(conv=>whnf);left;(conv=>whnf);refine gX h fun h=>?_;(conv=>whnf);refine oB h fun b2 h=>?_;(conv=>whnf);left;(conv=>whnf);refine cR h Zd7 fun f h=>?_;(conv=>whnf);left;(conv=>whnf);left;refine bS h (fun h=>?_) fun h=>?_
   ·(conv=>whnf);left;cases h;cases k1
   exact rE (aY,i,(IntKind.wrap IntKind.i64 (j+(1:Int))),k,f.1.Id,f.1.Conf,f.1.Term,f.1.Vote,f.1.Role,f.1.Leader,f.1.Trail.Base,f.1.Trail.BaseTerm,f.1.Trail.Entries,f.1.Snap,f.1.Commit,f.1.Left,f.1.Wait,f.1.Votes,f.1.Next,f.1.Match) (ii 7 []) h
  exact qE (ii 7 [])
 (conv=>whnf);left;(conv=>whnf);left;(conv=>whnf);left;(conv=>whnf);refine cR h Za6 fun b3 h=>?_;(conv=>whnf);refine aX ?_;cases h
theorem Zik{id U c fs l r}(h:Zd8 F id U c fs l=some (Sum.inr (Sum.inr r))):FZ ml 52 (T6 c fs l) [pp 0,aI id,sM cJ U] (.tup [pp 3,.agg (Zae.c r.1),aI r.2.1]) (T29 r.2.2.1 r.2.2.2.1++[(3,rF ([pp 5]++Zae.c r.2.2.2.2.1)),(4,rT Zaa.c r.2.2.2.2.2.1),(5,rF [pp 0,.str r.2.2.2.2.2.2.1,aI r.2.2.2.2.2.2.2.1,aI r.2.2.2.2.2.2.2.2])]):=by
 refine fG Tryz.func52 ?_
 unfold Zd8 at h
 (conv=>whnf);left;(conv=>whnf);left;(conv=>whnf);refine cR h Zip fun a h=>?_;(conv=>whnf);left;(conv=>whnf);left;(conv=>whnf);left;refine bS h (fun h=>?_) fun h=>?_
 ·(conv=>whnf);left;cases h
 obtain⟨b,hy,h⟩:=ZaB h;rcases b with b|b
 ·replace h:=ZdL h;(conv=>whnf);refine cg [0,1,2] (Zhy hy) ?_;(conv=>whnf);left;refine bS h (fun h=>?_) fun h=>?_
  ·(conv=>whnf);left;cases h
  (conv=>whnf);refine jS h fun o0 ⟨V,X,Y,Z,a0,a1,a2,a3,a4,a5,a6,a7,a8,a9,aA,aB⟩=>jT [(7,pp 3),(9,pp 4),(11,AV.con (Value.pointer none))] (T22 b.2.1 b.2.2.1 (V) X (Y) (Z) (a0) (a1) (a2) (a3) a4 a5 (a6) (a7) (a8) a9 aA aB b.2.2.2.2) 6 (fun h k0 e=>?_) fun h=>?_
  ·(conv=>whnf);left;(conv=>whnf);refine lI (fun n' ⟨g,m,n,o,p,q,s,t,u,v,w,x,y,z,A,B,C⟩=>Zc7 F b n' g m n o p q s t u v w x y z A B C) (fun⟨g,m,n,o,p,q,s,t,u,v,w,x,y,z,A,B,C⟩=>[(7,pp 3),(9,pp 4),(11,AV.con (Value.pointer none)),(40,.osw 5 1),(41,aI (@Nat.cast Int instNatCastInt (List.length (List.map (cSl cB) b.2.2.2.1)))),(42,aI g)]) (fun⟨g,m,n,o,p,q,s,t,u,v,w,x,y,z,A,B,C⟩=>(T21 b.2.1 b.2.2.1 m n o p q s t u v w x y z A B C b.2.2.2.1 b.2.2.2.2)) 7 ((0:Int),a.1.Id,a.1.Conf,a.1.Term,a.1.Vote,a.1.Role,a.1.Leader,a.1.Trail.Base,a.1.Trail.BaseTerm,a.1.Trail.Entries,a.1.Snap,a.1.Commit,a.1.Left,a.1.Wait,a.1.Votes,a.1.Next,a.1.Match) [(0,0),(1,1),(2,2),(3,64),(4,320),(5,643),(6,644)] h ?_;rintro aC ⟨g,m,n,o,p,q,s,t,u,v,w,x,y,z,A,B,C⟩ h;dsimp only at h;rw[Zc7.eq_2]at h;(conv=>whnf);left;refine bS h (fun h=>?_) fun h=>?_
   ·(conv=>whnf);left;(conv=>whnf);refine gX h fun h=>?_;(conv=>whnf);refine oB h fun aZ h=>?_;(conv=>whnf);refine oB h fun b0 h=>?_;(conv=>whnf);left;(conv=>whnf);refine cR h Zd7 fun d h=>?_;(conv=>whnf);left;(conv=>whnf);left;refine bS h (fun h=>?_) fun h=>?_
    ·(conv=>whnf);left;cases h;cases k0
    exact rE (aC,(IntKind.wrap IntKind.i64 (g+(1:Int))),d.1.Id,d.1.Conf,d.1.Term,d.1.Vote,d.1.Role,d.1.Leader,d.1.Trail.Base,d.1.Trail.BaseTerm,d.1.Trail.Entries,d.1.Snap,d.1.Commit,d.1.Left,d.1.Wait,d.1.Votes,d.1.Next,d.1.Match) (ii 7 []) h
   exact qE (ii 5 [(5,6)])
  (conv=>whnf);left;(conv=>whnf);left;(conv=>whnf);left;(conv=>whnf);refine cR h Za6 fun b1 h=>?_;(conv=>whnf);refine aX ?_;cases h
 replace h:=ZdK h;(conv=>whnf);refine cg [0,1,2] (Zhx hy) ?_;(conv=>whnf);left;refine bS h (fun h=>?_) fun h=>?_
 ·(conv=>whnf);left;cases h
 (conv=>whnf);refine jS h fun o1 ⟨aD,aF,aG,aH,aJ,aK,aL,aM,aN,aO,aP,aQ,aR,aS,aT,aU,aV⟩=>jT [(7,pp 3),(9,pp 4),(11,pp 5)] (T8 b.2.2.1 b.2.2.2.1 0 0 0 0 0 0 0 [] 0 0 (aD) (aF) aG (aH) (aJ) (aK) (aL) (aM) (aN) aO aP (aQ) (aR) (aS) aT aU aV b.2.2.2.2.1 b.2.2.2.2.2.1 b.2.2.2.2.2.2.1 b.2.2.2.2.2.2.2) 7 (fun h k1 e=>?_) fun h=>?_
 ·(conv=>whnf);left;(conv=>whnf);refine lI (fun n' ⟨i,j,k,D,E,G,H,I,J,K,L,M,N,O,P,Q,R,S,T⟩=>ZbW F b n' i j k D E G H I J K L M N O P Q R S T) (fun⟨i,j,k,D,E,G,H,I,J,K,L,M,N,O,P,Q,R,S,T⟩=>[(7,pp 3),(9,pp 4),(11,pp 5),(40,sM (cSl cB) b.1),(41,aI i),(42,aI j)]) (fun⟨i,j,k,D,E,G,H,I,J,K,L,M,N,O,P,Q,R,S,T⟩=>(T8 b.2.2.1 b.2.2.2.1 0 0 0 0 0 0 0 [] 0 0 k D E G H I J K L M N O P Q R S T b.2.2.2.2.1 b.2.2.2.2.2.1 b.2.2.2.2.2.2.1 b.2.2.2.2.2.2.2)) 7 ((@Nat.cast Int instNatCastInt (List.length (List.map (cSl cB) b.1))),(0:Int),(0:Int),a.1.Id,a.1.Conf,a.1.Term,a.1.Vote,a.1.Role,a.1.Leader,a.1.Trail.Base,a.1.Trail.BaseTerm,a.1.Trail.Entries,a.1.Snap,a.1.Commit,a.1.Left,a.1.Wait,a.1.Votes,a.1.Next,a.1.Match) [(0,0),(1,1),(2,2),(3,64),(4,320),(5,643),(6,644)] h ?_;rintro aY ⟨i,j,k,D,E,G,H,I,J,K,L,M,N,O,P,Q,R,S,T⟩ h;dsimp only at h;rw[ZbW.eq_2]at h;(conv=>whnf);left;refine bS h (fun h=>?_) fun h=>?_
  ·(conv=>whnf);left;(conv=>whnf);refine gX h fun h=>?_;(conv=>whnf);refine oB h fun b2 h=>?_;(conv=>whnf);left;(conv=>whnf);refine cR h Zd7 fun f h=>?_;(conv=>whnf);left;(conv=>whnf);left;refine bS h (fun h=>?_) fun h=>?_
   ·(conv=>whnf);left;cases h;cases k1
   exact rE (aY,i,(IntKind.wrap IntKind.i64 (j+(1:Int))),k,f.1.Id,f.1.Conf,f.1.Term,f.1.Vote,f.1.Role,f.1.Leader,f.1.Trail.Base,f.1.Trail.BaseTerm,f.1.Trail.Entries,f.1.Snap,f.1.Commit,f.1.Left,f.1.Wait,f.1.Votes,f.1.Next,f.1.Match) (ii 7 []) h
  exact qE (ii 7 [])
 (conv=>whnf);left;(conv=>whnf);left;(conv=>whnf);left;(conv=>whnf);refine cR h Za6 fun b3 h=>?_;(conv=>whnf);refine aX ?_;(conv=>whnf);obtain rfl:=Sum.inr.inj (Sum.inr.inj (Option.some.inj h));exact gI [(0,0),(1,1),(2,2),(3,103),(4,6),(5,5)]
theorem ZcS{s r}(h:Zcr F s=some r):FZ ml 53 [] [.str s] (.tup [aI r.1,.int IntKind.u32 r.2]) []:=by
 refine fA Tryz.func53 ?_
 unfold Zcr at h
 (conv=>whnf);left;(conv=>whnf);refine gX h fun h=>?_;(conv=>whnf);left;obtain⟨a,hy,h⟩:=ZaB h;refine⟨_,_,(ZdD (cons2 (congrArg AV.sl rQ) (cons2 (congrArg AV.sl rQ) rfl)) (Zat (Zfo hy) rfl)),Or.inr ⟨[96,160],rfl,?_⟩⟩;(conv=>whnf);left;refine bS h (fun h=>qR) fun h=>?_;(conv=>whnf);refine aX ?_;(conv=>whnf);refine oB h fun b h=>?_;(conv=>whnf);refine aX ?_;(conv=>whnf);refine oB h fun c h=>?_;exact qR
end Go.T
