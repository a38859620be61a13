import Derived.Test.YtjpmdkgonlmddaaGreatDoorCertC
set_option linter.unusedVariables false
set_option maxRecDepth 200000
set_option maxHeartbeats 4000000
namespace Go.T
open Go Go.Ab Go.Proofs
variable {ml:Gv}{F:Nat}
theorem MI{f dm r}(h:xM F f dm=some r):FZ ml 126 [] [.agg (bn.c f),.agg (bn.c dm)] (.an 0 1) (uU r):=by
 refine fG Tryz.func126 ?_
 unfold xM at h
 (conv=>whnf);left;(conv=>whnf);left;(conv=>whnf);refine jN h fun l=>jM [(2,pp 0),(3,pp 1),(5,.an 2 1),(21,.bool l)] (ln f++[(1,rF (bn.c dm)),(2,rT (fe cB) [])]) 3 (fun h=>?_) fun h=>?_
 ·(conv=>whnf);left;refine bS h (fun h=>?_) fun h=>?_
  ·cases h;exact eE [(0,32),(1,64),(2,128)]
  cases h;exact eE [(0,32),(1,64),(2,128)]
 (conv=>whnf);refine jN h fun i=>jM [(2,pp 0),(3,pp 1),(5,.an 2 1)] (ln f++[(1,rF (bn.c dm)),(2,rT (fe cB) i)]) 3 (fun h=>?_) fun h=>?_
 ·(conv=>whnf);left;refine bS h (fun h=>?_) fun h=>?_
  ·(conv=>whnf);left;(conv=>whnf);refine cL h uG fun w h=>?_;(conv=>whnf);left;(conv=>whnf);refine cL h uG fun x h=>?_;(conv=>whnf);left;(conv=>whnf);left;obtain⟨y,hy,h⟩:=dS h;refine⟨_,_,(lg (bZ rfl (bZ (YF AV.sl rQ) rfl)) (Ed hy)),Or.inr ⟨[227],rfl,?_⟩⟩;(conv=>whnf);left;(conv=>whnf);refine aX ?_;(conv=>whnf);refine aX ?_;(conv=>whnf);refine gS h fun h=>?_;(conv=>whnf);refine aX ?_;cases h;exact eE [(0,0),(1,1),(2,323)]
  exact qE [(0,0),(1,1),(2,2)]
 (conv=>whnf);left;(conv=>whnf);refine jN h fun m=>jM [(3,pp 0),(5,.an 1 1),(6,pp 2),(55,.bool m)] (ln dm++[(1,rT (fe cB) i),(2,rF (cD.c f.Trail))]) 3 (fun h=>qE [(0,1),(1,2),(2,67)]) fun h=>?_;(conv=>whnf);refine jN h fun⟨g,a,d,b⟩=>jM [(3,pp 0),(5,.an 1 1),(6,pp 2)] (yP dm g a d b) 3 (fun h=>?_) fun h=>?_
 ·(conv=>whnf);left;refine bS h (fun h=>?_) fun h=>?_
  ·(conv=>whnf);left;(conv=>whnf);refine cL h uG fun z h=>?_;(conv=>whnf);left;(conv=>whnf);refine cL h uG fun A h=>?_;(conv=>whnf);left;(conv=>whnf);refine cL h MH fun B h=>?_;(conv=>whnf);left;(conv=>whnf);left;obtain⟨C,hy,h⟩:=dS h;refine⟨_,_,(lg (bZ rfl (bZ (YF AV.sl rQ) rfl)) (Ed hy)),Or.inr ⟨[387],rfl,?_⟩⟩;(conv=>whnf);left;(conv=>whnf);refine aX ?_;(conv=>whnf);refine aX ?_;(conv=>whnf);refine gS h fun h=>?_;(conv=>whnf);refine aX ?_;(conv=>whnf);left;(conv=>whnf);refine cR h HX fun D h=>?_;cases h;exact eE [(0,0),(1,483),(2,2)]
  exact qE [(0,0),(1,1),(2,2)]
 (conv=>whnf);refine jN h fun e=>jM [(3,pp 0),(5,.an 1 1),(6,pp 2),(7,aI e)] (yP dm g a d b) 3 (fun h=>?_) fun h=>?_
 ·(conv=>whnf);left;(conv=>whnf);refine lI (fun n' x'=>wD F dm b n' x') (fun x'=>[(3,pp 0),(5,.an 1 1),(6,pp 2),(7,aI x')]) (fun x'=>(yP dm g a d b)) 3 (0:Int) [(0,0),(1,1),(2,2)] h ?_;rintro n j h;rw[wD.eq_2]at h;(conv=>whnf);refine jN h fun o=>jM [(3,pp 0),(5,.an 1 1),(6,pp 2),(7,aI j),(106,.bool o)] (yP dm g a d b) 3 (fun h=>?_) fun h=>?_
  ·(conv=>whnf);left;refine bS h (fun h=>?_) fun h=>?_
   ·(conv=>whnf);refine bS h (fun h=>?_) fun h=>?_
    ·(conv=>whnf);refine gX h fun h=>?_;(conv=>whnf);refine oB h fun E h=>?_;(conv=>whnf);refine gX h fun h=>?_;(conv=>whnf);refine oB h fun G h=>?_;exact qE [(0,0),(1,1),(2,2)]
    exact qE [(0,0),(1,1),(2,2)]
   exact qE [(0,0),(1,1),(2,2)]
  (conv=>whnf);left;refine bS h (fun h=>?_) fun h=>?_
  ·(conv=>whnf);left;exact rE (n,(IntKind.wrap IntKind.i64 (j+(1:Int)))) [(0,0),(1,1),(2,2)] h
  exact qE [(0,0),(1,1),(2,2)]
 (conv=>whnf);refine aX ?_;(conv=>whnf);refine gX h fun h=>?_;(conv=>whnf);refine gS h fun h=>?_;(conv=>whnf);refine gS h fun h=>?_;(conv=>whnf);refine jN h fun k=>jM [(3,pp 0),(5,.an 1 1),(6,pp 2),(7,aI e)] (yP dm k a d b) 3 (fun h=>?_) fun h=>?_
 ·(conv=>whnf);left;(conv=>whnf);refine lI (fun n' x'=>wE F dm a e n' x'.1 x'.2) (fun x'=>[(3,pp 0),(5,.an 1 1),(6,pp 2),(7,aI e),(113,sM bj.c (List.drop (Int.toNat e) dm.Trail.Entries)),(114,aI (@Nat.cast Int instNatCastInt (List.length (@cut (@List AV) (some (Operand.tmp 112)) none (List.map bj.c dm.Trail.Entries) (Int.toNat e) (List.length (List.map bj.c dm.Trail.Entries)))))),(115,aI x'.1)]) (fun x'=>(yP dm x'.2 a d b)) 3 ((0:Int),g) [(0,0),(1,1),(2,2)] h ?_;rintro p ⟨q,s⟩ h;dsimp only at h;rw[wE.eq_2]at h;(conv=>whnf);left;refine bS h (fun h=>?_) fun h=>?_
  ·(conv=>whnf);left;(conv=>whnf);refine gX h fun h=>?_;(conv=>whnf);refine oB h fun H h=>?_;(conv=>whnf);left;(conv=>whnf);left;(conv=>whnf);refine cL h uG fun I h=>?_;(conv=>whnf);left;(conv=>whnf);refine cL h uG fun J h=>?_;(conv=>whnf);left;(conv=>whnf);refine cL h MH fun K h=>?_;(conv=>whnf);left;(conv=>whnf);left;obtain⟨t,hy,h⟩:=dS h;refine⟨_,_,(lg (bZ rfl (bZ (YF AV.sl rQ) rfl)) (Ed hy)),Or.inr ⟨[707],rfl,?_⟩⟩;(conv=>whnf);left;(conv=>whnf);refine aX ?_;(conv=>whnf);refine aX ?_;(conv=>whnf);refine gS h fun h=>?_;(conv=>whnf);refine aX ?_;exact rE (p,(IntKind.wrap IntKind.i64 (q+(1:Int))),(s++(t::[]))) [(0,0),(1,803),(2,2)] h
  exact qE [(0,0),(1,1),(2,2)]
 (conv=>whnf);refine jN h fun u=>jM [(5,.an 0 1),(6,pp 1),(7,aI e),(152,.bool u)] (uU k++[(1,rF [aI a,aI d,sM bj.c b])]) 2 (fun h=>qE [(0,1),(1,2)]) fun h=>?_;(conv=>whnf);refine jN h fun v=>jM [(5,.an 0 1)] (uU v) 1 (fun h=>?_) fun h=>?_
 ·(conv=>whnf);left;refine bS h (fun h=>?_) fun h=>?_
  ·(conv=>whnf);left;(conv=>whnf);refine cL h uG fun L h=>?_;(conv=>whnf);left;(conv=>whnf);left;obtain⟨M,hy,h⟩:=dS h;refine⟨_,_,(lg (bZ rfl (bZ (YF AV.sl rQ) rfl)) (Ed hy)),Or.inr ⟨[194],rfl,?_⟩⟩;(conv=>whnf);left;(conv=>whnf);refine aX ?_;(conv=>whnf);refine aX ?_;(conv=>whnf);refine gS h fun h=>?_;cases h;exact eE [(0,290)]
  exact qE [(0,0)]
 exact qG [(0,0)]
theorem Xl{rec c a b d fs l r}(h:uO F rec c a b d fs l=some r):FZ ml 127 (Cc c a b d fs l) [pp 0,sM cB rec] (aI r.1) (yR r.2.1 r.2.2.1 r.2.2.2.1 r.2.2.2.2.1 r.2.2.2.2.2.1 r.2.2.2.2.2.2):=by
 refine fG Tryz.func127 ?_
 unfold uO at h
 (conv=>whnf);left;(conv=>whnf);left;(conv=>whnf);left;(conv=>whnf);refine cR h Mx fun e h=>?_;(conv=>whnf);left;refine bS h (fun h=>qG [(0,0),(1,1),(2,2),(4,3)]) fun h=>?_;(conv=>whnf);exact cG [1,2,3] h MR fun f h=>qG (ii 4 [(4,931)])
theorem Ic{r_ rf c m n o fs l r}(h:yI F r_ rf c m n o fs l=some r):FZ ml 83 (yS rf c m n o fs l) [pp 0,.agg (bn.c r_)] (aI r.1) (Iw r.2.1 r.2.2.1 r.2.2.2.1 r.2.2.2.2.1 r.2.2.2.2.2.1 r.2.2.2.2.2.2.1 r.2.2.2.2.2.2.2):=by
 refine fG Tryz.func83 ?_
 unfold yI at h
 (conv=>whnf);left;(conv=>whnf);refine jN h fun q=>jM [(0,pp 0),(3,pp 5),(41,.bool q)] (yS rf c m n o fs l++[(5,rF (bn.c r_))]) 6 (fun h=>?_) fun h=>?_
 ·(conv=>whnf);left;(conv=>whnf);left;(conv=>whnf);refine cL h pD fun z h=>?_;(conv=>whnf);refine bS h (fun h=>qE (ii 5 [(5,32)])) fun h=>?_;(conv=>whnf);refine bS h (fun h=>qE (ii 5 [(5,32)])) fun h=>?_;(conv=>whnf);left;(conv=>whnf);exact cL h Xv fun A h=>qE (ii 5 [(5,32)])
 (conv=>whnf);left;refine bS h (fun h=>qG (ii 4 [(5,4)])) fun h=>?_;(conv=>whnf);left;(conv=>whnf);refine cR h (fun h=>eT (MI h) rfl) fun p h=>?_;(conv=>whnf);refine aX ?_;(conv=>whnf);refine jS h fun o1 ⟨s,t,u,v,w,x⟩=>jT [(0,pp 0),(3,pp 5)] (Na rf s (t) (u) (v) w r_ x) 7 (fun h k1 e=>?_) fun h=>?_
 ·(conv=>whnf);left;(conv=>whnf);refine lI (fun n' ⟨a,d,f,g,i,j,k⟩=>wO F rf p n' a d f g i j k) (fun⟨a,d,f,g,i,j,k⟩=>[(0,pp 0),(3,pp 5),(47,sM (fe cB) p),(48,aI (@Nat.cast Int instNatCastInt (List.length (List.map (fe cB) p)))),(49,aI a)]) (fun⟨a,d,f,g,i,j,k⟩=>(Na rf d f g i j r_ k)) 7 ((0:Int),c,m,n,o,fs,l) (ii 4 [(5,5),(6,4)]) h ?_;rintro y ⟨a,d,f,g,i,j,k⟩ h;dsimp only at h;rw[wO.eq_2]at h;(conv=>whnf);left;refine bS h (fun h=>?_) fun h=>?_
  ·(conv=>whnf);left;(conv=>whnf);refine gX h fun h=>?_;(conv=>whnf);refine oB h fun B h=>?_;(conv=>whnf);refine cG [1,2,3,6] h Xl fun b h=>?_;(conv=>whnf);left;refine bS h (fun h=>?_) fun h=>?_
   ·cases h;cases k1;exact gI (ii 5 [(5,299)])
   exact rE (y,(IntKind.wrap IntKind.i64 (a+(1:Int))),b.2.1,b.2.2.1,b.2.2.2.1,b.2.2.2.2.1,b.2.2.2.2.2.1,b.2.2.2.2.2.2) (ii 6 [(6,299)]) h
  exact qE (ii 7 [])
 (conv=>whnf);left;(conv=>whnf);exact cR h pg fun C h=>qG (ii 5 [(5,6)])
theorem VR{a f c fs l r}(h:pd F a f c fs l=some r):FZ ml 122 [(0,(AO.rows false [[(AV.aw 1),(AV.an 2 2),aI c]])),(1,(fS fs)),(2,(AO.rows true (List.map bp.c l)))] [(AV.ptr 0 0 0),aI a,aI f] (AV.bN []) [(0,(AO.rows false [[(AV.aw 1),(AV.an 3 2),aI r.1]])),(1,(fS r.2)),(2,(AO.rows true (List.map bp.c l))),(3,(AO.rows true []))]:=by
 refine J3 (os:=[(0,(AO.rows false [[(AV.aw 1),AV.dq,aI r.1]])),(1,(fS r.2)),(2,(AO.rows true (List.map bp.c l)))]) 0 0 1 2 ?_ (by show 3≤W;decide) rfl rfl rfl rfl (kG [(0,0),(1,1),(2,2),(3,32)] rfl rfl rfl)
 refine lW 2000 Tryz.func122 rfl (by kernel_rfl) mixed (by show 3≤80;decide) (by show 3≤W;decide) rfl ?_
 unfold pd at h
 refine oL ?_
 conv=>whnf
 obtain⟨o4,h4,k4⟩:=dS h
 refine Or.inr (Dg True [(0,(AV.ptr 0 0 0))] [(0,(AO.rows false [[(AV.aw 1),(AV.an 2 2),aI o4.1]])),(1,(fS o4.2)),(2,(AO.rows true (List.map bp.c l)))] 3 ?_ (fun _=>?_))
 ·refine oL ?_
  conv=>whnf
  refine vW (α:=(Nat×Int×Int×(List ((List UInt8)×(List Int))))) (fun xq=>[(0,(AV.ptr 0 0 0)),(1,(aI (if((@Nat.cast Int instNatCastInt (List.length (List.map bp.c l)))<(if((0:Int)>a)then(0:Int)else a))then(@Nat.cast Int instNatCastInt (List.length (List.map bp.c l)))else(if((0:Int)>a)then(0:Int)else a)))),(2,aI f),(6,aI xq.2.1)]) (fun xq=>[(0,(AO.rows false [[(AV.aw 1),(AV.an 2 2),aI xq.2.2.1]])),(1,(fS xq.2.2.2)),(2,(AO.rows true (List.map bp.c l)))]) 3 (fun xq=>oq F a f l xq.1 xq.2.1 xq.2.2.1 xq.2.2.2=some o4) (fun xq=>xq.1) (F,(IntKind.wrap IntKind.i64 ((@Nat.cast Int instNatCastInt (List.length (List.map bp.c l)))-(1:Int))),c,fs) [(0,0),(1,1),(2,2)] h4 rfl rfl rfl ?_
  rintro⟨i,k,m,d⟩ h4
  replace h4:oq F a f l i k m d=some o4:=h4
  cases i with
  |zero=>rw[oq.eq_1]at h4;cases h4
  |succ i=>
   rw[oq.eq_2]at h4
   refine oL ?_
   conv=>whnf
   refine gU (fun hb=>?_) (fun hb=>?_)
   ·replace h4:=qH h4 (by first|exact hb|(simp;done)|simpa using hb|simpa[chunk]using hb|(simp[chunk]at hb⊢;omega))
    refine oL ?_
    obtain⟨hg,h4⟩:=dA h4
    refine⟨hg,?_⟩
    conv=>whnf
    obtain⟨n,hy,h4⟩:=dS h4
    refine oG hy ?_
    conv=>whnf
    obtain⟨e,hy,h4⟩:=dS h4
    refine oG hy ?_
    refine oL ?_
    conv=>whnf
    obtain⟨j,h8,k8⟩:=dS h4
    refine Or.inr (Dg True [(0,(AV.ptr 0 0 0)),(1,(aI (if((@Nat.cast Int instNatCastInt (List.length (List.map bp.c l)))<(if((0:Int)>a)then(0:Int)else a))then(@Nat.cast Int instNatCastInt (List.length (List.map bp.c l)))else(if((0:Int)>a)then(0:Int)else a)))),(2,aI f),(6,aI k),(7,(AV.ptr 3 0 0)),(8,aI j)] [(0,(AO.rows false [[(AV.aw 1),(AV.an 2 2),aI m]])),(1,(fS d)),(2,(AO.rows true (List.map bp.c l))),(3,(AO.rows false [[AV.str e.name,aI e.size]]))] 4 ?_ (fun _=>?_))
    ·refine oL ?_
     conv=>whnf
     refine gU (fun hb=>?_) (fun hb=>?_)
     ·replace h8:=qH h8 (by first|exact hb|(simp;done)|simpa using hb|simpa[chunk]using hb|(simp[chunk]at hb⊢;omega))
      conv=>whnf
      cases h8;exact eI [(0,0),(1,1),(2,2),(3,323)]
     replace h8:=qF h8 (by first|exact hb|(simp;done)|simpa using hb|simpa[chunk]using hb|(simp[chunk]at hb⊢;omega))
     conv=>whnf
     cases h8;exact eI [(0,0),(1,1),(2,2),(3,323)]
    refine⟨by kernel_rfl,?_⟩
    conv=>whnf
    refine both (b:=(Option.isSome (ak e.name d))) (fun hb=>?_) (fun hb=>?_)
    ·replace k8:=qH k8 hb
     refine xV (ek:=(fun(g:(@List UInt8))=>(AV.str g))) (en:=cB) d e.name rfl rfl (mN Tryz.underlying9) hb ?_
     refine⟨by kernel_rfl,?_⟩
     refine And.intro (dU.map (fun _=>rfl)) ?_
     conv=>whnf
     refine Or.inr ?_
     conv=>whnf
     refine⟨_,_,rfl,rfl,rfl,rfl,?_⟩
     obtain⟨hg,k8⟩:=dA k8
     refine And.intro (by first|exact hg|(simp;done)|simpa using hg|simpa[chunk]using hg|(simp[chunk]at hg⊢;omega)) ?_
     obtain⟨hg,k8⟩:=dA k8
     refine And.intro (by first|exact hg|(simp;done)|simpa using hg|simpa[chunk]using hg|(simp[chunk]at hg⊢;omega)) ?_
     refine⟨by kernel_rfl,?_⟩
     conv=>whnf
     obtain⟨hg,k8⟩:=dA k8
     refine vR (ek:=(fun(g:(@List UInt8))=>(AV.str g))) (en:=cB) d e.name (List.take (Int.toNat (IntKind.wrap IntKind.i64 ((@Nat.cast Int instNatCastInt (List.length (List.map cB (Option.getD (ak e.name d) []))))-j))) (Option.getD (ak e.name d) [])) 612 rfl rfl (mN Tryz.underlying9) (.inr ⟨by assumption,rfl⟩) hg rfl _ rfl (by first|(simp;done)|rfl|(rw[Yd];rfl)) (fun _=>rfl) rfl ?_
     refine⟨by kernel_rfl,?_⟩
     conv=>whnf
     exact uy (i,(IntKind.wrap IntKind.i64 (k-(1:Int))),(IntKind.wrap IntKind.i64 (m-j)),(bw e.name (List.take (Int.toNat (IntKind.wrap IntKind.i64 ((@Nat.cast Int instNatCastInt (List.length (List.map cB (Option.getD (ak e.name d) []))))-j))) (Option.getD (ak e.name d) [])) d)) [(0,0),(1,1),(2,2)] k8 (V2 _) rfl rfl rfl
    replace k8:=qF k8 hb
    refine xU (ek:=(fun(g:(@List UInt8))=>(AV.str g))) (en:=cB) d e.name .dq rfl rfl (mN Tryz.underlying9) hb ⟨80,.dq,by kernel_rfl,by kernel_rfl,.refl _⟩ ?_
    refine⟨by kernel_rfl,?_⟩
    conv=>whnf
    cases k8
   replace h4:=qF h4 (by first|exact hb|(simp;done)|simpa using hb|simpa[chunk]using hb|(simp[chunk]at hb⊢;omega))
   conv=>whnf
   cases h4;exact eI [(0,0),(1,1),(2,2)]
 obtain⟨o,p⟩:=o4
 refine oL ?_
 conv=>whnf
 cases k4;exact gI [(0,0),(1,1),(2,2)]
theorem Es{f g rf c i j a fs l b d e r}(h:qV F f g rf c i j a fs l b d e=some r):FZ ml 78 (EE rf true c i j a fs l b d e) [pp 0,aI f,aI g] (.bN []) (Nd r.1 false r.2.1 r.2.2.1 r.2.2.2.1 a r.2.2.2.2 l b d e++[(6,.rows true [])]):=by
 refine fG Tryz.func78 ?_
 unfold qV at h
 (conv=>whnf);refine cG [1,3,4] h VR fun k h=>?_;(conv=>whnf);left;cases h;exact gW (ii 6 [(6,227)])
theorem yG{rf c f g a fs l b d e r}(h:rZ F rf c f g a fs l b d e=some r):FZ ml 84 (EE rf true c f g a fs l b d e) [pp 0] (aI r.1) (Nd r.2.1 false r.2.2.1 r.2.2.2.1 r.2.2.2.2.1 a r.2.2.2.2.2 l b d e++[(6,.rows true [])]):=by
 refine fG Tryz.func84 ?_
 unfold rZ at h
 (conv=>whnf);exact cG [0,1,2,3,4,5] h Es fun i h=>qG (ii 6 [(6,102)])
theorem VA{c a b d fs l r}(h:By F c a b d fs l=some r):FZ ml 128 (Cc c a b d fs l) [pp 0] (aI r.1) (yR c a b r.2.1 fs r.2.2):=by
 refine fG Tryz.func128 ?_
 unfold By at h
 (conv=>whnf);left;(conv=>whnf);left;(conv=>whnf);exact cG [1,2,3] h MY fun e h=>qG (ii 4 [(4,611)])
theorem Ik{rf c a b d fs l r}(h:uM F rf c a b d fs l=some r):FZ ml 85 (yS rf c a b d fs l) [pp 0] (aI r.1) (Iw rf c a b r.2.1 fs r.2.2):=by
 refine fG Tryz.func85 ?_
 unfold uM at h
 (conv=>whnf);left;(conv=>whnf);left;(conv=>whnf);exact cG [1,2,3,4] h VA fun e h=>qG (ii 5 [(5,484)])
theorem rW{n r}(h:oi F n=some r):FZ ml 29 [] [aI n] (.agg (bW.c r)) []:=by
 refine fA Tryz.func29 ?_
 unfold oi at h;exact qR
theorem MG{s r}(h:xO F s=some r):FZ ml 30 [] [.str s] (.agg (bW.c r)) []:=by
 refine fA Tryz.func30 ?_
 unfold xO at h;exact qR
theorem MF{m r}(h:Bn F m=some r):FZ ml 10 [] [.agg (bV.c m)] (.str r) []:=by
 refine fA Tryz.func10 ?_
 unfold Bn at h
 (conv=>whnf);left;(conv=>whnf);left;refine bS h (fun h=>qR) fun h=>?_;(conv=>whnf);refine jN h fun a=>jM [(1,pp 0),(3,aI a)] [(0,rF (bV.c m))] 1 (fun h=>qE [(0,32)]) fun h=>?_;(conv=>whnf);left;(conv=>whnf);refine cL h rW fun b h=>?_;(conv=>whnf);left;(conv=>whnf);refine cL h rW fun d h=>?_;(conv=>whnf);left;(conv=>whnf);refine cL h rW fun e h=>?_;(conv=>whnf);left;(conv=>whnf);refine cL h rW fun f h=>?_;(conv=>whnf);left;(conv=>whnf);refine cL h rW fun g h=>?_;(conv=>whnf);left;(conv=>whnf);refine cL h rW fun i h=>?_;(conv=>whnf);left;(conv=>whnf);refine cL h rW fun j h=>?_;(conv=>whnf);left;(conv=>whnf);refine cL h rW fun k h=>?_;(conv=>whnf);left;(conv=>whnf);refine cL h rW fun l h=>?_;(conv=>whnf);left;(conv=>whnf);refine aX ?_;(conv=>whnf);refine jN h fun n=>jM [(1,pp 0),(4,.an 1 3)] [(0,rF (bV.c m)),(1,rT bW.c n)] 2 (fun h=>?_) fun h=>?_
 ·(conv=>whnf);left;(conv=>whnf);refine lI (fun n' x'=>xW F m n' x'.1 x'.2) (fun x'=>[(1,pp 0),(4,.an 1 3),(44,sM bj.c m.Entries),(45,aI (@Nat.cast Int instNatCastInt (List.length (List.map bj.c m.Entries)))),(46,aI x'.1)]) (fun x'=>[(0,rF (bV.c m)),(1,rT bW.c x'.2)]) 2 ((0:Int),(b::(d::(e::(f::(g::(i::(j::(k::(l::[])))))))))) [(0,0),(1,865)] h ?_;rintro o ⟨p,q⟩ h;dsimp only at h;rw[xW.eq_2]at h;(conv=>whnf);left;refine bS h (fun h=>?_) fun h=>?_
  ·(conv=>whnf);left;(conv=>whnf);refine gX h fun h=>?_;(conv=>whnf);refine oB h fun u h=>?_;(conv=>whnf);left;(conv=>whnf);left;(conv=>whnf);refine cL h rW fun s h=>?_;(conv=>whnf);left;(conv=>whnf);refine cL h MG fun t h=>?_;(conv=>whnf);left;(conv=>whnf);refine And.intro (dU.cons rfl (dU.cons rfl dU.nil)) ?_;(conv=>whnf);refine aX ?_;(conv=>whnf);refine gS h fun h=>?_;(conv=>whnf);refine aX ?_;exact rE (o,(IntKind.wrap IntKind.i64 (p+(1:Int))),(q++(s::(t::[])))) [(0,0),(1,418)] h
  exact qE [(0,0),(1,1)]
 (conv=>whnf);left;(conv=>whnf);refine cL h MG fun v h=>?_;(conv=>whnf);left;(conv=>whnf);refine aX ?_;(conv=>whnf);refine aX ?_;(conv=>whnf);refine gS h fun h=>?_;(conv=>whnf);left;obtain⟨w,hy,h⟩:=dS h;refine⟨_,_,(lg (bZ (YF AV.sl rQ) rfl) (eT (DX hy) rfl)),Or.inr ⟨[162],rfl,?_⟩⟩;(conv=>whnf);left;refine bS h (fun h=>qR) fun h=>?_;(conv=>whnf);obtain⟨hg,h⟩:=GL h;refine⟨_,Hm rQ hg,?_⟩;exact qR
theorem MU{p c l m r}(h:yx F p c l m=some r):FZ ml 117 (T6 c l m) [pp 0,.agg (bQ.c p)] (.bN [aI r.1,aI r.2.1]) (yQ r.2.2.1 m r.2.2.2):=by
 refine fG Tryz.func117 ?_
 unfold yx at h
 (conv=>whnf);left;(conv=>whnf);left;refine bS h (fun h=>qG [(0,0),(2,2),(3,1)]) fun h=>?_;(conv=>whnf);left;(conv=>whnf);refine aX ?_;(conv=>whnf);refine aX ?_;(conv=>whnf);refine gS h fun h=>?_;(conv=>whnf);left;(conv=>whnf);refine aX ?_;cases h;exact gE [(0,0),(1,1),(2,2),(3,992)]
theorem MZ{a dm b c l m r}(h:BC F a dm b c l m=some r):FZ ml 103 (T6 c l m) [pp 0,aI a,aI dm,.str b] (.bN [aI r.1,aI r.2.1]) (yQ r.2.2.1 m r.2.2.2):=by
 refine fG Tryz.func103 ?_
 unfold BC at h
 (conv=>whnf);left;(conv=>whnf);left;refine bS h (fun h=>qG [(0,0),(2,2),(3,1)]) fun h=>?_;(conv=>whnf);left;(conv=>whnf);exact cG [0,1,2] h MU fun d h=>qG [(0,0),(1,1),(2,2),(3,483)]
theorem MV{sum tb l r}(h:yq F sum tb l=some r):FZ ml 155 [(0,(AO.rows true [(@dn tb)])),(1,(AO.rows true (List.map cB l)))] [(AV.ptr 0 0 0),(AV.int IntKind.u32 sum),(AV.an 1 1)] (AV.int IntKind.u32 r.1) [(0,(AO.rows true [(@dn r.2)])),(1,(AO.rows true (List.map cB l)))]:=by
 unfold yq at h
 obtain⟨hg,h⟩:=dA h
 cases h;exact Rk tb sum l hg
theorem Xe{u e c t gs gk j tb l k n o rf a b p m q d fs s f g i r}(h:BR F u e c t gs gk j tb l k n o rf a b p m q d fs s f g i=some r):FZ ml 156 (T4 c t gs gk j tb l k n o rf true a b p m q d fs s f g i) [pp 0,aI u,.agg (bj.c e)] (.bN []) (T3 r.1 r.2.1 gs gk r.2.2.1 r.2.2.2.1 rf true a b m r.2.2.2.2.1 d fs f g i r.2.2.2.2.2.1 r.2.2.2.2.2.2.1 r.2.2.2.2.2.2.2.1 r.2.2.2.2.2.2.2.2.1 r.2.2.2.2.2.2.2.2.2.1 r.2.2.2.2.2.2.2.2.2.2):=by
 refine fG Tryz.func156 ?_
 unfold BR at h
 (conv=>whnf);left;(conv=>whnf);left;(conv=>whnf);left;refine bS h (fun h=>?_) fun h=>?_
 ·(conv=>whnf);refine jN h fun v=>jM [] (T4 c v gs gk j tb l k n o rf true a b p m q d fs s f g i) 16 (fun h=>?_) fun h=>?_
  ·(conv=>whnf);left;refine bS h (fun h=>qE (ii 16 [])) fun h=>?_;(conv=>whnf);refine gX h fun h=>?_;(conv=>whnf);refine oB h fun x h=>?_;(conv=>whnf);refine oB h fun y h=>?_;exact qE (ii 16 [])
  exact qG (ii 4 [(8,8),(10,10),(11,11),(12,12),(13,13),(15,15),(16,4),(17,5),(18,6),(19,7),(20,9),(21,14)])
 (conv=>whnf);left;refine bS h (fun h=>?_) fun h=>?_
 ·(conv=>whnf);refine And.intro (by omega) ?_;(conv=>whnf);refine oB h fun z h=>?_;(conv=>whnf);refine oB h fun A h=>?_;(conv=>whnf);refine jN h fun w=>jM [(0,pp 0),(5,pp 16),(6,aI (@Nat.cast Int instNatCastInt (List.length (List.map bj.c l)))),(7,aI w)] (T4 c t gs gk j tb l k n o rf true a b p m q d fs s f g i++[(16,rF (bj.c e))]) 17 (fun h=>qE (ii 16 [(16,32)])) fun h=>?_;(conv=>whnf);left;(conv=>whnf);refine aX ?_;(conv=>whnf);refine aX ?_;(conv=>whnf);refine gS h fun h=>?_;(iterate 5 ((conv=>whnf);first|refine oL ?_|refine aX ?_));(conv=>whnf);refine gS h fun h=>?_;(conv=>whnf);left;(conv=>whnf);refine And.intro (by omega) ?_;(conv=>whnf);refine oB h fun B h=>?_;(conv=>whnf);refine oB h fun C h=>?_;(conv=>whnf);refine gX h fun h=>?_;(conv=>whnf);refine cG [3,1297] h MV fun D h=>?_;(conv=>whnf);left;(conv=>whnf);refine aX ?_;(conv=>whnf);refine aX ?_;(conv=>whnf);refine gS h fun h=>?_;(conv=>whnf);left;(conv=>whnf);refine aX ?_;cases h;exact gE (ii 7 [(8,8),(10,10),(11,11),(12,12),(13,13),(15,15),(16,241),(17,593),(18,1393),(19,7),(20,9),(21,14)])
 exact qG (ii 4 [(8,8),(10,10),(11,11),(12,12),(13,13),(15,15),(16,4),(17,5),(18,6),(19,7),(20,9),(21,14)])
theorem M3{G c H rf I J gs gk x tb l y z A B b C m fs D d e f r}(h:BW F G c H rf I J gs gk x tb l y z A B b C m fs D d e f=some r):FZ ml 104 (T8 c H rf true I J gs gk x tb l y z A B b C m fs D d e f) [pp 0,pp 1,aI G] (.bN []) (Nj r.1 r.2.1 r.2.2.1 true r.2.2.2.1 r.2.2.2.2.1 gs gk r.2.2.2.2.2.1 r.2.2.2.2.2.2.1 r.2.2.2.2.2.2.2.1 b m fs d e f r.2.2.2.2.2.2.2.2.1 r.2.2.2.2.2.2.2.2.2.1 r.2.2.2.2.2.2.2.2.2.2.1 r.2.2.2.2.2.2.2.2.2.2.2.1 r.2.2.2.2.2.2.2.2.2.2.2.2.1 r.2.2.2.2.2.2.2.2.2.2.2.2.2):=by
 refine fG Tryz.func104 ?_
 unfold BW at h
 (conv=>whnf);left;(conv=>whnf);refine jN h fun⟨K,L,M,N⟩=>jM [(0,pp 0),(1,pp 1),(2,aI K),(6,pp 16)] (T8 c L rf true M N gs gk x tb l y z A B b C m fs D d e f++[(16,rF (cD.c rf.Trail))]) 17 (fun h=>?_) fun h=>?_
 ·(conv=>whnf);left;refine bS h (fun h=>?_) fun h=>?_
  ·(conv=>whnf);left;(conv=>whnf);refine cL h wL fun O h=>?_;(conv=>whnf);refine jN h fun Q=>jM [(0,pp 0),(1,pp 1),(2,aI rf.Trail.ar),(6,pp 16)] (T8 c Q rf true O.1 O.2 gs gk x tb l y z A B b C m fs D d e f++[(16,rF (cD.c rf.Trail))]) 17 (fun h=>?_) fun h=>?_
   ·(conv=>whnf);left;refine bS h (fun h=>qE (ii 16 [(16,192)])) fun h=>?_;(conv=>whnf);refine bS h (fun h=>qE (ii 16 [(16,192)])) fun h=>?_;(conv=>whnf);refine gX h fun h=>?_;(conv=>whnf);refine oB h fun a8 h=>?_;(conv=>whnf);refine oB h fun a9 h=>?_;(conv=>whnf);refine bS h (fun h=>qE (ii 16 [(16,192)])) fun h=>?_;(conv=>whnf);refine gX h fun h=>?_;(conv=>whnf);refine oB h fun aA h=>?_;(conv=>whnf);refine oB h fun aB h=>?_;exact qE (ii 16 [(16,192)])
   exact qE (ii 17 [])
  exact qE (ii 16 [(16,192)])
 (conv=>whnf);refine jN h fun⟨R,S,T,U,V,X,Y,Z,a0,a1,a2,a3,a4⟩=>jM [] (Nj R S rf true T U gs gk V X Y b m fs d e f Z a0 a1 a2 a3 a4) 22 (fun h=>?_) fun h=>?_
 ·(conv=>whnf);left;(conv=>whnf);refine lI (β:=Int×(List Int)×Bool×Int×Int×Int×Bool×Int×(List bj)×(List Int)×(List Int)×(List cq)×(List bQ)×(List bp)) (fun n' ⟨g,i,j,E,k,n,o,p,q,s,t,u,v,w⟩=>yA F rf gs gk b m fs d e f n' g i j E k n o p q s t u v w) (fun⟨g,i,j,E,k,n,o,p,q,s,t,u,v,w⟩=>[(0,pp 0),(1,pp 1),(6,pp 16),(7,aI g)]) (fun⟨g,i,j,E,k,n,o,p,q,s,t,u,v,w⟩=>[(0,rF [sM cJ i,.aw 2,pp 3,pp 4,.an 17 2,.an 18 1,.an 19 1,.an 20 2,.bool j]),(1,rF ([pp 9,pp 10]++bn.c rf++[.bool true,aI E,AV.int IntKind.u32 k])),(2,AO.bK (eG gs) (some ((Option.getD (@mix Int aa Int.instDecidableEq gk gs) 0),1))),(3,rF [.an 21 4,aI n,.aw 12]),(4,.rows true [(@dn o)]),(9,rF [.aw 13,.an 22 2,aI p]),(10,rF ([pp 15]++bn.c b)),(12,mP m),(13,fS fs),(15,rF [pp 9,.str d,aI e,aI f]),(16,rF (cD.c rf.Trail)),(17,rT bj.c q),(18,rT cJ s),(19,rT cU t),(20,rT cq.c u),(21,rT bQ.c v),(22,rT bp.c w)]) 23 ((IntKind.wrap IntKind.i64 (K+(1:Int))),c,L,M,N,x,tb,B,l,y,z,A,C,D) (ii 5 [(9,9),(10,10),(12,12),(13,13),(15,15),(16,16),(17,5),(18,6),(19,7),(20,8),(21,11),(22,14)]) h ?_;rintro a5 ⟨g,i,j,E,k,n,o,p,q,s,t,u,v,w⟩ h;dsimp only at h;rw[yA.eq_2]at h;(conv=>whnf);left;refine bS h (fun h=>?_) fun h=>?_
  ·(conv=>whnf);left;(conv=>whnf);refine gX h fun h=>?_;(conv=>whnf);refine oB h fun a6 h=>?_;(conv=>whnf);left;(conv=>whnf);refine jN h fun P=>jM [(0,pp 0),(1,pp 1),(6,pp 16),(7,aI g),(8,pp 17)] [(0,rF [sM cJ i,.aw 2,pp 3,pp 4,.an 18 2,.an 19 1,.an 20 1,.an 21 2,.bool j]),(1,rF ([pp 9,pp 10]++bn.c rf++[.bool true,aI P,AV.int IntKind.u32 k])),(2,AO.bK (eG gs) (some ((Option.getD (@mix Int aa Int.instDecidableEq gk gs) 0),1))),(3,rF [.an 22 4,aI n,.aw 12]),(4,.rows true [(@dn o)]),(9,rF [.aw 13,.an 23 2,aI p]),(10,rF ([pp 15]++bn.c b)),(12,mP m),(13,fS fs),(15,rF [pp 9,.str d,aI e,aI f]),(16,rF (cD.c rf.Trail)),(17,rF (bj.c a6)),(18,rT bj.c q),(19,rT cJ s),(20,rT cU t),(21,rT cq.c u),(22,rT bQ.c v),(23,rT bp.c w)] 24 (fun h=>qE (ii 17 [(17,535),(18,17),(19,18),(20,19),(21,20),(22,21),(23,22)])) fun h=>?_;(conv=>whnf);refine gX h fun h=>?_;(conv=>whnf);refine cG [4,376] h MV fun a7 h=>?_;(conv=>whnf);refine aX ?_;(conv=>whnf);refine cG [0,2,3,4,18,19,20,21,1,22,12,9,10,13,23,15] h Xe fun a h=>?_;exact rE (a5,(IntKind.wrap IntKind.i64 (g+(1:Int))),a.1,a.2.1,P,a7.1,a.2.2.1,a.2.2.2.1,a.2.2.2.2.1,a.2.2.2.2.2.1,a.2.2.2.2.2.2.1,a.2.2.2.2.2.2.2.1,a.2.2.2.2.2.2.2.2.1,a.2.2.2.2.2.2.2.2.2.1,a.2.2.2.2.2.2.2.2.2.2) (ii 17 [(17,648),(18,649),(19,650),(20,651),(21,652),(22,653)]) h
  exact qE (ii 16 [(16,17),(17,18),(18,19),(19,20),(20,21),(21,22)])
 exact qG (ii 22 [])
theorem XJ{s v r}(h:Ev F s v=some r):FZ ml 157 [] [sM cq.c s,.agg (cq.c v)] (aI r) []:=by
 refine fA Tryz.func157 ?_
 unfold Ev at h
 (conv=>whnf);left;(conv=>whnf);refine jS h fun o0 vu=>jT [] [] 0 (fun h k0 e=>?_) fun h=>?_
 ·(conv=>whnf);left;(conv=>whnf);refine lI (fun n' x'=>yL F s v n' x') (fun x'=>[(0,sM cq.c s),(3,pp 0),(7,aI (@Nat.cast Int instNatCastInt (List.length (List.map cq.c s)))),(8,aI x')]) (fun x'=>[(0,rF (cq.c v))]) 1 (0:Int) [(0,32)] h ?_;rintro a b h;rw[yL.eq_2]at h;(conv=>whnf);left;refine bS h (fun h=>?_) fun h=>?_
  ·(conv=>whnf);left;(conv=>whnf);refine gX h fun h=>?_;(conv=>whnf);refine oB h fun d h=>?_;(conv=>whnf);refine aX ?_;(conv=>whnf);refine aX ?_;(conv=>whnf);left;refine bS h (fun h=>?_) fun h=>?_
   ·cases h;cases k0;exact rfl
   exact rE (a,(IntKind.wrap IntKind.i64 (b+(1:Int)))) [(0,0)] h
  exact qE []
 exact qR
theorem M8{s v r}(h:B9 F s v=some r):FZ ml 105 [] [sM cq.c s,.agg (cq.c v)] (.bool r) []:=by
 refine fA Tryz.func105 ?_
 unfold B9 at h
 (conv=>whnf);left;(conv=>whnf);left;(conv=>whnf);exact cL h XJ fun a h=>qR
theorem VG{c a b d fs l r}(h:D9 F c a b d fs l=some r):FZ ml 158 (Cc c a b d fs l) [pp 0] (aI r) (Cc c a b d fs l):=by
 refine fG Tryz.func158 ?_
 unfold D9 at h;exact qG (ii 4 [])
theorem M4{rf c a b d fs l r}(h:Ef F rf c a b d fs l=some r):FZ ml 106 (yS rf c a b d fs l) [pp 0] (aI r) (yS rf c a b d fs l):=by
 refine fG Tryz.func106 ?_
 unfold Ef at h
 (conv=>whnf);left;(conv=>whnf);exact cH [1,2,3,4] h VG fun e h=>qG (ii 5 [])
theorem Ij{rf c a b d fs l r}(h:yo F rf c a b d fs l=some r):FZ ml 86 (yS rf c a b d fs l) [pp 0] (aI r.1) (Iw rf r.2.1 r.2.2.1 r.2.2.2.1 r.2.2.2.2.1 r.2.2.2.2.2.1 r.2.2.2.2.2.2):=by
 refine fG Tryz.func86 ?_
 unfold yo at h
 (conv=>whnf);left;(conv=>whnf);left;(conv=>whnf);left;(conv=>whnf);left;(conv=>whnf);refine cR h (fun h=>aW (eT (MI h) rfl)) fun e h=>?_;(conv=>whnf);exact cG [1,2,3,4] h Ia fun f h=>qG (ii 5 [(5,676)])
theorem Ih{id r_ out a c j gs gk t tb l k n o rf p q u m v w fs x y z A r}(h:tt F id r_ out a c j gs gk t tb l k n o rf p q u m v w fs x y z A=some (Sum.inl r)):FZ ml 72 (T4 c j gs gk t tb l k n o rf true p q u m v w fs x y z A) [pp 0,aI id,.agg (bn.c r_),sM bV.c out,.agg (dP.c a)] (aI r.1) (Nf r.2.1 r.2.2.1 r.2.2.2.1 r.2.2.2.2.1 r.2.2.2.2.2.1 m++[(12,rF ([pp 15]++bn.c r.2.2.2.2.2.2.1)),(15,rF [pp 11,.str r.2.2.2.2.2.2.2.1,aI r.2.2.2.2.2.2.2.2.1,aI r.2.2.2.2.2.2.2.2.2.1]),(16,rT bj.c r.2.2.2.2.2.2.2.2.2.2.1),(17,rT cJ r.2.2.2.2.2.2.2.2.2.2.2.1),(18,rT cU r.2.2.2.2.2.2.2.2.2.2.2.2.1),(19,rT cq.c r.2.2.2.2.2.2.2.2.2.2.2.2.2.1),(20,rT bQ.c r.2.2.2.2.2.2.2.2.2.2.2.2.2.2)]):=by
 refine fG Tryz.func72 ?_
 unfold tt at h
 (conv=>whnf);left;(conv=>whnf);left;(conv=>whnf);refine aX ?_;(conv=>whnf);obtain⟨hg,h⟩:=cQ h;refine DJ (ek:=(fun(D:Int)=>(AV.int IntKind.i64 D))) (gN:=aa.g) gs id gk rfl rfl (jK Tryz.underlying3) hg ?_;(conv=>whnf);refine cG [12,15,11,13,14] h Ic fun d h=>?_;(conv=>whnf);refine aX ?_;(conv=>whnf);left;refine bS h (fun h=>?_) fun h=>?_
 ·(conv=>whnf);refine cG [8,11,12,13,517,15] h yG fun e h=>?_;(conv=>whnf);obtain⟨hg,h⟩:=cQ h;cases h;refine gF 1 8 gs gk (@Sum.inl ae af (ae.mk e.2.2.2.2.2 [] e.2.2.2.2.1 e.2.1 e.2.2.1 e.2.2.2.1)) [8,11,13,614] ?_;exact gI (ii 4 [(8,8),(10,10),(11,11),(12,12),(13,13),(14,14),(15,15),(16,4),(17,5),(18,6),(19,7),(20,9)])
 (conv=>whnf);left;refine bS h (fun h=>?_) fun h=>?_
 ·(conv=>whnf);refine cG [8,11,12,13,517,15] h Es fun f h=>?_;(conv=>whnf);obtain⟨hg,h⟩:=cQ h;cases h;refine gF 1 8 gs gk (@Sum.inl ae af (ae.mk f.2.2.2.2 [] f.2.2.2.1 f.1 f.2.1 f.2.2.1)) [8,11,13,806] ?_;exact gI (ii 4 [(8,8),(10,10),(11,11),(12,12),(13,13),(14,14),(15,15),(16,4),(17,5),(18,6),(19,7),(20,9)])
 (conv=>whnf);refine cG [12,15,11,13,517] h Ik fun s h=>?_;(conv=>whnf);refine jN h fun⟨E,G⟩=>jM [(0,pp 0),(1,aI id),(7,pp 16),(11,pp 8),(12,aI rf.aj)] (T2 c j gs gk E tb r_ true p q m s.2.1 d.2.1 d.2.2.2.2.2.2.1 d.2.2.1 d.2.2.2.1 d.2.2.2.2.1++[(16,rF (bn.c r_)),(17,rT bj.c l),(18,rT cJ k),(19,rT cU n),(20,rT cq.c o),(21,rT bQ.c G),(22,rT bp.c s.2.2)]) 23 (fun h=>?_) fun h=>?_
 ·(conv=>whnf);left;(conv=>whnf);refine lI (fun n' x'=>tv F out m n' x'.1 x'.2.1 x'.2.2) (fun x'=>[(0,pp 0),(1,aI id),(7,pp 16),(11,pp 8),(12,aI rf.aj),(53,sM bV.c out),(54,aI (@Nat.cast Int instNatCastInt (List.length (List.map bV.c out)))),(55,aI x'.1)]) (fun x'=>(T2 c j gs gk x'.2.1 tb r_ true p q m s.2.1 d.2.1 d.2.2.2.2.2.2.1 d.2.2.1 d.2.2.2.1 d.2.2.2.2.1++[(16,rF (bn.c r_)),(17,rT bj.c l),(18,rT cJ k),(19,rT cU n),(20,rT cq.c o),(21,rT bQ.c x'.2.2),(22,rT bp.c s.2.2)])) 23 ((0:Int),t,u) (ii 4 [(8,8),(10,10),(11,11),(12,12),(13,13),(14,14),(15,15),(16,32),(17,4),(18,5),(19,6),(20,7),(21,9),(22,773)]) h ?_;rintro H ⟨I,R,S⟩ h;dsimp only at h;rw[tv.eq_2]at h;(conv=>whnf);left;refine bS h (fun h=>?_) fun h=>?_
  ·(conv=>whnf);left;(conv=>whnf);refine gX h fun h=>?_;(conv=>whnf);refine oB h fun T h=>?_;(conv=>whnf);left;(conv=>whnf);left;(conv=>whnf);refine cL h MF fun U h=>?_;(conv=>whnf);refine cG [2,21,10] h MZ fun B h=>?_;(conv=>whnf);refine aX ?_;exact rE (H,(IntKind.wrap IntKind.i64 (I+(1:Int))),B.2.2.1,B.2.2.2) (ii 21 [(21,506),(22,22)]) h
  exact qE (ii 23 [])
 (conv=>whnf);refine cG [0,8,1,2,3,17,18,19,20,11,12,21,10,13,22,15] h M3 fun b h=>?_;(conv=>whnf);left;(conv=>whnf);left;(conv=>whnf);refine jN h fun J=>jM [(0,pp 0),(11,pp 8),(15,pp 16),(90,.bool J)] (T2 b.1 b.2.1 gs gk b.2.2.2.2.2.1 b.2.2.2.2.2.2.1 b.2.2.1 true b.2.2.2.1 b.2.2.2.2.1 m b.2.2.2.2.2.2.2.1 d.2.1 d.2.2.2.2.2.2.1 d.2.2.1 d.2.2.2.1 d.2.2.2.2.1++[(16,rF [aI id,aI r_.Term]),(17,rT bj.c b.2.2.2.2.2.2.2.2.1),(18,rT cJ b.2.2.2.2.2.2.2.2.2.1),(19,rT cU b.2.2.2.2.2.2.2.2.2.2.1),(20,rT cq.c b.2.2.2.2.2.2.2.2.2.2.2.1),(21,rT bQ.c b.2.2.2.2.2.2.2.2.2.2.2.2.1),(22,rT bp.c b.2.2.2.2.2.2.2.2.2.2.2.2.2)]) 23 (fun h=>?_) fun h=>?_
 ·(conv=>whnf);left;refine bS h (fun h=>?_) fun h=>?_
  ·(conv=>whnf);left;(conv=>whnf);exact cL h M8 fun V h=>qE (ii 16 [(16,279),(17,135),(18,136),(19,137),(20,138),(21,139),(22,140)])
  exact qE (ii 16 [(16,279),(17,135),(18,136),(19,137),(20,138),(21,139),(22,140)])
 (conv=>whnf);refine jN h fun C=>jM [(11,pp 8)] (T3 b.1 b.2.1 gs gk b.2.2.2.2.2.1 b.2.2.2.2.2.2.1 b.2.2.1 true b.2.2.2.1 b.2.2.2.2.1 m b.2.2.2.2.2.2.2.1 d.2.1 d.2.2.2.2.2.2.1 d.2.2.1 d.2.2.2.1 d.2.2.2.2.1 b.2.2.2.2.2.2.2.2.1 b.2.2.2.2.2.2.2.2.2.1 b.2.2.2.2.2.2.2.2.2.2.1 C b.2.2.2.2.2.2.2.2.2.2.2.2.1 b.2.2.2.2.2.2.2.2.2.2.2.2.2) 22 (fun h=>?_) fun h=>?_
 ·(conv=>whnf);left;refine bS h (fun h=>?_) fun h=>?_
  ·(conv=>whnf);left;(conv=>whnf);refine aX ?_;(conv=>whnf);refine aX ?_;(conv=>whnf);refine gS h fun h=>?_;(conv=>whnf);left;(conv=>whnf);refine aX ?_;cases h;exact eE (ii 16 [(16,17),(17,18),(18,19),(19,247),(20,21),(21,22)])
  exact qE (ii 16 [(16,17),(17,18),(18,19),(19,20),(20,21),(21,22)])
 (conv=>whnf);refine jN h fun⟨K,L,M,N,O,P,Q⟩=>jM [(11,pp 8),(114,.bool K)] (T3 b.1 b.2.1 gs gk b.2.2.2.2.2.1 b.2.2.2.2.2.2.1 b.2.2.1 true b.2.2.2.1 b.2.2.2.2.1 m L d.2.1 M N O P b.2.2.2.2.2.2.2.2.1 b.2.2.2.2.2.2.2.2.2.1 b.2.2.2.2.2.2.2.2.2.2.1 C b.2.2.2.2.2.2.2.2.2.2.2.2.1 Q) 22 (fun h=>?_) fun h=>?_
 ·(conv=>whnf);left;(conv=>whnf);refine cH [12,15,11,13,21] h M4 fun X h=>?_;(conv=>whnf);refine bS h (fun h=>?_) fun h=>?_
  ·(conv=>whnf);exact cG [12,15,11,13,21] h Ij fun Y h=>qE (ii 21 [(21,379)])
  exact qE (ii 22 [])
 (conv=>whnf);left;refine bS h (fun h=>?_) fun h=>?_
 ·(conv=>whnf);refine cG [8,11,12,13,21,15] h yG fun i h=>?_;(conv=>whnf);obtain⟨hg,h⟩:=cQ h;cases h;refine gF 1 8 gs gk (@Sum.inl ae af (ae.mk i.2.2.2.2.2 [] i.2.2.2.2.1 i.2.1 i.2.2.1 i.2.2.2.1)) [8,11,13,60] ?_;exact gI (ii 21 [])
 (conv=>whnf);obtain⟨hg,h⟩:=cQ h;cases h
theorem Ii{id r_ out a c e gs gk p tb l f i j rf k n q m s t fs u v w x r}(h:tt F id r_ out a c e gs gk p tb l f i j rf k n q m s t fs u v w x=some (Sum.inr r)):FZ ml 72 (T4 c e gs gk p tb l f i j rf true k n q m s t fs u v w x) [pp 0,aI id,.agg (bn.c r_),sM bV.c out,.agg (dP.c a)] (aI r.1) (Nf r.2.1 r.2.2.1 r.2.2.2.1 r.2.2.2.2.1 r.2.2.2.2.2.1 m++[(16,rT bj.c r.2.2.2.2.2.2.1),(17,rT cJ r.2.2.2.2.2.2.2.1),(18,rT cU r.2.2.2.2.2.2.2.2.1),(19,rT cq.c r.2.2.2.2.2.2.2.2.2.1),(20,rT bQ.c r.2.2.2.2.2.2.2.2.2.2)]):=by
 refine fG Tryz.func72 ?_
 unfold tt at h
 (conv=>whnf);left;(conv=>whnf);left;(conv=>whnf);refine aX ?_;(conv=>whnf);obtain⟨hg,h⟩:=cQ h;refine DJ (ek:=(fun(H:Int)=>(AV.int IntKind.i64 H))) (gN:=aa.g) gs id gk rfl rfl (jK Tryz.underlying3) hg ?_;(conv=>whnf);refine cG [12,15,11,13,14] h Ic fun d h=>?_;(conv=>whnf);refine aX ?_;(conv=>whnf);left;refine bS h (fun h=>?_) fun h=>?_
 ·(conv=>whnf);refine cG [8,11,12,13,517,15] h yG fun O h=>?_;(conv=>whnf);obtain⟨hg,h⟩:=cQ h;cases h
 (conv=>whnf);left;refine bS h (fun h=>?_) fun h=>?_
 ·(conv=>whnf);refine cG [8,11,12,13,517,15] h Es fun P h=>?_;(conv=>whnf);obtain⟨hg,h⟩:=cQ h;cases h
 (conv=>whnf);refine cG [12,15,11,13,517] h Ik fun o h=>?_;(conv=>whnf);refine jN h fun⟨I,J⟩=>jM [(0,pp 0),(1,aI id),(7,pp 16),(11,pp 8),(12,aI rf.aj)] (T2 c e gs gk I tb r_ true k n m o.2.1 d.2.1 d.2.2.2.2.2.2.1 d.2.2.1 d.2.2.2.1 d.2.2.2.2.1++[(16,rF (bn.c r_)),(17,rT bj.c l),(18,rT cJ f),(19,rT cU i),(20,rT cq.c j),(21,rT bQ.c J),(22,rT bp.c o.2.2)]) 23 (fun h=>?_) fun h=>?_
 ·(conv=>whnf);left;(conv=>whnf);refine lI (fun n' x'=>tv F out m n' x'.1 x'.2.1 x'.2.2) (fun x'=>[(0,pp 0),(1,aI id),(7,pp 16),(11,pp 8),(12,aI rf.aj),(53,sM bV.c out),(54,aI (@Nat.cast Int instNatCastInt (List.length (List.map bV.c out)))),(55,aI x'.1)]) (fun x'=>(T2 c e gs gk x'.2.1 tb r_ true k n m o.2.1 d.2.1 d.2.2.2.2.2.2.1 d.2.2.1 d.2.2.2.1 d.2.2.2.2.1++[(16,rF (bn.c r_)),(17,rT bj.c l),(18,rT cJ f),(19,rT cU i),(20,rT cq.c j),(21,rT bQ.c x'.2.2),(22,rT bp.c o.2.2)])) 23 ((0:Int),p,q) (ii 4 [(8,8),(10,10),(11,11),(12,12),(13,13),(14,14),(15,15),(16,32),(17,4),(18,5),(19,6),(20,7),(21,9),(22,773)]) h ?_;rintro K ⟨L,Q,R⟩ h;dsimp only at h;rw[tv.eq_2]at h;(conv=>whnf);left;refine bS h (fun h=>?_) fun h=>?_
  ·(conv=>whnf);left;(conv=>whnf);refine gX h fun h=>?_;(conv=>whnf);refine oB h fun S h=>?_;(conv=>whnf);left;(conv=>whnf);left;(conv=>whnf);refine cL h MF fun T h=>?_;(conv=>whnf);refine cG [2,21,10] h MZ fun y h=>?_;(conv=>whnf);refine aX ?_;exact rE (K,(IntKind.wrap IntKind.i64 (L+(1:Int))),y.2.2.1,y.2.2.2) (ii 21 [(21,506),(22,22)]) h
  exact qE (ii 23 [])
 (conv=>whnf);refine cG [0,8,1,2,3,17,18,19,20,11,12,21,10,13,22,15] h M3 fun b h=>?_;(conv=>whnf);left;(conv=>whnf);left;(conv=>whnf);refine jN h fun M=>jM [(0,pp 0),(11,pp 8),(15,pp 16),(90,.bool M)] (T2 b.1 b.2.1 gs gk b.2.2.2.2.2.1 b.2.2.2.2.2.2.1 b.2.2.1 true b.2.2.2.1 b.2.2.2.2.1 m b.2.2.2.2.2.2.2.1 d.2.1 d.2.2.2.2.2.2.1 d.2.2.1 d.2.2.2.1 d.2.2.2.2.1++[(16,rF [aI id,aI r_.Term]),(17,rT bj.c b.2.2.2.2.2.2.2.2.1),(18,rT cJ b.2.2.2.2.2.2.2.2.2.1),(19,rT cU b.2.2.2.2.2.2.2.2.2.2.1),(20,rT cq.c b.2.2.2.2.2.2.2.2.2.2.2.1),(21,rT bQ.c b.2.2.2.2.2.2.2.2.2.2.2.2.1),(22,rT bp.c b.2.2.2.2.2.2.2.2.2.2.2.2.2)]) 23 (fun h=>?_) fun h=>?_
 ·(conv=>whnf);left;refine bS h (fun h=>?_) fun h=>?_
  ·(conv=>whnf);left;(conv=>whnf);exact cL h M8 fun U h=>qE (ii 16 [(16,279),(17,135),(18,136),(19,137),(20,138),(21,139),(22,140)])
  exact qE (ii 16 [(16,279),(17,135),(18,136),(19,137),(20,138),(21,139),(22,140)])
 (conv=>whnf);refine jN h fun z=>jM [(11,pp 8)] (T3 b.1 b.2.1 gs gk b.2.2.2.2.2.1 b.2.2.2.2.2.2.1 b.2.2.1 true b.2.2.2.1 b.2.2.2.2.1 m b.2.2.2.2.2.2.2.1 d.2.1 d.2.2.2.2.2.2.1 d.2.2.1 d.2.2.2.1 d.2.2.2.2.1 b.2.2.2.2.2.2.2.2.1 b.2.2.2.2.2.2.2.2.2.1 b.2.2.2.2.2.2.2.2.2.2.1 z b.2.2.2.2.2.2.2.2.2.2.2.2.1 b.2.2.2.2.2.2.2.2.2.2.2.2.2) 22 (fun h=>?_) fun h=>?_
 ·(conv=>whnf);left;refine bS h (fun h=>?_) fun h=>?_
  ·(conv=>whnf);left;(conv=>whnf);refine aX ?_;(conv=>whnf);refine aX ?_;(conv=>whnf);refine gS h fun h=>?_;(conv=>whnf);left;(conv=>whnf);refine aX ?_;cases h;exact eE (ii 16 [(16,17),(17,18),(18,19),(19,247),(20,21),(21,22)])
  exact qE (ii 16 [(16,17),(17,18),(18,19),(19,20),(20,21),(21,22)])
 (conv=>whnf);refine jN h fun⟨N,A,B,C,D,E,G⟩=>jM [(11,pp 8),(114,.bool N)] (T3 b.1 b.2.1 gs gk b.2.2.2.2.2.1 b.2.2.2.2.2.2.1 b.2.2.1 true b.2.2.2.1 b.2.2.2.2.1 m A d.2.1 B C D E b.2.2.2.2.2.2.2.2.1 b.2.2.2.2.2.2.2.2.2.1 b.2.2.2.2.2.2.2.2.2.2.1 z b.2.2.2.2.2.2.2.2.2.2.2.2.1 G) 22 (fun h=>?_) fun h=>?_
 ·(conv=>whnf);left;(conv=>whnf);refine cH [12,15,11,13,21] h M4 fun V h=>?_;(conv=>whnf);refine bS h (fun h=>?_) fun h=>?_
  ·(conv=>whnf);exact cG [12,15,11,13,21] h Ij fun X h=>qE (ii 21 [(21,379)])
  exact qE (ii 22 [])
 (conv=>whnf);left;refine bS h (fun h=>?_) fun h=>?_
 ·(conv=>whnf);refine cG [8,11,12,13,21,15] h yG fun Y h=>?_;(conv=>whnf);obtain⟨hg,h⟩:=cQ h;cases h
 (conv=>whnf);obtain⟨hg,h⟩:=cQ h;cases h;refine gF 1 8 gs gk (@Sum.inr ae af (af.mk B G A C D E d.2.1 b.2.2.1 b.2.2.2.1 b.2.2.2.2.1)) [8,11,13,21,12,15] ?_;exact gI (ii 21 [])
theorem Xg{a c e gs f tb l g i j k m r}(h:BT F a c e gs f tb l g i j k m=some r):FZ ml 54 (T0 c e gs f tb l g i j k m) [pp 0,.agg (dP.c a)] (aI r.1) (EF r.2.1 r.2.2.1 r.2.2.2.1 r.2.2.2.2.1 r.2.2.2.2.2.1 m r.2.2.2.2.2.2.1 r.2.2.2.2.2.2.2.1 r.2.2.2.2.2.2.2.2.1 r.2.2.2.2.2.2.2.2.2.1 r.2.2.2.2.2.2.2.2.2.2):=by
 refine fG Tryz.func54 ?_
 unfold BT at h
 (conv=>whnf);left;obtain⟨b,hy,h⟩:=dS h;rcases b with b|b
 ·replace h:=jH h;(conv=>whnf);refine cg [0,1,2,3,4,5,6,7,8,9] (B2 hy) ?_;exact qG (ii 4 [(9,9),(10,4),(11,5),(12,6),(13,7),(14,8)])
 replace h:=jI h;(conv=>whnf);refine cg [0,1,2,3,4,5,6,7,8,9] (B3 hy) ?_;(conv=>whnf);left;refine bS h (fun h=>?_) fun h=>?_
 ·(conv=>whnf);obtain⟨hg,h⟩:=cQ h;cases h;refine gF 1 202 b.2.1 b.2.2.1 (@Sum.inr ae af (af.mk b.2.2.2.2.2.2.2.2.1 b.2.2.2.2.2.2.2.2.2.1 b.2.2.2.2.2.2.1 b.2.2.2.2.2.2.2.2.2.2.1 b.2.2.2.2.2.2.2.2.2.2.2.1 b.2.2.2.2.2.2.2.2.2.2.2.2 b.2.2.2.2.2.2.2.1 b.2.2.2.1 b.2.2.2.2.1 b.2.2.2.2.2.1)) [202,203,205,206,204,207] ?_;exact gI (ii 4 [(9,9),(10,4),(11,5),(12,6),(13,7),(14,8)])
 (conv=>whnf);left;(conv=>whnf);refine cR h (fun h=>eT (UI h) rfl) fun n h=>?_;(conv=>whnf);left;(conv=>whnf);refine aX ?_;obtain⟨d,hy,h⟩:=dS h;rcases d with d|d
 ·replace h:=jH h;(conv=>whnf);refine cg [0,1,2,3,4,5,6,7,202,8,9,203,204,205,206,207] (Ih hy) ?_;exact qG (ii 10 [(10,1072),(11,1073),(12,1074),(13,1075),(14,1076)])
 replace h:=jI h;(conv=>whnf);refine cg [0,1,2,3,4,5,6,7,202,8,9,203,204,205,206,207] (Ii hy) ?_;exact qG (ii 10 [(10,1072),(11,1073),(12,1074),(13,1075),(14,1076)])
theorem VT{p a1 r}(h:En F p a1=some r):FZ ml 160 [] [.agg (bQ.c p),AV.rp (bG IntKind.i64 a1) 0] (.bool r) []:=by
 refine fA Tryz.func160 ?_
 unfold En at h;exact qR
theorem XM{s f0 r}(h:Ey F s f0=some r):FZ ml 159 [] [sM bQ.c s,AV.fn 160 ((AV.rp (bG IntKind.i64 f0) 0)::[])] (aI r) []:=by
 refine fA Tryz.func159 ?_
 unfold Ey at h
 (conv=>whnf);refine jS h fun o0 vu=>jT [] [] 0 (fun h k0 e=>?_) fun h=>?_
 ·(conv=>whnf);left;(conv=>whnf);refine lI (fun n' x'=>yK F s f0 n' x') (fun x'=>[(0,sM bQ.c s),(1,AV.fn 160 ((AV.rp ((AV.int IntKind.i64 f0)::[]) 0)::[])),(7,aI (@Nat.cast Int instNatCastInt (List.length (List.map bQ.c s)))),(8,aI x')]) (fun x'=>[]) 0 (0:Int) [] h ?_;rintro a b h;rw[yK.eq_2]at h;(conv=>whnf);left;refine bS h (fun h=>?_) fun h=>?_
  ·(conv=>whnf);left;(conv=>whnf);refine gX h fun h=>?_;(conv=>whnf);refine oB h fun d h=>?_;(conv=>whnf);left;(conv=>whnf);refine cL h VT fun f h=>?_;(conv=>whnf);left;refine bS h (fun h=>?_) fun h=>?_
   ·cases h;cases k0;exact rfl
   exact rE (a,(IntKind.wrap IntKind.i64 (b+(1:Int)))) [] h
  exact qE []
 exact qR
theorem H9{id c l m r}(h:wH F id c l m=some r):FZ ml 107 (T6 c l m) [pp 0,aI id] (aI r) (T6 c l m):=by
 refine fG Tryz.func107 ?_
 unfold wH at h
 (conv=>whnf);left;(conv=>whnf);left;(conv=>whnf);left;(conv=>whnf);exact cL h XM fun a h=>qG [(0,0),(1,1),(2,2)]
theorem HE{a b r}(h:uu F a b=some r):FZ ml 123 [] [aI a,aI b] (.agg (ag.c r)) []:=by
 refine fA Tryz.func123 ?_
 unfold uu at h;exact qR
theorem Xi{p c l m r}(h:Ec F p c l m=some r):FZ ml 108 (T6 c l m) [pp 0,.agg (bQ.c p)] (.bool r) (T6 c l m):=by
 refine fG Tryz.func108 ?_
 unfold Ec at h
 (conv=>whnf);left;(conv=>whnf);left;(conv=>whnf);refine cL h HE fun e h=>?_;(conv=>whnf);refine aX ?_;(conv=>whnf);refine Or.inr (PX (ek:=(fun(d:ag)=>(AV.agg (ag.c d)))) (en:=(fun(d:Int)=>(AV.int IntKind.i64 d))) m e (0:Int) rfl rfl (fun a b=>(Hf Tryz.underlying218 _ _ _ _ _ _).trans (by cases a;cases b;simp)) ⟨3,.int IntKind.i64 0,by kernel_rfl,by kernel_rfl,(Wk.refl _)⟩ ?_);exact qG [(0,0),(1,1),(2,2)]
theorem XK{i j l r}(h:Ex F i j l=some r):FZ ml 161 [(0,(AO.rows true (List.map bQ.c l)))] [(AV.an 0 4),aI i,aI j] (AV.an 1 4) [(1,(AO.rows true (List.map bQ.c r)))]:=by
 unfold Ex at h
 obtain⟨hg,h⟩:=dA h
 cases h
 obtain⟨g1,rfl,g3⟩:=hg
 have hF:=Se (G:=GM ml) (s:=List.map bQ.c l) (p:=true) (i:=Int.toNat i) TT (by decide) (fun r hr=>by obtain⟨y,_,rfl⟩:=YM.1 hr;rfl) (by simpa using g3)
 rw[Int.toNat_of_nonneg g1]at hF
 have e:List.map bQ.c (List.take (Int.toNat i) l++List.drop (Int.toNat i+1) l)=List.take (Int.toNat i) (List.map bQ.c l)++List.drop (Int.toNat i+1) (List.map bQ.c l):=by rw[Yd,List.map_take,List.map_drop]
 rw[e];exact hF
theorem M0{i c l m r}(h:yt F i c l m=some r):FZ ml 109 (T6 c l m) [pp 0,aI i] (.agg (bQ.c r.1)) (yQ r.2.1 m r.2.2):=by
 refine fG Tryz.func109 ?_
 unfold yt at h
 (conv=>whnf);left;(conv=>whnf);refine gX h fun h=>?_;(conv=>whnf);refine oB h fun a h=>?_;(conv=>whnf);refine oB h fun b h=>?_;(conv=>whnf);left;(conv=>whnf);exact cG [1] h XK fun d h=>qG [(0,0),(1,1),(2,2),(3,609)]
end Go.T
