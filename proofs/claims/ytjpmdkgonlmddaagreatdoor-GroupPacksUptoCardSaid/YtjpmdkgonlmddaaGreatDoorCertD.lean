import Derived.Test.YtjpmdkgonlmddaaGreatDoorCertC
set_option linter.unusedVariables false
set_option maxRecDepth 200000
set_option maxHeartbeats 4000000
namespace Go.T
open Go Go.Ab Go.Proofs
variable {ml:Gv}{F:Nat}
theorem PJ{f eS r}(h:tt F f eS=some r):FZ ml 126 [] [.agg (bD.c f),.agg (bD.c eS)] (.bf 0 1) (wT r):=by
 refine fG Tryz.func126 ?_;unfold tt at h
 (conv=>whnf);left;refine(ak)<|jN h λ l=>jM [(2,pp 0),(3,pp 1),(5,.bf 2 1),(21,.bool l)] (me f++[(1,rF (bD.c eS)),(2,rT (fJ cB) [])]) 3 (λ h=>?_) λ h=>?_
 ·refine(ay)<|bS h (λ h=>?_) λ h=>?_
  ·cases h;exact eE [(0,32),(1,64),(2,128)]
  cases h;exact eE [(0,32),(1,64),(2,128)]
 refine(ae)<|jN h λ i=>jM [(2,pp 0),(3,pp 1),(5,.bf 2 1)] (me f++[(1,rF (bD.c eS)),(2,rT (fJ cB) i)]) 3 (λ h=>?_) λ h=>?_
 ·refine(ay)<|bS h (λ h=>?_) λ h=>?_
  ·refine(ak)<|cL h wD λ w h=>?_;refine(ak)<|cL h wD λ x h=>?_;(conv=>whnf);left;(conv=>whnf);left;obtain⟨y,hy,h⟩:=eB h;refine⟨_,_,(lZ (cT rfl (cT (YU AV.sl rQ) rfl)) (Fx hy)),Or.inr ⟨[227],rfl,?_⟩⟩;refine(ak)<|aX ?_;refine(ae)<|aX ?_;refine(ae)<|gS h λ h=>?_;refine(ae)<|aX ?_;cases h;exact eE [(0,0),(1,1),(2,323)]
  exact qE [(0,0),(1,1),(2,2)]
 refine(ak)<|jN h λ m=>jM [(3,pp 0),(5,.bf 1 1),(6,pp 2),(55,.bool m)] (me eS++[(1,rT (fJ cB) i),(2,rF (ca.c f.Trail))]) 3 (λ h=>qE [(0,1),(1,2),(2,67)]) λ h=>?_;refine(ae)<|jN h λ⟨g,a,d,b⟩=>jM [(3,pp 0),(5,.bf 1 1),(6,pp 2)] (Am eS g a d b) 3 (λ h=>?_) λ h=>?_
 ·refine(ay)<|bS h (λ h=>?_) λ h=>?_
  ·refine(ak)<|cL h wD λ z h=>?_;refine(ak)<|cL h wD λ A h=>?_;refine(ak)<|cL h PG λ B h=>?_;(conv=>whnf);left;(conv=>whnf);left;obtain⟨C,hy,h⟩:=eB h;refine⟨_,_,(lZ (cT rfl (cT (YU AV.sl rQ) rfl)) (Fx hy)),Or.inr ⟨[387],rfl,?_⟩⟩;refine(ak)<|aX ?_;refine(ae)<|aX ?_;refine(ae)<|gS h λ h=>?_;refine(ae)<|aX ?_;refine(ak)<|cR h Kk λ D h=>?_;cases h;exact eE [(0,0),(1,483),(2,2)]
  exact qE [(0,0),(1,1),(2,2)]
 refine(ae)<|jN h λ e=>jM [(3,pp 0),(5,.bf 1 1),(6,pp 2),(7,aI e)] (Am eS g a d b) 3 (λ h=>?_) λ h=>?_
 ·refine(ak)<|lI (λ n' x'=>tD F eS b n' x') (λ x'=>[(3,pp 0),(5,.bf 1 1),(6,pp 2),(7,aI x')]) (λ x'=>(Am eS g a d b)) 3 0 [(0,0),(1,1),(2,2)] h ?_;rintro n j h;rw[tD.eq_2]at h;refine(ae)<|jN h λ o=>jM [(3,pp 0),(5,.bf 1 1),(6,pp 2),(7,aI j),(106,.bool o)] (Am eS g a d b) 3 (λ h=>?_) λ h=>?_
  ·refine(ay)<|bS h (λ h=>?_) λ h=>?_
   ·refine(ae)<|bS h (λ h=>?_) λ h=>?_
    ·refine(ae)<|gX h λ h=>?_;refine(ae)<|oB h λ E h=>?_;refine(ae)<|gX h λ h=>?_;refine(ae)<|oB h λ G h=>?_;exact qE [(0,0),(1,1),(2,2)]
    exact qE [(0,0),(1,1),(2,2)]
   exact qE [(0,0),(1,1),(2,2)]
  refine(ay)<|bS h (λ h=>?_) λ h=>?_
  ·exact(ay)<|rE (n,(IntKind.wrap IntKind.i64 (j+(1:Int)))) [(0,0),(1,1),(2,2)] h
  exact qE [(0,0),(1,1),(2,2)]
 refine(ae)<|aX ?_;refine(ae)<|gX h λ h=>?_;refine(ae)<|gS h λ h=>?_;refine(ae)<|gS h λ h=>?_;refine(ae)<|jN h λ k=>jM [(3,pp 0),(5,.bf 1 1),(6,pp 2),(7,aI e)] (Am eS k a d b) 3 (λ h=>?_) λ h=>?_
 ·refine(ak)<|lI (λ n' x'=>tC F eS a e n' x'.1 x'.2) (λ x'=>[(3,pp 0),(5,.bf 1 1),(6,pp 2),(7,aI e),(113,sM bx.c (List.drop (Int.toNat e) eS.Trail.Entries)),(114,aI ((List.length (@cut (@List AV) (some (Operand.tmp 112)) none (List.map bx.c eS.Trail.Entries) (Int.toNat e) (List.length (List.map bx.c eS.Trail.Entries))):Nat):Int)),(115,aI x'.1)]) (λ x'=>(Am eS x'.2 a d b)) 3 (0,g) [(0,0),(1,1),(2,2)] h ?_;rintro p ⟨q,s⟩ h;dsimp only at h;rw[tC.eq_2]at h;refine(ay)<|bS h (λ h=>?_) λ h=>?_
  ·refine(ak)<|gX h λ h=>?_;refine(ae)<|oB h λ H h=>?_;(conv=>whnf);left;refine(ak)<|cL h wD λ I h=>?_;refine(ak)<|cL h wD λ J h=>?_;refine(ak)<|cL h PG λ K h=>?_;(conv=>whnf);left;(conv=>whnf);left;obtain⟨t,hy,h⟩:=eB h;refine⟨_,_,(lZ (cT rfl (cT (YU AV.sl rQ) rfl)) (Fx hy)),Or.inr ⟨[707],rfl,?_⟩⟩;refine(ak)<|aX ?_;refine(ae)<|aX ?_;refine(ae)<|gS h λ h=>?_;refine(ae)<|aX ?_;exact rE (p,(IntKind.wrap IntKind.i64 (q+(1:Int))),(s++(t::[]))) [(0,0),(1,803),(2,2)] h
  exact qE [(0,0),(1,1),(2,2)]
 refine(ae)<|jN h λ u=>jM [(5,.bf 0 1),(6,pp 1),(7,aI e),(152,.bool u)] (wT k++[(1,rF [aI a,aI d,sM bx.c b])]) 2 (λ h=>qE [(0,1),(1,2)]) λ h=>?_;refine(ae)<|jN h λ v=>jM [(5,.bf 0 1)] (wT v) 1 (λ h=>?_) λ h=>?_
 ·refine(ay)<|bS h (λ h=>?_) λ h=>?_
  ·refine(ak)<|cL h wD λ L h=>?_;(conv=>whnf);left;(conv=>whnf);left;obtain⟨M,hy,h⟩:=eB h;refine⟨_,_,(lZ (cT rfl (cT (YU AV.sl rQ) rfl)) (Fx hy)),Or.inr ⟨[194],rfl,?_⟩⟩;refine(ak)<|aX ?_;refine(ae)<|aX ?_;refine(ae)<|gS h λ h=>?_;cases h;exact eE [(0,290)]
  exact qE [(0,0)]
 exact qG [(0,0)]
theorem Zil{rec c a b d fs l r}(h:wN F rec c a b d fs l=some r):FZ ml 127 (DB c a b d fs l) [pp 0,sM cB rec] (aI r.1) (Ao r.2.1 r.2.2.1 r.2.2.2.1 r.2.2.2.2.1 r.2.2.2.2.2.1 r.2.2.2.2.2.2):=by
 refine fG Tryz.func127 ?_;unfold wN at h
 (conv=>whnf);left;(conv=>whnf);left;refine(ak)<|cR h PI λ e h=>?_;refine(ay)<|bS h (λ h=>qG [(0,0),(1,1),(2,2),(4,3)]) λ h=>?_;exact(ae)<|cG [1,2,3] h PY λ f h=>qG (ii 4 [(4,931)])
theorem KB{r_ rf c m n o fs l r}(h:Ah F r_ rf c m n o fs l=some r):FZ ml 83 (Ap rf c m n o fs l) [pp 0,.agg (bD.c r_)] (aI r.1) (KJ r.2.1 r.2.2.1 r.2.2.2.1 r.2.2.2.2.1 r.2.2.2.2.2.1 r.2.2.2.2.2.2.1 r.2.2.2.2.2.2.2):=by
 refine fG Tryz.func83 ?_;unfold Ah at h;refine(ak)<|jN h λ q=>jM [(0,pp 0),(3,pp 5),(41,.bool q)] (Ap rf c m n o fs l++[(5,rF (bD.c r_))]) 6 (λ h=>?_) λ h=>?_
 ·(conv=>whnf);left;refine(ak)<|cL h qS λ z h=>?_;refine(ae)<|bS h (λ h=>qE (ii 5 [(5,32)])) λ h=>?_;refine(ae)<|bS h (λ h=>qE (ii 5 [(5,32)])) λ h=>?_;exact(ak)<|cL h ZgB λ A h=>qE (ii 5 [(5,32)])
 refine(ay)<|bS h (λ h=>qG (ii 4 [(5,4)])) λ h=>?_;refine(ak)<|cR h (λ h=>fx (PJ h) rfl) λ p h=>?_;refine(ae)<|aX ?_;refine(ae)<|jS h λ o1 ⟨s,t,u,v,w,x⟩=>jT [(0,pp 0),(3,pp 5)] (Qb rf s (t) (u) (v) w r_ x) 7 (λ h k1 e=>?_) λ h=>?_
 ·refine(ak)<|lI (λ n' ⟨a,d,f,g,i,j,k⟩=>yv F rf p n' a d f g i j k) (λ⟨a,d,f,g,i,j,k⟩=>[(0,pp 0),(3,pp 5),(47,sM (fJ cB) p),(48,aI ((List.length (List.map (fJ cB) p):Nat):Int)),(49,aI a)]) (λ⟨a,d,f,g,i,j,k⟩=>(Qb rf d f g i j r_ k)) 7 (0,c,m,n,o,fs,l) (ii 4 [(5,5),(6,4)]) h ?_;rintro y ⟨a,d,f,g,i,j,k⟩ h;dsimp only at h;rw[yv.eq_2]at h;refine(ay)<|bS h (λ h=>?_) λ h=>?_
  ·refine(ak)<|gX h λ h=>?_;refine(ae)<|oB h λ B h=>?_;refine(ae)<|cG [1,2,3,6] h Zil λ b h=>?_;refine(ay)<|bS h (λ h=>?_) λ h=>?_
   ·cases h;cases k1;exact gI (ii 5 [(5,299)])
   exact rE (y,(IntKind.wrap IntKind.i64 (a+(1:Int))),b.2.1,b.2.2.1,b.2.2.2.1,b.2.2.2.2.1,b.2.2.2.2.2.1,b.2.2.2.2.2.2) (ii 6 [(6,299)]) h
  exact qE (ii 7 [])
 exact(ak)<|cR h qi λ C h=>qG (ii 5 [(5,6)])
theorem ZhR{a f c fs l r}(h:qk F a f c fs l=some r):FZ ml 122 [(0,(AO.rows false [[(AV.bm 1),(AV.bf 2 2),aI c]])),(1,(fS fs)),(2,(AO.rows true (List.map bP.c l)))] [(AV.ptr 0 0 0),aI a,aI f] (AV.cx []) [(0,(AO.rows false [[(AV.bm 1),(AV.bf 3 2),aI r.1]])),(1,(fS r.2)),(2,(AO.rows true (List.map bP.c l))),(3,(AO.rows true []))]:=by
 refine Mw (os:=[(0,(AO.rows false [[(AV.bm 1),AV.dK,aI r.1]])),(1,(fS r.2)),(2,(AO.rows true (List.map bP.c l)))]) 0 0 1 2 ?_ (by show 3≤W;decide) rfl rfl rfl rfl (lH [(0,0),(1,1),(2,2),(3,32)] rfl rfl rfl)
 refine mR 2000 Tryz.func122 rfl (by kernel_rfl) mixed (by show 3≤80;decide) (by show 3≤W;decide) rfl ?_
 unfold qk at h;refine oL ?_
 conv=>whnf
 obtain⟨o4,h4,k4⟩:=eB h;refine Or.inr (EJ True [(0,(AV.ptr 0 0 0))] [(0,(AO.rows false [[(AV.bm 1),(AV.bf 2 2),aI o4.1]])),(1,(fS o4.2)),(2,(AO.rows true (List.map bP.c l)))] 3 ?_ (λ _=>?_))
 ·refine oL ?_
  conv=>whnf
  refine xG (α:=(Nat×Int×Int×(List (aj×aa)))) (λ xq=>[(0,(AV.ptr 0 0 0)),(1,(aI (if(((List.length (List.map bP.c l):Nat):Int)<(if(0>a)then(0:Int)else a))then((List.length (List.map bP.c l):Nat):Int)else(if(0>a)then(0:Int)else a)))),(2,aI f),(6,aI xq.2.1)]) (λ xq=>[(0,(AO.rows false [[(AV.bm 1),(AV.bf 2 2),aI xq.2.2.1]])),(1,(fS xq.2.2.2)),(2,(AO.rows true (List.map bP.c l)))]) 3 (λ xq=>pz F a f l xq.1 xq.2.1 xq.2.2.1 xq.2.2.2=some o4) (λ xq=>xq.1) (F,(IntKind.wrap IntKind.i64 (((List.length (List.map bP.c l):Nat):Int)-(1:Int))),c,fs) [(0,0),(1,1),(2,2)] h4 rfl rfl rfl ?_;rintro⟨i,k,m,d⟩ h4
  replace h4:pz F a f l i k m d=some o4:=h4;cases i with
  |zero=>rw[pz.eq_1]at h4;cases h4
  |succ i=>
   rw[pz.eq_2]at h4;refine oL ?_
   conv=>whnf
   refine iv (λ hb=>?_) (λ hb=>?_)
   ·replace h4:=si h4 (by first|exact hb|(simp;done)|simpa using hb|simpa[chunk]using hb|(simp[chunk]at hb⊢;omega))
    refine oL ?_;obtain⟨hg,h4⟩:=dU h4;refine⟨hg,?_⟩
    conv=>whnf
    obtain⟨n,hy,h4⟩:=eB h4;refine oG hy ?_
    conv=>whnf
    obtain⟨e,hy,h4⟩:=eB h4;refine oG hy ?_;refine oL ?_
    conv=>whnf
    obtain⟨j,h8,k8⟩:=eB h4;refine Or.inr (EJ True [(0,(AV.ptr 0 0 0)),(1,(aI (if(((List.length (List.map bP.c l):Nat):Int)<(if(0>a)then(0:Int)else a))then((List.length (List.map bP.c l):Nat):Int)else(if(0>a)then(0:Int)else a)))),(2,aI f),(6,aI k),(7,(AV.ptr 3 0 0)),(8,aI j)] [(0,(AO.rows false [[(AV.bm 1),(AV.bf 2 2),aI m]])),(1,(fS d)),(2,(AO.rows true (List.map bP.c l))),(3,(AO.rows false [[AV.str e.name,aI e.size]]))] 4 ?_ (λ _=>?_))
    ·refine oL ?_
     conv=>whnf
     refine iv (λ hb=>?_) (λ hb=>?_)
     ·replace h8:=si h8 (by first|exact hb|(simp;done)|simpa using hb|simpa[chunk]using hb|(simp[chunk]at hb⊢;omega))
      conv=>whnf
      cases h8;exact eI [(0,0),(1,1),(2,2),(3,323)]
     replace h8:=sh h8 (by first|exact hb|(simp;done)|simpa using hb|simpa[chunk]using hb|(simp[chunk]at hb⊢;omega))
     conv=>whnf
     cases h8;exact eI [(0,0),(1,1),(2,2),(3,323)]
    refine⟨by kernel_rfl,?_⟩
    conv=>whnf
    refine both (b:=(Option.isSome (az e.name d))) (λ hb=>?_) (λ hb=>?_)
    ·replace k8:=si k8 hb;refine zx (ek:=(λ(g:(@List UInt8))=>(AV.str g))) (en:=cB) d e.name rfl rfl (nJ Tryz.underlying9) hb ?_;refine⟨by kernel_rfl,?_⟩
     refine And.intro (eF.map (λ _=>rfl)) ?_
     conv=>whnf
     refine Or.inr ?_
     conv=>whnf
     refine⟨_,_,rfl,rfl,rfl,rfl,?_⟩;obtain⟨hg,k8⟩:=dU k8;refine And.intro (by first|exact hg|(simp;done)|simpa using hg|simpa[chunk]using hg|(simp[chunk]at hg⊢;omega)) ?_
     obtain⟨hg,k8⟩:=dU k8;refine And.intro (by first|exact hg|(simp;done)|simpa using hg|simpa[chunk]using hg|(simp[chunk]at hg⊢;omega)) ?_
     refine⟨by kernel_rfl,?_⟩
     conv=>whnf
     obtain⟨hg,k8⟩:=dU k8;refine xC (ek:=(λ(g:(@List UInt8))=>(AV.str g))) (en:=cB) d e.name (List.take (Int.toNat (IntKind.wrap IntKind.i64 (((List.length (List.map cB (Option.getD (az e.name d) [])):Nat):Int)-j))) (Option.getD (az e.name d) [])) 612 rfl rfl (nJ Tryz.underlying9) (.inr ⟨by assumption,rfl⟩) hg rfl _ rfl (by first|(simp;done)|rfl|(rw[Yj];rfl)) (λ _=>rfl) rfl ?_
     refine⟨by kernel_rfl,?_⟩
     conv=>whnf
     exact we (i,(IntKind.wrap IntKind.i64 (k-(1:Int))),(IntKind.wrap IntKind.i64 (m-j)),(bW e.name (List.take (Int.toNat (IntKind.wrap IntKind.i64 (((List.length (List.map cB (Option.getD (az e.name d) [])):Nat):Int)-j))) (Option.getD (az e.name d) [])) d)) [(0,0),(1,1),(2,2)] k8 (Vo _) rfl rfl rfl
    replace k8:=sh k8 hb;refine zw (ek:=(λ(g:(@List UInt8))=>(AV.str g))) (en:=cB) d e.name .dK rfl rfl (nJ Tryz.underlying9) hb ⟨80,.dK,by kernel_rfl,by kernel_rfl,.refl _⟩ ?_
    refine⟨by kernel_rfl,?_⟩
    conv=>whnf
    cases k8
   replace h4:=sh h4 (by first|exact hb|(simp;done)|simpa using hb|simpa[chunk]using hb|(simp[chunk]at hb⊢;omega))
   conv=>whnf
   cases h4;exact eI [(0,0),(1,1),(2,2)]
 obtain⟨o,p⟩:=o4;refine oL ?_
 conv=>whnf
 cases k4;exact gI [(0,0),(1,1),(2,2)]
theorem F8{f g rf c i j a fs l b d e r}(h:sG F f g rf c i j a fs l b d e=some r):FZ ml 78 (Gj rf true c i j a fs l b d e) [pp 0,aI f,aI g] (.cx []) (Qe r.1 false r.2.1 r.2.2.1 r.2.2.2.1 a r.2.2.2.2 l b d e++[(6,.rows true [])]):=by
 refine fG Tryz.func78 ?_;unfold sG at h;refine(ae)<|cG [1,3,4] h ZhR λ k h=>?_;(conv=>whnf);left;cases h;exact gW (ii 6 [(6,227)])
theorem Ac{rf c f g a fs l b d e r}(h:tB F rf c f g a fs l b d e=some r):FZ ml 84 (Gj rf true c f g a fs l b d e) [pp 0] (aI r.1) (Qe r.2.1 false r.2.2.1 r.2.2.2.1 r.2.2.2.2.1 a r.2.2.2.2.2 l b d e++[(6,.rows true [])]):=by
 refine fG Tryz.func84 ?_;unfold tB at h;exact(ae)<|cG [0,1,2,3,4,5] h F8 λ i h=>qG (ii 6 [(6,102)])
theorem ZiZ{c a b d fs l r}(h:CV F c a b d fs l=some r):FZ ml 128 (DB c a b d fs l) [pp 0] (aI r.1) (Ao c a b r.2.1 fs r.2.2):=by
 refine fG Tryz.func128 ?_;unfold CV at h
 (conv=>whnf);left;exact(ak)<|cG [1,2,3] h P5 λ e h=>qG (ii 4 [(4,611)])
theorem Kz{rf c a b d fs l r}(h:wJ F rf c a b d fs l=some r):FZ ml 85 (Ap rf c a b d fs l) [pp 0] (aI r.1) (KJ rf c a b r.2.1 fs r.2.2):=by
 refine fG Tryz.func85 ?_;unfold wJ at h
 (conv=>whnf);left;exact(ak)<|cG [1,2,3,4] h ZiZ λ e h=>qG (ii 5 [(5,484)])
theorem tA{n r}(h:pr F n=some r):FZ ml 29 [] [aI n] (.agg (cA.c r)) []:=by
 refine fA Tryz.func29 ?_;unfold pr at h;exact qR
theorem Pl{s r}(h:zz F s=some r):FZ ml 30 [] [.str s] (.agg (cA.c r)) []:=by
 refine fA Tryz.func30 ?_;unfold zz at h;exact qR
theorem Pk{m r}(h:CR F m=some r):FZ ml 10 [] [.agg (cj.c m)] (.str r) []:=by
 refine fA Tryz.func10 ?_;unfold CR at h
 (conv=>whnf);left;refine(ay)<|bS h (λ h=>qR) λ h=>?_;refine(ae)<|jN h λ a=>jM [(1,pp 0),(3,aI a)] [(0,rF (cj.c m))] 1 (λ h=>qE [(0,32)]) λ h=>?_;refine(ak)<|cL h tA λ b h=>?_;refine(ak)<|cL h tA λ d h=>?_;refine(ak)<|cL h tA λ e h=>?_;refine(ak)<|cL h tA λ f h=>?_;refine(ak)<|cL h tA λ g h=>?_;refine(ak)<|cL h tA λ i h=>?_;refine(ak)<|cL h tA λ j h=>?_;refine(ak)<|cL h tA λ k h=>?_;refine(ak)<|cL h tA λ l h=>?_;refine(ak)<|aX ?_;refine(ae)<|jN h λ n=>jM [(1,pp 0),(4,.bf 1 3)] [(0,rF (cj.c m)),(1,rT cA.c n)] 2 (λ h=>?_) λ h=>?_
 ·refine(ak)<|lI (λ n' x'=>ye F m n' x'.1 x'.2) (λ x'=>[(1,pp 0),(4,.bf 1 3),(44,sM bx.c m.Entries),(45,aI ((List.length (List.map bx.c m.Entries):Nat):Int)),(46,aI x'.1)]) (λ x'=>[(0,rF (cj.c m)),(1,rT cA.c x'.2)]) 2 (0,(b::(d::(e::(f::(g::(i::(j::(k::(l::[])))))))))) [(0,0),(1,865)] h ?_;rintro o ⟨p,q⟩ h;dsimp only at h;rw[ye.eq_2]at h;refine(ay)<|bS h (λ h=>?_) λ h=>?_
  ·refine(ak)<|gX h λ h=>?_;refine(ae)<|oB h λ u h=>?_;(conv=>whnf);left;refine(ak)<|cL h tA λ s h=>?_;refine(ak)<|cL h Pl λ t h=>?_;(conv=>whnf);left;(conv=>whnf);refine And.intro (eF.cons rfl (eF.cons rfl eF.nil)) ?_;refine(ae)<|aX ?_;refine(ae)<|gS h λ h=>?_;refine(ae)<|aX ?_;exact rE (o,(IntKind.wrap IntKind.i64 (p+(1:Int))),(q++(s::(t::[])))) [(0,0),(1,418)] h
  exact qE [(0,0),(1,1)]
 refine(ak)<|cL h Pl λ v h=>?_;refine(ak)<|aX ?_;refine(ae)<|aX ?_;refine(ae)<|gS h λ h=>?_;(conv=>whnf);left;obtain⟨w,hy,h⟩:=eB h;refine⟨_,_,(lZ (cT (YU AV.sl rQ) rfl) (fx (FE hy) rfl)),Or.inr ⟨[162],rfl,?_⟩⟩;refine(ay)<|bS h (λ h=>qR) λ h=>?_;(conv=>whnf);obtain⟨hg,h⟩:=Ja h;refine⟨_,JY rQ hg,?_⟩;exact qR
theorem P1{p c l m r}(h:ym F p c l m=some r):FZ ml 117 (T6 c l m) [pp 0,.agg (cD.c p)] (.cx [aI r.1,aI r.2.1]) (An r.2.2.1 m r.2.2.2):=by
 refine fG Tryz.func117 ?_;unfold ym at h
 (conv=>whnf);left;refine(ay)<|bS h (λ h=>qG [(0,0),(2,2),(3,1)]) λ h=>?_;refine(ak)<|aX ?_;refine(ae)<|aX ?_;refine(ae)<|gS h λ h=>?_;refine(ak)<|aX ?_;cases h;exact gE [(0,0),(1,1),(2,2),(3,992)]
theorem PV{a eS b c l m r}(h:C0 F a eS b c l m=some r):FZ ml 103 (T6 c l m) [pp 0,aI a,aI eS,.str b] (.cx [aI r.1,aI r.2.1]) (An r.2.2.1 m r.2.2.2):=by
 refine fG Tryz.func103 ?_;unfold C0 at h
 (conv=>whnf);left;refine(ay)<|bS h (λ h=>qG [(0,0),(2,2),(3,1)]) λ h=>?_;exact(ak)<|cG [0,1,2] h P1 λ d h=>qG [(0,0),(1,1),(2,2),(3,483)]
theorem P2{sum tb l r}(h:zV F sum tb l=some r):FZ ml 155 [(0,(AO.rows true [(@eJ tb)])),(1,(AO.rows true (List.map cB l)))] [(AV.ptr 0 0 0),(AV.int IntKind.u32 sum),(AV.bf 1 1)] (AV.int IntKind.u32 r.1) [(0,(AO.rows true [(@eJ r.2)])),(1,(AO.rows true (List.map cB l)))]:=by
 unfold zV at h;obtain⟨hg,h⟩:=dU h;cases h;exact XJ tb sum l hg
theorem ZhB{u e c t gs gk j tb l k n o rf a b p m q d fs s f g i r}(h:Di F u e c t gs gk j tb l k n o rf a b p m q d fs s f g i=some r):FZ ml 156 (T4 c t gs gk j tb l k n o rf true a b p m q d fs s f g i) [pp 0,aI u,.agg (bx.c e)] (.cx []) (T3 r.1 r.2.1 gs gk r.2.2.1 r.2.2.2.1 rf true a b m r.2.2.2.2.1 d fs f g i r.2.2.2.2.2.1 r.2.2.2.2.2.2.1 r.2.2.2.2.2.2.2.1 r.2.2.2.2.2.2.2.2.1 r.2.2.2.2.2.2.2.2.2.1 r.2.2.2.2.2.2.2.2.2.2):=by
 refine fG Tryz.func156 ?_;unfold Di at h
 (conv=>whnf);left;(conv=>whnf);left;refine(ay)<|bS h (λ h=>?_) λ h=>?_
 ·refine(ae)<|jN h λ v=>jM [] (T4 c v gs gk j tb l k n o rf true a b p m q d fs s f g i) 16 (λ h=>?_) λ h=>?_
  ·refine(ay)<|bS h (λ h=>qE (ii 16 [])) λ h=>?_;refine(ae)<|gX h λ h=>?_;refine(ae)<|oB h λ x h=>?_;refine(ae)<|oB h λ y h=>?_;exact qE (ii 16 [])
  exact qG (ii 4 [(8,8),(10,10),(11,11),(12,12),(13,13),(15,15),(16,4),(17,5),(18,6),(19,7),(20,9),(21,14)])
 refine(ay)<|bS h (λ h=>?_) λ h=>?_
 ·(conv=>whnf);refine And.intro (by omega) ?_;refine(ae)<|oB h λ z h=>?_;refine(ae)<|oB h λ A h=>?_;refine(ae)<|jN h λ w=>jM [(0,pp 0),(5,pp 16),(6,aI ((List.length (List.map bx.c l):Nat):Int)),(7,aI w)] (T4 c t gs gk j tb l k n o rf true a b p m q d fs s f g i++[(16,rF (bx.c e))]) 17 (λ h=>qE (ii 16 [(16,32)])) λ h=>?_;refine(ak)<|aX ?_;refine(ae)<|aX ?_;refine(ae)<|gS h λ h=>?_;(iterate 5 ((conv=>whnf);first|refine oL ?_|refine aX ?_));refine(ae)<|gS h λ h=>?_;(conv=>whnf);left;(conv=>whnf);refine And.intro (by omega) ?_;refine(ae)<|oB h λ B h=>?_;refine(ae)<|oB h λ C h=>?_;refine(ae)<|gX h λ h=>?_;refine(ae)<|cG [3,1297] h P2 λ D h=>?_;refine(ak)<|aX ?_;refine(ae)<|aX ?_;refine(ae)<|gS h λ h=>?_;refine(ak)<|aX ?_;cases h;exact gE (ii 7 [(8,8),(10,10),(11,11),(12,12),(13,13),(15,15),(16,241),(17,593),(18,1393),(19,7),(20,9),(21,14)])
 exact qG (ii 4 [(8,8),(10,10),(11,11),(12,12),(13,13),(15,15),(16,4),(17,5),(18,6),(19,7),(20,9),(21,14)])
theorem PT{G c H rf I J gs gk x tb l y z A B b C m fs D d e f r}(h:Df F G c H rf I J gs gk x tb l y z A B b C m fs D d e f=some r):FZ ml 104 (T8 c H rf true I J gs gk x tb l y z A B b C m fs D d e f) [pp 0,pp 1,aI G] (.cx []) (Qj r.1 r.2.1 r.2.2.1 true r.2.2.2.1 r.2.2.2.2.1 gs gk r.2.2.2.2.2.1 r.2.2.2.2.2.2.1 r.2.2.2.2.2.2.2.1 b m fs d e f r.2.2.2.2.2.2.2.2.1 r.2.2.2.2.2.2.2.2.2.1 r.2.2.2.2.2.2.2.2.2.2.1 r.2.2.2.2.2.2.2.2.2.2.2.1 r.2.2.2.2.2.2.2.2.2.2.2.2.1 r.2.2.2.2.2.2.2.2.2.2.2.2.2):=by
 refine fG Tryz.func104 ?_;unfold Df at h;refine(ak)<|jN h λ⟨K,L,M,N⟩=>jM [(0,pp 0),(1,pp 1),(2,aI K),(6,pp 16)] (T8 c L rf true M N gs gk x tb l y z A B b C m fs D d e f++[(16,rF (ca.c rf.Trail))]) 17 (λ h=>?_) λ h=>?_
 ·refine(ay)<|bS h (λ h=>?_) λ h=>?_
  ·refine(ak)<|cL h yk λ O h=>?_;refine(ae)<|jN h λ Q=>jM [(0,pp 0),(1,pp 1),(2,aI rf.Trail.an),(6,pp 16)] (T8 c Q rf true O.1 O.2 gs gk x tb l y z A B b C m fs D d e f++[(16,rF (ca.c rf.Trail))]) 17 (λ h=>?_) λ h=>?_
   ·refine(ay)<|bS h (λ h=>qE (ii 16 [(16,192)])) λ h=>?_;refine(ae)<|bS h (λ h=>qE (ii 16 [(16,192)])) λ h=>?_;refine(ae)<|gX h λ h=>?_;refine(ae)<|oB h λ a8 h=>?_;refine(ae)<|oB h λ a9 h=>?_;refine(ae)<|bS h (λ h=>qE (ii 16 [(16,192)])) λ h=>?_;refine(ae)<|gX h λ h=>?_;refine(ae)<|oB h λ aA h=>?_;refine(ae)<|oB h λ aB h=>?_;exact qE (ii 16 [(16,192)])
   exact qE (ii 17 [])
  exact qE (ii 16 [(16,192)])
 refine(ae)<|jN h λ⟨R,S,T,U,V,X,Y,Z,a0,a1,a2,a3,a4⟩=>jM [] (Qj R S rf true T U gs gk V X Y b m fs d e f Z a0 a1 a2 a3 a4) 22 (λ h=>?_) λ h=>?_
 ·refine(ak)<|lI (β:=Int×aa×Bool×Int×Int×Int×Bool×Int×(List bx)×aa×aa×(List da)×(List cD)×(List bP)) (λ n' ⟨g,i,j,E,k,n,o,p,q,s,t,u,v,w⟩=>Af F rf gs gk b m fs d e f n' g i j E k n o p q s t u v w) (λ⟨g,i,j,E,k,n,o,p,q,s,t,u,v,w⟩=>[(0,pp 0),(1,pp 1),(6,pp 16),(7,aI g)]) (λ⟨g,i,j,E,k,n,o,p,q,s,t,u,v,w⟩=>[(0,rF [sM cJ i,.bm 2,pp 3,pp 4,.bf 17 2,.bf 18 1,.bf 19 1,.bf 20 2,.bool j]),(1,rF ([pp 9,pp 10]++bD.c rf++[.bool true,aI E,AV.int IntKind.u32 k])),(2,AO.cF (eG gs) (some ((Option.getD (@mix Int ai Int.instDecidableEq gk gs) 0),1))),(3,rF [.bf 21 4,aI n,.bm 12]),(4,.rows true [(@eJ o)]),(9,rF [.bm 13,.bf 22 2,aI p]),(10,rF ([pp 15]++bD.c b)),(12,mP m),(13,fS fs),(15,rF [pp 9,.str d,aI e,aI f]),(16,rF (ca.c rf.Trail)),(17,rT bx.c q),(18,rT cJ s),(19,rT cU t),(20,rT da.c u),(21,rT cD.c v),(22,rT bP.c w)]) 23 ((IntKind.wrap IntKind.i64 (K+(1:Int))),c,L,M,N,x,tb,B,l,y,z,A,C,D) (ii 5 [(9,9),(10,10),(12,12),(13,13),(15,15),(16,16),(17,5),(18,6),(19,7),(20,8),(21,11),(22,14)]) h ?_;rintro a5 ⟨g,i,j,E,k,n,o,p,q,s,t,u,v,w⟩ h;dsimp only at h;rw[Af.eq_2]at h;refine(ay)<|bS h (λ h=>?_) λ h=>?_
  ·refine(ak)<|gX h λ h=>?_;refine(ae)<|oB h λ a6 h=>?_;refine(ak)<|jN h λ P=>jM [(0,pp 0),(1,pp 1),(6,pp 16),(7,aI g),(8,pp 17)] [(0,rF [sM cJ i,.bm 2,pp 3,pp 4,.bf 18 2,.bf 19 1,.bf 20 1,.bf 21 2,.bool j]),(1,rF ([pp 9,pp 10]++bD.c rf++[.bool true,aI P,AV.int IntKind.u32 k])),(2,AO.cF (eG gs) (some ((Option.getD (@mix Int ai Int.instDecidableEq gk gs) 0),1))),(3,rF [.bf 22 4,aI n,.bm 12]),(4,.rows true [(@eJ o)]),(9,rF [.bm 13,.bf 23 2,aI p]),(10,rF ([pp 15]++bD.c b)),(12,mP m),(13,fS fs),(15,rF [pp 9,.str d,aI e,aI f]),(16,rF (ca.c rf.Trail)),(17,rF (bx.c a6)),(18,rT bx.c q),(19,rT cJ s),(20,rT cU t),(21,rT da.c u),(22,rT cD.c v),(23,rT bP.c w)] 24 (λ h=>qE (ii 17 [(17,535),(18,17),(19,18),(20,19),(21,20),(22,21),(23,22)])) λ h=>?_;refine(ae)<|gX h λ h=>?_;refine(ae)<|cG [4,376] h P2 λ a7 h=>?_;refine(ae)<|aX ?_;refine(ae)<|cG [0,2,3,4,18,19,20,21,1,22,12,9,10,13,23,15] h ZhB λ a h=>?_;exact rE (a5,(IntKind.wrap IntKind.i64 (g+(1:Int))),a.1,a.2.1,P,a7.1,a.2.2.1,a.2.2.2.1,a.2.2.2.2.1,a.2.2.2.2.2.1,a.2.2.2.2.2.2.1,a.2.2.2.2.2.2.2.1,a.2.2.2.2.2.2.2.2.1,a.2.2.2.2.2.2.2.2.2.1,a.2.2.2.2.2.2.2.2.2.2) (ii 17 [(17,648),(18,649),(19,650),(20,651),(21,652),(22,653)]) h
  exact qE (ii 16 [(16,17),(17,18),(18,19),(19,20),(20,21),(21,22)])
 exact qG (ii 22 [])
theorem ZeW{s v r}(h:F9 F s v=some r):FZ ml 157 [] [sM da.c s,.agg (da.c v)] (aI r) []:=by
 refine fA Tryz.func157 ?_;unfold F9 at h;refine(ak)<|jS h λ o0 vu=>jT [] [] 0 (λ h k0 e=>?_) λ h=>?_
 ·refine(ak)<|lI (λ n' x'=>Aj F s v n' x') (λ x'=>[(0,sM da.c s),(3,pp 0),(7,aI ((List.length (List.map da.c s):Nat):Int)),(8,aI x')]) (λ x'=>[(0,rF (da.c v))]) 1 0 [(0,32)] h ?_;rintro a b h;rw[Aj.eq_2]at h;refine(ay)<|bS h (λ h=>?_) λ h=>?_
  ·refine(ak)<|gX h λ h=>?_;refine(ae)<|oB h λ d h=>?_;refine(ae)<|aX ?_;refine(ae)<|aX ?_;refine(ay)<|bS h (λ h=>?_) λ h=>?_
   ·cases h;cases k0;exact rfl
   exact rE (a,(IntKind.wrap IntKind.i64 (b+(1:Int)))) [(0,0)] h
  exact qE []
 exact qR
theorem P9{s v r}(h:Dx F s v=some r):FZ ml 105 [] [sM da.c s,.agg (da.c v)] (.bool r) []:=by
 refine fA Tryz.func105 ?_;unfold Dx at h
 (conv=>whnf);left;exact(ak)<|cL h ZeW λ a h=>qR
theorem ZiD{c a b d fs l r}(h:FP F c a b d fs l=some r):FZ ml 158 (DB c a b d fs l) [pp 0] (aI r) (DB c a b d fs l):=by
 refine fG Tryz.func158 ?_;unfold FP at h;exact qG (ii 4 [])
theorem PU{rf c a b d fs l r}(h:FT F rf c a b d fs l=some r):FZ ml 106 (Ap rf c a b d fs l) [pp 0] (aI r) (Ap rf c a b d fs l):=by
 refine fG Tryz.func106 ?_;unfold FT at h;exact(ak)<|cH [1,2,3,4] h ZiD λ e h=>qG (ii 5 [])
theorem Ky{rf c a b d fs l r}(h:zU F rf c a b d fs l=some r):FZ ml 86 (Ap rf c a b d fs l) [pp 0] (aI r.1) (KJ rf r.2.1 r.2.2.1 r.2.2.2.1 r.2.2.2.2.1 r.2.2.2.2.2.1 r.2.2.2.2.2.2):=by
 refine fG Tryz.func86 ?_;unfold zU at h
 (conv=>whnf);left;(conv=>whnf);left;(conv=>whnf);left;refine(ak)<|cR h (λ h=>aW (fx (PJ h) rfl)) λ e h=>?_;exact(ae)<|cG [1,2,3,4] h Ku λ f h=>qG (ii 5 [(5,676)])
theorem KD{id r_ out a c j gs gk t tb l k n o rf p q u m v w fs x y z A r}(h:vg F id r_ out a c j gs gk t tb l k n o rf p q u m v w fs x y z A=some (Sum.inl r)):FZ ml 72 (T4 c j gs gk t tb l k n o rf true p q u m v w fs x y z A) [pp 0,aI id,.agg (bD.c r_),sM cj.c out,.agg (eU.c a)] (aI r.1) (Qf r.2.1 r.2.2.1 r.2.2.2.1 r.2.2.2.2.1 r.2.2.2.2.2.1 m++[(12,rF ([pp 15]++bD.c r.2.2.2.2.2.2.1)),(15,rF [pp 11,.str r.2.2.2.2.2.2.2.1,aI r.2.2.2.2.2.2.2.2.1,aI r.2.2.2.2.2.2.2.2.2.1]),(16,rT bx.c r.2.2.2.2.2.2.2.2.2.2.1),(17,rT cJ r.2.2.2.2.2.2.2.2.2.2.2.1),(18,rT cU r.2.2.2.2.2.2.2.2.2.2.2.2.1),(19,rT da.c r.2.2.2.2.2.2.2.2.2.2.2.2.2.1),(20,rT cD.c r.2.2.2.2.2.2.2.2.2.2.2.2.2.2)]):=by
 refine fG Tryz.func72 ?_;unfold vg at h
 (conv=>whnf);left;refine(ak)<|aX ?_;(conv=>whnf);obtain⟨hg,h⟩:=dB h;refine Fc (ek:=(λ(D:Int)=>(AV.int IntKind.i64 D))) (gN:=ai.g) gs id gk rfl rfl (ku Tryz.underlying3) hg ?_;refine(ae)<|cG [12,15,11,13,14] h KB λ d h=>?_;refine(ae)<|aX ?_;refine(ay)<|bS h (λ h=>?_) λ h=>?_
 ·refine(ae)<|cG [8,11,12,13,517,15] h Ac λ e h=>?_;(conv=>whnf);obtain⟨hg,h⟩:=dB h;cases h;refine gF 1 8 gs gk (@Sum.inl ar aw (ar.mk e.2.2.2.2.2 [] e.2.2.2.2.1 e.2.1 e.2.2.1 e.2.2.2.1)) [8,11,13,614] ?_;exact gI (ii 4 [(8,8),(10,10),(11,11),(12,12),(13,13),(14,14),(15,15),(16,4),(17,5),(18,6),(19,7),(20,9)])
 refine(ay)<|bS h (λ h=>?_) λ h=>?_
 ·refine(ae)<|cG [8,11,12,13,517,15] h F8 λ f h=>?_;(conv=>whnf);obtain⟨hg,h⟩:=dB h;cases h;refine gF 1 8 gs gk (@Sum.inl ar aw (ar.mk f.2.2.2.2 [] f.2.2.2.1 f.1 f.2.1 f.2.2.1)) [8,11,13,806] ?_;exact gI (ii 4 [(8,8),(10,10),(11,11),(12,12),(13,13),(14,14),(15,15),(16,4),(17,5),(18,6),(19,7),(20,9)])
 refine(ae)<|cG [12,15,11,13,517] h Kz λ s h=>?_;refine(ae)<|jN h λ⟨E,G⟩=>jM [(0,pp 0),(1,aI id),(7,pp 16),(11,pp 8),(12,aI rf.ah)] (T2 c j gs gk E tb r_ true p q m s.2.1 d.2.1 d.2.2.2.2.2.2.1 d.2.2.1 d.2.2.2.1 d.2.2.2.2.1++[(16,rF (bD.c r_)),(17,rT bx.c l),(18,rT cJ k),(19,rT cU n),(20,rT da.c o),(21,rT cD.c G),(22,rT bP.c s.2.2)]) 23 (λ h=>?_) λ h=>?_
 ·refine(ak)<|lI (λ n' x'=>vh F out m n' x'.1 x'.2.1 x'.2.2) (λ x'=>[(0,pp 0),(1,aI id),(7,pp 16),(11,pp 8),(12,aI rf.ah),(53,sM cj.c out),(54,aI ((List.length (List.map cj.c out):Nat):Int)),(55,aI x'.1)]) (λ x'=>(T2 c j gs gk x'.2.1 tb r_ true p q m s.2.1 d.2.1 d.2.2.2.2.2.2.1 d.2.2.1 d.2.2.2.1 d.2.2.2.2.1++[(16,rF (bD.c r_)),(17,rT bx.c l),(18,rT cJ k),(19,rT cU n),(20,rT da.c o),(21,rT cD.c x'.2.2),(22,rT bP.c s.2.2)])) 23 (0,t,u) (ii 4 [(8,8),(10,10),(11,11),(12,12),(13,13),(14,14),(15,15),(16,32),(17,4),(18,5),(19,6),(20,7),(21,9),(22,773)]) h ?_;rintro H ⟨I,R,S⟩ h;dsimp only at h;rw[vh.eq_2]at h;refine(ay)<|bS h (λ h=>?_) λ h=>?_
  ·refine(ak)<|gX h λ h=>?_;refine(ae)<|oB h λ T h=>?_;(conv=>whnf);left;refine(ak)<|cL h Pk λ U h=>?_;refine(ae)<|cG [2,21,10] h PV λ B h=>?_;refine(ae)<|aX ?_;exact rE (H,(IntKind.wrap IntKind.i64 (I+(1:Int))),B.2.2.1,B.2.2.2) (ii 21 [(21,506),(22,22)]) h
  exact qE (ii 23 [])
 refine(ae)<|cG [0,8,1,2,3,17,18,19,20,11,12,21,10,13,22,15] h PT λ b h=>?_;(conv=>whnf);left;refine(ak)<|jN h λ J=>jM [(0,pp 0),(11,pp 8),(15,pp 16),(90,.bool J)] (T2 b.1 b.2.1 gs gk b.2.2.2.2.2.1 b.2.2.2.2.2.2.1 b.2.2.1 true b.2.2.2.1 b.2.2.2.2.1 m b.2.2.2.2.2.2.2.1 d.2.1 d.2.2.2.2.2.2.1 d.2.2.1 d.2.2.2.1 d.2.2.2.2.1++[(16,rF [aI id,aI r_.Term]),(17,rT bx.c b.2.2.2.2.2.2.2.2.1),(18,rT cJ b.2.2.2.2.2.2.2.2.2.1),(19,rT cU b.2.2.2.2.2.2.2.2.2.2.1),(20,rT da.c b.2.2.2.2.2.2.2.2.2.2.2.1),(21,rT cD.c b.2.2.2.2.2.2.2.2.2.2.2.2.1),(22,rT bP.c b.2.2.2.2.2.2.2.2.2.2.2.2.2)]) 23 (λ h=>?_) λ h=>?_
 ·refine(ay)<|bS h (λ h=>?_) λ h=>?_
  ·exact(ak)<|cL h P9 λ V h=>qE (ii 16 [(16,279),(17,135),(18,136),(19,137),(20,138),(21,139),(22,140)])
  exact qE (ii 16 [(16,279),(17,135),(18,136),(19,137),(20,138),(21,139),(22,140)])
 refine(ae)<|jN h λ C=>jM [(11,pp 8)] (T3 b.1 b.2.1 gs gk b.2.2.2.2.2.1 b.2.2.2.2.2.2.1 b.2.2.1 true b.2.2.2.1 b.2.2.2.2.1 m b.2.2.2.2.2.2.2.1 d.2.1 d.2.2.2.2.2.2.1 d.2.2.1 d.2.2.2.1 d.2.2.2.2.1 b.2.2.2.2.2.2.2.2.1 b.2.2.2.2.2.2.2.2.2.1 b.2.2.2.2.2.2.2.2.2.2.1 C b.2.2.2.2.2.2.2.2.2.2.2.2.1 b.2.2.2.2.2.2.2.2.2.2.2.2.2) 22 (λ h=>?_) λ h=>?_
 ·refine(ay)<|bS h (λ h=>?_) λ h=>?_
  ·refine(ak)<|aX ?_;refine(ae)<|aX ?_;refine(ae)<|gS h λ h=>?_;refine(ak)<|aX ?_;cases h;exact eE (ii 16 [(16,17),(17,18),(18,19),(19,247),(20,21),(21,22)])
  exact qE (ii 16 [(16,17),(17,18),(18,19),(19,20),(20,21),(21,22)])
 refine(ae)<|jN h λ⟨K,L,M,N,O,P,Q⟩=>jM [(11,pp 8),(114,.bool K)] (T3 b.1 b.2.1 gs gk b.2.2.2.2.2.1 b.2.2.2.2.2.2.1 b.2.2.1 true b.2.2.2.1 b.2.2.2.2.1 m L d.2.1 M N O P b.2.2.2.2.2.2.2.2.1 b.2.2.2.2.2.2.2.2.2.1 b.2.2.2.2.2.2.2.2.2.2.1 C b.2.2.2.2.2.2.2.2.2.2.2.2.1 Q) 22 (λ h=>?_) λ h=>?_
 ·refine(ak)<|cH [12,15,11,13,21] h PU λ X h=>?_;refine(ae)<|bS h (λ h=>?_) λ h=>?_
  ·exact(ae)<|cG [12,15,11,13,21] h Ky λ Y h=>qE (ii 21 [(21,379)])
  exact qE (ii 22 [])
 refine(ay)<|bS h (λ h=>?_) λ h=>?_
 ·refine(ae)<|cG [8,11,12,13,21,15] h Ac λ i h=>?_;(conv=>whnf);obtain⟨hg,h⟩:=dB h;cases h;refine gF 1 8 gs gk (@Sum.inl ar aw (ar.mk i.2.2.2.2.2 [] i.2.2.2.2.1 i.2.1 i.2.2.1 i.2.2.2.1)) [8,11,13,60] ?_;exact gI (ii 21 [])
 (conv=>whnf);obtain⟨hg,h⟩:=dB h;cases h
theorem Kx{id r_ out a c e gs gk p tb l f i j rf k n q m s t fs u v w x r}(h:vg F id r_ out a c e gs gk p tb l f i j rf k n q m s t fs u v w x=some (Sum.inr r)):FZ ml 72 (T4 c e gs gk p tb l f i j rf true k n q m s t fs u v w x) [pp 0,aI id,.agg (bD.c r_),sM cj.c out,.agg (eU.c a)] (aI r.1) (Qf r.2.1 r.2.2.1 r.2.2.2.1 r.2.2.2.2.1 r.2.2.2.2.2.1 m++[(16,rT bx.c r.2.2.2.2.2.2.1),(17,rT cJ r.2.2.2.2.2.2.2.1),(18,rT cU r.2.2.2.2.2.2.2.2.1),(19,rT da.c r.2.2.2.2.2.2.2.2.2.1),(20,rT cD.c r.2.2.2.2.2.2.2.2.2.2)]):=by
 refine fG Tryz.func72 ?_;unfold vg at h
 (conv=>whnf);left;refine(ak)<|aX ?_;(conv=>whnf);obtain⟨hg,h⟩:=dB h;refine Fc (ek:=(λ(H:Int)=>(AV.int IntKind.i64 H))) (gN:=ai.g) gs id gk rfl rfl (ku Tryz.underlying3) hg ?_;refine(ae)<|cG [12,15,11,13,14] h KB λ d h=>?_;refine(ae)<|aX ?_;refine(ay)<|bS h (λ h=>?_) λ h=>?_
 ·refine(ae)<|cG [8,11,12,13,517,15] h Ac λ O h=>?_;(conv=>whnf);obtain⟨hg,h⟩:=dB h;cases h
 refine(ay)<|bS h (λ h=>?_) λ h=>?_
 ·refine(ae)<|cG [8,11,12,13,517,15] h F8 λ P h=>?_;(conv=>whnf);obtain⟨hg,h⟩:=dB h;cases h
 refine(ae)<|cG [12,15,11,13,517] h Kz λ o h=>?_;refine(ae)<|jN h λ⟨I,J⟩=>jM [(0,pp 0),(1,aI id),(7,pp 16),(11,pp 8),(12,aI rf.ah)] (T2 c e gs gk I tb r_ true k n m o.2.1 d.2.1 d.2.2.2.2.2.2.1 d.2.2.1 d.2.2.2.1 d.2.2.2.2.1++[(16,rF (bD.c r_)),(17,rT bx.c l),(18,rT cJ f),(19,rT cU i),(20,rT da.c j),(21,rT cD.c J),(22,rT bP.c o.2.2)]) 23 (λ h=>?_) λ h=>?_
 ·refine(ak)<|lI (λ n' x'=>vh F out m n' x'.1 x'.2.1 x'.2.2) (λ x'=>[(0,pp 0),(1,aI id),(7,pp 16),(11,pp 8),(12,aI rf.ah),(53,sM cj.c out),(54,aI ((List.length (List.map cj.c out):Nat):Int)),(55,aI x'.1)]) (λ x'=>(T2 c e gs gk x'.2.1 tb r_ true k n m o.2.1 d.2.1 d.2.2.2.2.2.2.1 d.2.2.1 d.2.2.2.1 d.2.2.2.2.1++[(16,rF (bD.c r_)),(17,rT bx.c l),(18,rT cJ f),(19,rT cU i),(20,rT da.c j),(21,rT cD.c x'.2.2),(22,rT bP.c o.2.2)])) 23 (0,p,q) (ii 4 [(8,8),(10,10),(11,11),(12,12),(13,13),(14,14),(15,15),(16,32),(17,4),(18,5),(19,6),(20,7),(21,9),(22,773)]) h ?_;rintro K ⟨L,Q,R⟩ h;dsimp only at h;rw[vh.eq_2]at h;refine(ay)<|bS h (λ h=>?_) λ h=>?_
  ·refine(ak)<|gX h λ h=>?_;refine(ae)<|oB h λ S h=>?_;(conv=>whnf);left;refine(ak)<|cL h Pk λ T h=>?_;refine(ae)<|cG [2,21,10] h PV λ y h=>?_;refine(ae)<|aX ?_;exact rE (K,(IntKind.wrap IntKind.i64 (L+(1:Int))),y.2.2.1,y.2.2.2) (ii 21 [(21,506),(22,22)]) h
  exact qE (ii 23 [])
 refine(ae)<|cG [0,8,1,2,3,17,18,19,20,11,12,21,10,13,22,15] h PT λ b h=>?_;(conv=>whnf);left;refine(ak)<|jN h λ M=>jM [(0,pp 0),(11,pp 8),(15,pp 16),(90,.bool M)] (T2 b.1 b.2.1 gs gk b.2.2.2.2.2.1 b.2.2.2.2.2.2.1 b.2.2.1 true b.2.2.2.1 b.2.2.2.2.1 m b.2.2.2.2.2.2.2.1 d.2.1 d.2.2.2.2.2.2.1 d.2.2.1 d.2.2.2.1 d.2.2.2.2.1++[(16,rF [aI id,aI r_.Term]),(17,rT bx.c b.2.2.2.2.2.2.2.2.1),(18,rT cJ b.2.2.2.2.2.2.2.2.2.1),(19,rT cU b.2.2.2.2.2.2.2.2.2.2.1),(20,rT da.c b.2.2.2.2.2.2.2.2.2.2.2.1),(21,rT cD.c b.2.2.2.2.2.2.2.2.2.2.2.2.1),(22,rT bP.c b.2.2.2.2.2.2.2.2.2.2.2.2.2)]) 23 (λ h=>?_) λ h=>?_
 ·refine(ay)<|bS h (λ h=>?_) λ h=>?_
  ·exact(ak)<|cL h P9 λ U h=>qE (ii 16 [(16,279),(17,135),(18,136),(19,137),(20,138),(21,139),(22,140)])
  exact qE (ii 16 [(16,279),(17,135),(18,136),(19,137),(20,138),(21,139),(22,140)])
 refine(ae)<|jN h λ z=>jM [(11,pp 8)] (T3 b.1 b.2.1 gs gk b.2.2.2.2.2.1 b.2.2.2.2.2.2.1 b.2.2.1 true b.2.2.2.1 b.2.2.2.2.1 m b.2.2.2.2.2.2.2.1 d.2.1 d.2.2.2.2.2.2.1 d.2.2.1 d.2.2.2.1 d.2.2.2.2.1 b.2.2.2.2.2.2.2.2.1 b.2.2.2.2.2.2.2.2.2.1 b.2.2.2.2.2.2.2.2.2.2.1 z b.2.2.2.2.2.2.2.2.2.2.2.2.1 b.2.2.2.2.2.2.2.2.2.2.2.2.2) 22 (λ h=>?_) λ h=>?_
 ·refine(ay)<|bS h (λ h=>?_) λ h=>?_
  ·refine(ak)<|aX ?_;refine(ae)<|aX ?_;refine(ae)<|gS h λ h=>?_;refine(ak)<|aX ?_;cases h;exact eE (ii 16 [(16,17),(17,18),(18,19),(19,247),(20,21),(21,22)])
  exact qE (ii 16 [(16,17),(17,18),(18,19),(19,20),(20,21),(21,22)])
 refine(ae)<|jN h λ⟨N,A,B,C,D,E,G⟩=>jM [(11,pp 8),(114,.bool N)] (T3 b.1 b.2.1 gs gk b.2.2.2.2.2.1 b.2.2.2.2.2.2.1 b.2.2.1 true b.2.2.2.1 b.2.2.2.2.1 m A d.2.1 B C D E b.2.2.2.2.2.2.2.2.1 b.2.2.2.2.2.2.2.2.2.1 b.2.2.2.2.2.2.2.2.2.2.1 z b.2.2.2.2.2.2.2.2.2.2.2.2.1 G) 22 (λ h=>?_) λ h=>?_
 ·refine(ak)<|cH [12,15,11,13,21] h PU λ V h=>?_;refine(ae)<|bS h (λ h=>?_) λ h=>?_
  ·exact(ae)<|cG [12,15,11,13,21] h Ky λ X h=>qE (ii 21 [(21,379)])
  exact qE (ii 22 [])
 refine(ay)<|bS h (λ h=>?_) λ h=>?_
 ·refine(ae)<|cG [8,11,12,13,21,15] h Ac λ Y h=>?_;(conv=>whnf);obtain⟨hg,h⟩:=dB h;cases h
 (conv=>whnf);obtain⟨hg,h⟩:=dB h;cases h;refine gF 1 8 gs gk (@Sum.inr ar aw (aw.mk B G A C D E d.2.1 b.2.2.1 b.2.2.2.1 b.2.2.2.2.1)) [8,11,13,21,12,15] ?_;exact gI (ii 21 [])
theorem Zhz{a c e gs f tb l g i j k m r}(h:Dk F a c e gs f tb l g i j k m=some r):FZ ml 54 (T0 c e gs f tb l g i j k m) [pp 0,.agg (eU.c a)] (aI r.1) (Gk r.2.1 r.2.2.1 r.2.2.2.1 r.2.2.2.2.1 r.2.2.2.2.2.1 m r.2.2.2.2.2.2.1 r.2.2.2.2.2.2.2.1 r.2.2.2.2.2.2.2.2.1 r.2.2.2.2.2.2.2.2.2.1 r.2.2.2.2.2.2.2.2.2.2):=by
 refine fG Tryz.func54 ?_;unfold Dk at h
 (conv=>whnf);left;obtain⟨b,hy,h⟩:=eB h;rcases b with b|b
 ·replace h:=km h;refine(ae)<|cg [0,1,2,3,4,5,6,7,8,9] (Dq hy) ?_;exact qG (ii 4 [(9,9),(10,4),(11,5),(12,6),(13,7),(14,8)])
 replace h:=ko h;refine(ae)<|cg [0,1,2,3,4,5,6,7,8,9] (Dr hy) ?_;refine(ay)<|bS h (λ h=>?_) λ h=>?_
 ·(conv=>whnf);obtain⟨hg,h⟩:=dB h;cases h;refine gF 1 202 b.2.1 b.2.2.1 (@Sum.inr ar aw (aw.mk b.2.2.2.2.2.2.2.2.1 b.2.2.2.2.2.2.2.2.2.1 b.2.2.2.2.2.2.1 b.2.2.2.2.2.2.2.2.2.2.1 b.2.2.2.2.2.2.2.2.2.2.2.1 b.2.2.2.2.2.2.2.2.2.2.2.2 b.2.2.2.2.2.2.2.1 b.2.2.2.1 b.2.2.2.2.1 b.2.2.2.2.2.1)) [202,203,205,206,204,207] ?_;exact gI (ii 4 [(9,9),(10,4),(11,5),(12,6),(13,7),(14,8)])
 refine(ak)<|cR h (λ h=>fx (Zl4 h) rfl) λ n h=>?_;refine(ak)<|aX ?_;obtain⟨d,hy,h⟩:=eB h;rcases d with d|d
 ·replace h:=km h;refine(ae)<|cg [0,1,2,3,4,5,6,7,202,8,9,203,204,205,206,207] (KD hy) ?_;exact qG (ii 10 [(10,1072),(11,1073),(12,1074),(13,1075),(14,1076)])
 replace h:=ko h;refine(ae)<|cg [0,1,2,3,4,5,6,7,202,8,9,203,204,205,206,207] (Kx hy) ?_;exact qG (ii 10 [(10,1072),(11,1073),(12,1074),(13,1075),(14,1076)])
theorem ZhP{p a1 r}(h:F1 F p a1=some r):FZ ml 160 [] [.agg (cD.c p),AV.rp (cn IntKind.i64 a1) 0] (.bool r) []:=by
 refine fA Tryz.func160 ?_;unfold F1 at h;exact qR
theorem ZdL{s f0 r}(h:Gc F s f0=some r):FZ ml 159 [] [sM cD.c s,AV.fn 160 ((AV.rp (cn IntKind.i64 f0) 0)::[])] (aI r) []:=by
 refine fA Tryz.func159 ?_;unfold Gc at h;refine(ae)<|jS h λ o0 vu=>jT [] [] 0 (λ h k0 e=>?_) λ h=>?_
 ·refine(ak)<|lI (λ n' x'=>Ai F s f0 n' x') (λ x'=>[(0,sM cD.c s),(1,AV.fn 160 ((AV.rp ((AV.int IntKind.i64 f0)::[]) 0)::[])),(7,aI ((List.length (List.map cD.c s):Nat):Int)),(8,aI x')]) (λ x'=>[]) 0 0 [] h ?_;rintro a b h;rw[Ai.eq_2]at h;refine(ay)<|bS h (λ h=>?_) λ h=>?_
  ·refine(ak)<|gX h λ h=>?_;refine(ae)<|oB h λ d h=>?_;refine(ak)<|cL h ZhP λ f h=>?_;refine(ay)<|bS h (λ h=>?_) λ h=>?_
   ·cases h;cases k0;exact rfl
   exact rE (a,(IntKind.wrap IntKind.i64 (b+(1:Int)))) [] h
  exact qE []
 exact qR
theorem Kr{id c l m r}(h:yh F id c l m=some r):FZ ml 107 (T6 c l m) [pp 0,aI id] (aI r) (T6 c l m):=by
 refine fG Tryz.func107 ?_;unfold yh at h
 (conv=>whnf);left;(conv=>whnf);left;exact(ak)<|cL h ZdL λ a h=>qG [(0,0),(1,1),(2,2)]
theorem J7{a b r}(h:vY F a b=some r):FZ ml 123 [] [aI a,aI b] (.agg (ax.c r)) []:=by
 refine fA Tryz.func123 ?_;unfold vY at h;exact qR
theorem Zio{p c l m r}(h:FM F p c l m=some r):FZ ml 108 (T6 c l m) [pp 0,.agg (cD.c p)] (.bool r) (T6 c l m):=by
 refine fG Tryz.func108 ?_;unfold FM at h
 (conv=>whnf);left;refine(ak)<|cL h J7 λ e h=>?_;refine(ae)<|aX ?_;(conv=>whnf);refine Or.inr (UW (ek:=(λ(d:ax)=>(AV.agg (ax.c d)))) (en:=(λ(d:Int)=>(AV.int IntKind.i64 d))) m e 0 rfl rfl (λ a b=>(Jo Tryz.underlying218 _ _ _ _ _ _).trans (by cases a;cases b;simp)) ⟨3,.int IntKind.i64 0,by kernel_rfl,by kernel_rfl,(Wk.refl _)⟩ ?_);exact qG [(0,0),(1,1),(2,2)]
theorem ZdB{i j l r}(h:Gb F i j l=some r):FZ ml 161 [(0,(AO.rows true (List.map cD.c l)))] [(AV.bf 0 4),aI i,aI j] (AV.bf 1 4) [(1,(AO.rows true (List.map cD.c r)))]:=by
 unfold Gb at h;obtain⟨hg,h⟩:=dU h;cases h;obtain⟨g1,rfl,g3⟩:=hg;have hF:=ZE (G:=GM ml) (s:=List.map cD.c l) (p:=true) (i:=Int.toNat i) ZpB (by decide) (λ r hr=>by obtain⟨y,_,rfl⟩:=W0.1 hr;rfl) (by simpa using g3)
 rw[Vt g1]at hF;have e:List.map cD.c (List.take (Int.toNat i) l++List.drop (Int.toNat i+1) l)=List.take (Int.toNat i) (List.map cD.c l)++List.drop (Int.toNat i+1) (List.map cD.c l):=by rw[Yj,Ub,List.map_drop]
 rw[e];exact hF
theorem PW{i c l m r}(h:zX F i c l m=some r):FZ ml 109 (T6 c l m) [pp 0,aI i] (.agg (cD.c r.1)) (An r.2.1 m r.2.2):=by
 refine fG Tryz.func109 ?_;unfold zX at h;refine(ak)<|gX h λ h=>?_;refine(ae)<|oB h λ a h=>?_;refine(ae)<|oB h λ b h=>?_;exact(ak)<|cG [1] h ZdB λ d h=>qG [(0,0),(1,1),(2,2),(3,609)]
end Go.T
