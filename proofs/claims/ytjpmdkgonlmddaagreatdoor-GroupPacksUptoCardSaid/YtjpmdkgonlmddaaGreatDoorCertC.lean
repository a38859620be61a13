import Derived.Test.YtjpmdkgonlmddaaGreatDoorCertB
set_option linter.unusedVariables false
set_option maxRecDepth 200000
set_option maxHeartbeats 4000000
namespace Go.T
open Go Go.Ab Go.Proofs
variable {ml:Gv}{F:Nat}
theorem PS{id c e rf b d gs gk f tb l g i j n k m fs o r}(h:FQ F id c e rf b d gs gk f tb l g i j n k m fs o=some r):FZ ml 42 (Qi c e rf false b d gs gk f tb l g i j n k m fs o) [pp 0,aI id,pp 1] (aI r.1) (Qh c e r.2 f tb l g i j k m):=by
 refine fG Tryz.func42 ?_;unfold FQ at h;obtain⟨a,hy,h⟩:=eB h;rcases a with a|a
 ·replace h:=km h;refine(ae)<|cg [9,12,13] (PB hy) ?_;refine(ak)<|aX ?_;refine(ay)<|bS h (λ h=>?_) λ h=>?_
  ·(conv=>whnf);obtain⟨hg,h⟩:=dB h;cases h;refine gF 2 1 gs gk (@Sum.inl ar aw (ar.mk a.2.2.2.1 a.2.2.2.2 a.2.2.1 rf b d)) [1,9,12,355] ?_;exact gI (ii 14 [])
  refine(ae)<|aX ?_;refine(ak)<|cL h yk λ q h=>?_;cases h
 replace h:=ko h;rcases a with a|a
 ·replace h:=km h;refine(ae)<|cg [9,12,13] (PC hy) ?_;refine(ak)<|aX ?_;refine(ay)<|bS h (λ h=>?_) λ h=>?_
  ·(conv=>whnf);obtain⟨hg,h⟩:=dB h;cases h;refine gF 2 1 gs gk (@Sum.inl ar aw (ar.mk a.2.2.2.1 a.2.2.2.2.2 a.2.2.1 rf b d)) [1,9,12,356] ?_;exact gI (ii 14 [])
  refine(ae)<|aX ?_;refine(ak)<|cL h yk λ s h=>?_;cases h
 replace h:=ko h;refine(ae)<|cg [9,12,13] (PE hy) ?_;refine(ak)<|aX ?_;refine(ay)<|bS h (λ h=>?_) λ h=>?_
 ·(conv=>whnf);obtain⟨hg,h⟩:=dB h;cases h;refine gF 2 1 gs gk (@Sum.inl ar aw (ar.mk a.2.2.2.1 a.2.2.2.2.2.1 a.2.2.1 rf b d)) [1,9,12,356] ?_;exact gI (ii 14 [])
 refine(ae)<|aX ?_;refine(ak)<|cL h yk λ p h=>?_;(conv=>whnf);obtain⟨hg,h⟩:=dB h;cases h;refine gF 2 1 gs gk (@Sum.inr ar aw (aw.mk a.2.2.2.1 a.2.2.2.2.2.1 a.2.2.1 a.2.2.2.2.2.2.1 a.2.2.2.2.2.2.2.1 a.2.2.2.2.2.2.2.2 a.2.2.2.2.1 a.1 p.1 p.2)) [1,9,12,356,355,357] ?_;exact gI (ii 14 [])
theorem Fp{b r}(h:tq F b=some (Sum.inl r)):FZ ml 15 [] [sM cJ b] (.cx [AV.eT (Value.pointer none),aI r]) []:=by
 refine fG Tryz.func15 ?_;unfold tq at h;refine(ak)<|cL h CX λ n h=>?_;refine(ay)<|bS h (λ h=>qG []) λ h=>?_;refine(ak)<|cR h (λ h=>fx (yD h) rfl) λ c h=>?_;(conv=>whnf);refine Or.inr ?_;(conv=>whnf);refine⟨Or.inr ?_⟩;refine(ak)<|cR h Pq λ a h=>?_;refine(ak)<|cR h Pc λ d h=>?_;(conv=>whnf);left;(conv=>whnf);left;(conv=>whnf);refine Or.inr (Cb 4 2 _ rfl rfl ?_);(conv=>whnf);refine Or.inr (L5 7 2 _ rfl rfl ?_);refine(ae)<|jN h λ e=>jM [(4,pp 0)] (T0 c false e a.1 d [] (0::[]) (0::[]) [] a.2.1 a.2.2) 10 (λ h=>?_) λ h=>?_
 ·refine(ak)<|lI (λ n' x'=>uZ F b c a d n' x'.1 x'.2) (λ x'=>[(4,pp 0),(20,sM cJ b),(21,aI ((List.length (List.map cJ b):Nat):Int)),(22,aI x'.1)]) (λ x'=>(T0 c false x'.2 a.1 d [] (0::[]) (0::[]) [] a.2.1 a.2.2)) 10 (0,[]) [(0,448),(1,256),(2,288),(3,320),(4,416),(5,352),(6,384),(7,449),(8,289),(9,290)] h ?_;rintro f ⟨i,j⟩ h;dsimp only at h;rw[uZ.eq_2]at h;refine(ay)<|bS h (λ h=>?_) λ h=>?_
  ·refine(ak)<|gX h λ h=>?_;refine(ae)<|oB h λ k h=>?_;refine(ak)<|cR h Po λ o h=>?_;(conv=>whnf);left;refine(ak)<|aX ?_;(conv=>whnf);obtain⟨hg,h⟩:=dB h;refine Mg (ek:=(λ(l:Int)=>(AV.int IntKind.i64 l))) (gN:=ai.g) j k (Sum.inl default) 202 rfl rfl (ku Tryz.underlying3) hg rfl ?_;obtain⟨m,hy,h⟩:=eB h;refine cW [0,202,1,2,3,4,5,6,7,138,8,9,139,140] (PS hy) ?_;exact rE (f,(IntKind.wrap IntKind.i64 (i+(1:Int))),m.2) (ii 10 []) h
  exact qE (ii 10 [])
 cases h
theorem Fq{b r}(h:tq F b=some (Sum.inr r)):FZ ml 15 [] [sM cJ b] (.cx [pp 0,aI r.1]) (T0 r.2.1 r.2.2.1 r.2.2.2.1 r.2.2.2.2.1 r.2.2.2.2.2.1 r.2.2.2.2.2.2.1 r.2.2.2.2.2.2.2.1 r.2.2.2.2.2.2.2.2.1 r.2.2.2.2.2.2.2.2.2.1 r.2.2.2.2.2.2.2.2.2.2.1 r.2.2.2.2.2.2.2.2.2.2.2):=by
 refine fG Tryz.func15 ?_;unfold tq at h;refine(ak)<|cL h CX λ n h=>?_;refine(ay)<|bS h (λ h=>?_) λ h=>?_
 ·cases h
 refine(ak)<|cR h (λ h=>fx (yD h) rfl) λ c h=>?_;(conv=>whnf);refine Or.inr ?_;(conv=>whnf);refine⟨Or.inr ?_⟩;refine(ak)<|cR h Pq λ a h=>?_;refine(ak)<|cR h Pc λ d h=>?_;(conv=>whnf);left;(conv=>whnf);left;(conv=>whnf);refine Or.inr (Cb 4 2 _ rfl rfl ?_);(conv=>whnf);refine Or.inr (L5 7 2 _ rfl rfl ?_);refine(ae)<|jN h λ e=>jM [(4,pp 0)] (T0 c false e a.1 d [] (0::[]) (0::[]) [] a.2.1 a.2.2) 10 (λ h=>?_) λ h=>?_
 ·refine(ak)<|lI (λ n' x'=>uZ F b c a d n' x'.1 x'.2) (λ x'=>[(4,pp 0),(20,sM cJ b),(21,aI ((List.length (List.map cJ b):Nat):Int)),(22,aI x'.1)]) (λ x'=>(T0 c false x'.2 a.1 d [] (0::[]) (0::[]) [] a.2.1 a.2.2)) 10 (0,[]) [(0,448),(1,256),(2,288),(3,320),(4,416),(5,352),(6,384),(7,449),(8,289),(9,290)] h ?_;rintro f ⟨i,j⟩ h;dsimp only at h;rw[uZ.eq_2]at h;refine(ay)<|bS h (λ h=>?_) λ h=>?_
  ·refine(ak)<|gX h λ h=>?_;refine(ae)<|oB h λ k h=>?_;refine(ak)<|cR h Po λ o h=>?_;(conv=>whnf);left;refine(ak)<|aX ?_;(conv=>whnf);obtain⟨hg,h⟩:=dB h;refine Mg (ek:=(λ(l:Int)=>(AV.int IntKind.i64 l))) (gN:=ai.g) j k (Sum.inl default) 202 rfl rfl (ku Tryz.underlying3) hg rfl ?_;obtain⟨m,hy,h⟩:=eB h;refine cW [0,202,1,2,3,4,5,6,7,138,8,9,139,140] (PS hy) ?_;exact rE (f,(IntKind.wrap IntKind.i64 (i+(1:Int))),m.2) (ii 10 []) h
  exact qE (ii 10 [])
 exact qG (ii 10 [])
theorem Zle{r}(h:CD F=some r):FZ ml 43 [] [] (AV.bm 0) [(0,.bm true [(aI r.1,AV.fn 54 []),(aI r.2.1,AV.fn 55 []),(aI r.2.2.1,AV.fn 56 []),(aI r.2.2.2.1,AV.fn 57 []),(aI r.2.2.2.2.1,AV.fn 58 []),(aI r.2.2.2.2.2.1,AV.fn 59 []),(aI r.2.2.2.2.2.2.1,AV.fn 60 []),(aI r.2.2.2.2.2.2.2.1,AV.fn 61 []),(aI r.2.2.2.2.2.2.2.2.1,AV.fn 62 []),(aI r.2.2.2.2.2.2.2.2.2,AV.fn 63 [])])]:=by
 refine fG Tryz.func43 ?_;unfold CD at h;exact qG [(0,64)]
theorem Dq{id c b gs d tb l e f i j m r}(h:nC F id c b gs d tb l e f i j m=some (Sum.inl r)):FZ ml 70 (T0 c b gs d tb l e f i j m) [pp 0,aI id] (.cx [AV.eT (Value.pointer none),aI r.1]) (T0 c b r.2 d tb l e f i j m):=by
 refine fG Tryz.func70 ?_;unfold nC at h;refine(ae)<|aX ?_;(conv=>whnf);refine Ek h (λ hm h=>?_) (λ k hm h=>?_) (λ n hm h=>?_)
 ·refine Fi (ek:=(λ(a:Int)=>(AV.int IntKind.i64 a))) (gN:=ai.g) gs id (.eT (.pointer none)) rfl rfl (ku Tryz.underlying3) hm ⟨96,_,by kernel_rfl,by kernel_rfl,.refl _⟩ ?_;exact qG (ii 10 [])
 ·refine wh (ek:=(λ(a:Int)=>(AV.int IntKind.i64 a))) (gN:=ai.g) gs id _ rfl rfl (ku Tryz.underlying3) hm _ rfl rfl ?_;(conv=>whnf);left;(conv=>whnf);left;(conv=>whnf);left;(conv=>whnf);obtain⟨hg,h⟩:=dB h;cases h;refine gF 1 256 gs id (@Sum.inl ar aw k) [256,257,258,259] ?_;exact gI (ii 10 [])
 refine wh (ek:=(λ(a:Int)=>(AV.int IntKind.i64 a))) (gN:=ai.g) gs id _ rfl rfl (ku Tryz.underlying3) hm _ rfl rfl ?_;(conv=>whnf);left;(conv=>whnf);left;(conv=>whnf);left;cases h
theorem Dr{id c b gs d tb l e f i j m r}(h:nC F id c b gs d tb l e f i j m=some (Sum.inr r)):FZ ml 70 (T0 c b gs d tb l e f i j m) [pp 0,aI id] (.cx [pp 10,aI r.1]) (KH c b++[(1,AO.cF (eG r.2.1) (some ((Option.getD (@mix Int ai Int.instDecidableEq r.2.2.1 r.2.1) 0),10))),(2,rF [.bf 8 4,aI d,.bm 9]),(3,.rows true [(@eJ tb)]),(4,rT bx.c l),(5,rT cJ e),(6,rT cU f),(7,rT da.c i),(8,rT cD.c j),(9,mP m),(10,rF ([pp 11,pp 12]++bD.c r.2.2.2.1++[.bool true,aI r.2.2.2.2.1,AV.int IntKind.u32 r.2.2.2.2.2.1])),(11,rF [.bm 13,.bf 14 2,aI r.2.2.2.2.2.2.1]),(12,rF ([pp 15]++bD.c r.2.2.2.2.2.2.2.1)),(13,fS r.2.2.2.2.2.2.2.2.1),(14,rT bP.c r.2.2.2.2.2.2.2.2.2.1),(15,rF [pp 11,.str r.2.2.2.2.2.2.2.2.2.2.1,aI r.2.2.2.2.2.2.2.2.2.2.2.1,aI r.2.2.2.2.2.2.2.2.2.2.2.2])]):=by
 refine fG Tryz.func70 ?_;unfold nC at h;refine(ae)<|aX ?_;(conv=>whnf);refine Ek h (λ hm h=>?_) (λ k hm h=>?_) (λ n hm h=>?_)
 ·refine Fi (ek:=(λ(a:Int)=>(AV.int IntKind.i64 a))) (gN:=ai.g) gs id (.eT (.pointer none)) rfl rfl (ku Tryz.underlying3) hm ⟨96,_,by kernel_rfl,by kernel_rfl,.refl _⟩ ?_;(conv=>whnf);left;(conv=>whnf);left;cases h
 ·refine wh (ek:=(λ(a:Int)=>(AV.int IntKind.i64 a))) (gN:=ai.g) gs id _ rfl rfl (ku Tryz.underlying3) hm _ rfl rfl ?_;(conv=>whnf);left;(conv=>whnf);left;(conv=>whnf);left;(conv=>whnf);obtain⟨hg,h⟩:=dB h;cases h
 refine wh (ek:=(λ(a:Int)=>(AV.int IntKind.i64 a))) (gN:=ai.g) gs id _ rfl rfl (ku Tryz.underlying3) hm _ rfl rfl ?_;exact qG (ii 10 [(10,256),(11,257),(12,260),(13,258),(14,259),(15,261)])
theorem Zi6{r_ r}(h:Fz F r_=some r):FZ ml 99 [] [.agg (bD.c r_)] (.agg [aI r.1,sM cJ r.2.1,aI r.2.2.1,aI r.2.2.2.1,aI r.2.2.2.2.1,aI r.2.2.2.2.2.1,aI r.2.2.2.2.2.2.1,aI r.2.2.2.2.2.2.2.1,sM bx.c r.2.2.2.2.2.2.2.2.1,.str r.2.2.2.2.2.2.2.2.2.1,aI r.2.2.2.2.2.2.2.2.2.2.1,aI r.2.2.2.2.2.2.2.2.2.2.2.1,aI r.2.2.2.2.2.2.2.2.2.2.2.2.1,.bf 0 1,.bf 1 1,.bf 2 1]) (Dz r.2.2.2.2.2.2.2.2.2.2.2.2.2.1 r.2.2.2.2.2.2.2.2.2.2.2.2.2.2.1 r.2.2.2.2.2.2.2.2.2.2.2.2.2.2.2):=by
 refine fG Tryz.func99 ?_;unfold Fz at h
 (conv=>whnf);left;(conv=>whnf);left;refine(ak)<|cR h (λ h=>fx (yD h) rfl) λ a h=>?_;refine(ak)<|cR h yD λ b h=>?_;refine(ak)<|cR h F' λ d h=>?_;refine(ak)<|cR h F' λ e h=>?_;(conv=>whnf);left;(conv=>whnf);left;refine(ak)<|aX ?_;exact(ak)<|cR h (λ h=>fx (wO h) rfl) λ f h=>qG [(0,256),(1,352),(2,448)]
theorem FA{r_ r}(h:wk F r_=some r):FZ ml 100 [] [.agg (bD.c r_)] (pp 0) (T1 r.1 r.2.1 r.2.2.1 r.2.2.2.1 r.2.2.2.2):=by
 refine fG Tryz.func100 ?_;unfold wk at h
 (conv=>whnf);left;refine(ak)<|cR h Zi6 λ a h=>?_;(conv=>whnf);refine Or.inr (Cb 16 10 _ rfl rfl ?_);(conv=>whnf);left;cases h;exact gE [(0,192),(1,128),(2,129),(3,130),(4,160)]
theorem sE{m rf l a b d r}(h:qj F m rf l a b d=some r):FZ ml 154 (T1 rf l a b d) [pp 0,.agg (cj.c m)] (.cx []) (KI r.1 l a b r.2):=by
 refine fG Tryz.func154 ?_;unfold qj at h
 (iterate 5 ((conv=>whnf);first|refine oL ?_|refine aX ?_));refine(ae)<|gS h λ h=>?_;refine(ak)<|aX ?_;cases h;exact gE (ii 5 [(5,736)])
theorem Zla{t a b r}(h:CC F t a b=some r):FZ ml 195 [] [.agg (ca.c t),aI a,aI b] (sM bx.c r) []:=by
 refine fA Tryz.func195 ?_;unfold CC at h;refine(ak)<|jN h λ d=>jM [(1,aI a),(2,aI b),(3,pp 0),(20,.bool d)] [(0,rF (ca.c t))] 1 (λ h=>?_) λ h=>?_
 ·(conv=>whnf);left;refine(ak)<|cL h wG λ e h=>?_;refine(ae)<|bS h (λ h=>qE [(0,32)]) λ h=>?_;exact(ak)<|cL h zR λ f h=>qE [(0,32)]
 refine(ay)<|bS h (λ h=>qR) λ h=>?_;refine(ae)<|aX ?_;refine(ae)<|gX h λ h=>?_;refine(ae)<|gS h λ h=>?_;refine(ae)<|gS h λ h=>?_;refine(ae)<|aX ?_;refine(ae)<|gS h λ h=>?_;refine(ae)<|gS h λ h=>?_;refine(ae)<|gS h λ h=>?_;(conv=>whnf);left;(conv=>whnf);obtain⟨g,hy,h⟩:=eB h;refine⟨_,_,(lZ (cT (YU AV.sl rQ) rfl) (fx (wO hy) rfl)),Or.inr ⟨[],rfl,?_⟩⟩;exact qR
theorem Ks{i rf l a b c r}(h:yi F i rf l a b c=some r):FZ ml 151 (T1 rf l a b c) [pp 0,aI i] (.cx []) (KI r.1 l a b r.2):=by
 refine fG Tryz.func151 ?_;unfold yi at h;refine(ae)<|gX h λ h=>?_;refine(ae)<|oB h λ d h=>?_;refine(ae)<|oB h λ e h=>?_;refine(ay)<|bS h (λ h=>?_) λ h=>?_
 ·refine(ae)<|gX h λ h=>?_;refine(ae)<|oB h λ f h=>?_;(conv=>whnf);left;obtain⟨g,hy,h⟩:=eB h;refine cW [0,1,2,3,4] (sE hy) ?_;exact qG (ii 5 [(5,1445)])
 refine(ak)<|cL h zQ λ j h=>?_;refine(ae)<|gX h λ h=>?_;refine(ae)<|oB h λ k h=>?_;refine(ak)<|cR h Zla λ m h=>?_;exact(ak)<|cG [0,1,2,3,4] h sE λ n h=>qG (ii 5 [(5,1797)])
theorem KA{rf l a b c r}(h:wK F rf l a b c=some r):FZ ml 101 (T1 rf l a b c) [pp 0] (.cx []) (yJ r.1 r.2.1 r.2.2.1 r.2.2.2.1 r.2.2.2.2):=by
 refine fG Tryz.func101 ?_;unfold wK at h;refine(ae)<|jN h λ⟨g,i⟩=>jM [] (yJ g l a b i) 9 (λ h=>?_) λ h=>?_
 ·refine(ak)<|lI (λ n' x'=>Ag F rf l a b n' x'.1 x'.2.1 x'.2.2) (λ x'=>[(0,pp 0),(8,sM cJ rf.bg),(9,aI ((List.length (List.map cJ rf.bg):Nat):Int)),(10,aI x'.1)]) (λ x'=>(yJ x'.2.1 l a b x'.2.2)) 9 (0,rf,c) [(0,0),(5,1),(6,2),(7,3),(8,4)] h ?_;rintro j ⟨d,k,m⟩ h;dsimp only at h;rw[Ag.eq_2]at h;refine(ay)<|bS h (λ h=>?_) λ h=>?_
  ·refine(ae)<|jN h λ⟨e,f⟩=>jM [(0,pp 0),(8,sM cJ rf.bg),(9,aI ((List.length (List.map cJ rf.bg):Nat):Int)),(10,aI d)] (yJ e l a b f) 9 (λ h=>?_) λ h=>?_
   ·refine(ak)<|gX h λ h=>?_;refine(ae)<|oB h λ n h=>?_;refine(ay)<|bS h (λ h=>?_) λ h=>?_
    ·exact(ae)<|cG [0,5,6,7,8] h Ks λ o h=>qE (ii 8 [(8,494)])
    exact qE (ii 9 [])
   exact rE (j,(IntKind.wrap IntKind.i64 (d+(1:Int))),e,f) (ii 9 []) h
  exact qE (ii 9 [])
 exact qG (ii 9 [])
theorem wM{rf l a b c r}(h:qV F rf l a b c=some r):FZ ml 121 (T1 rf l a b c) [pp 0] (aI r) (T1 rf l a b c):=by
 refine fG Tryz.func121 ?_;unfold qV at h;exact(ak)<|cL h yf λ d h=>qG (ii 5 [])
theorem Zjf{x y r}(h:Km F x y=some r):FZ ml 244 [] [AV.int IntKind.u64 x,AV.int IntKind.u64 y] (.cx [.int IntKind.u64 r.1,.int IntKind.u64 r.2]) []:=by
 refine fA Tryz.func244 ?_;unfold Km at h;exact qR
theorem Zj3{x y r}(h:Kg F x y=some r):FZ ml 227 [] [AV.int IntKind.u64 x,AV.int IntKind.u64 y] (.cx [.int IntKind.u64 r.1,.int IntKind.u64 r.2]) []:=by
 refine fA Tryz.func227 ?_;unfold Kg at h
 (conv=>whnf);left;exact(ak)<|cL h Zjf λ a h=>qR
theorem ZfJ{x count r}(h:sD F x count=some r):FZ ml 196 [] [sM cJ x,aI count] (.bf 0 1) (j4 r):=by
 refine fG Tryz.func196 ?_;unfold sD at h;refine(ay)<|bT h λ h=>?_;refine(ak)<|cL h Zj3 λ c h=>?_;refine(ae)<|jN h λ d=>jM [(0,sM cJ x),(6,AV.int IntKind.u64 c.2),(26,.bool d)] [] 0 (λ h=>qE []) λ h=>?_;refine(ay)<|bT h λ h=>?_;refine(ae)<|gX h λ h=>?_;refine(ae)<|gX h λ h=>?_;refine(ae)<|gX h λ h=>?_;(conv=>whnf);refine And.intro (eF.replicate rfl) ?_;refine(ae)<|aX ?_;refine(ae)<|jN h λ e=>jM [(7,.bf 0 1)] (j4 e) 1 (λ h=>?_) λ h=>?_
 ·refine(ak)<|lI (λ n' x'=>Ga F n' x'.1 x'.2) (λ x'=>[(7,.bf 0 1),(8,aI x'.1)]) (λ x'=>(j4 x'.2)) 1 (((min (List.length (List.replicate (Int.toNat (IntKind.wrap IntKind.i64 c.2)) ((AV.int IntKind.i64 0)::[]))) (List.length (List.map cJ x)):Nat):Int),((List.take 0 (List.replicate (Int.toNat (IntKind.wrap IntKind.i64 c.2)) 0))++((List.take (min (List.length (List.replicate (Int.toNat (IntKind.wrap IntKind.i64 c.2)) ((AV.int IntKind.i64 0)::[]))) (List.length (List.map cJ x))) x)++(List.drop (0+(min (List.length (List.replicate (Int.toNat (IntKind.wrap IntKind.i64 c.2)) ((AV.int IntKind.i64 0)::[]))) (List.length (List.map cJ x)))) (List.replicate (Int.toNat (IntKind.wrap IntKind.i64 c.2)) 0))))) [(0,64)] h ?_;rintro f ⟨a,b⟩ h;dsimp only at h;rw[Ga.eq_2]at h;refine(ay)<|bS h (λ h=>?_) λ h=>?_
  ·refine(ak)<|aX ?_;refine(ak)<|gX h λ h=>?_;refine(ae)<|gS h λ h=>?_;refine(ae)<|gS h λ h=>?_;refine(ae)<|aX ?_;refine(ak)<|gX h λ h=>?_;refine(ae)<|gX h λ h=>?_;refine(ae)<|gS h λ h=>?_;refine(ae)<|aX ?_;(conv=>whnf);refine And.intro (eF.take (eF.drop (eF.map (λ _=>rfl)))) ?_;refine(ae)<|gS h λ h=>?_;refine(ae)<|aX ?_;exact rE (f,(IntKind.wrap IntKind.i64 (a+((min ((List.length (List.map cJ b))-(Int.toNat a)) (List.length (List.take ((Int.toNat a)-0) (List.drop 0 (List.map cJ b)))):Nat):Int))),((List.take (Int.toNat a) b)++((List.take (min ((List.length (List.map cJ b))-(Int.toNat a)) (List.length (List.take ((Int.toNat a)-0) (List.drop 0 (List.map cJ b))))) (List.take ((Int.toNat a)-0) (List.drop 0 b)))++(List.drop ((Int.toNat a)+(min ((List.length (List.map cJ b))-(Int.toNat a)) (List.length (List.take ((Int.toNat a)-0) (List.drop 0 (List.map cJ b)))))) b)))) [(0,0)] h
  exact qE [(0,0)]
 exact qG [(0,0)]
theorem FH{t a more r}(h:ou F t a more=some r):FZ ml 166 [] [.agg (ca.c t),aI a,sM bx.c more] (.cx [.agg (ca.c r.1),.bool r.2]) []:=by
 refine fK Tryz.func166 ?_;unfold ou at h
 (conv=>whnf);left;(conv=>whnf);left;(conv=>whnf);left;refine(ak)<|aX ?_;refine(ae)<|gX h λ h=>?_;refine(ae)<|gX h λ h=>?_;refine(ae)<|gS h λ h=>?_;(conv=>whnf);refine And.intro (eF.take (eF.map (λ _=>rfl))) ?_;refine(ae)<|gX h λ h=>?_;refine(ae)<|aX ?_;(conv=>whnf);refine And.intro (eF.take (eF.map (λ _=>rfl))) ?_;refine(ae)<|gS h λ h=>?_;refine(ak)<|aX ?_;exact(ak)<|cL h (λ h=>aE (wG h)) λ b h=>qK
theorem PL{t e r}(h:yc F t e=some r):FZ ml 118 [] [.agg (ca.c t),.agg (bx.c e)] (.cx [.agg (ca.c r.1),.bool r.2]) []:=by
 refine fK Tryz.func118 ?_;unfold yc at h
 (conv=>whnf);left;(conv=>whnf);left;(conv=>whnf);left;refine(ak)<|cL h wG λ a h=>?_;refine(ay)<|bS h (λ h=>qK) λ h=>?_;(conv=>whnf);left;(conv=>whnf);left;obtain⟨b,hy,h⟩:=eB h;refine⟨_,_,(lZ (cT rfl (cT rfl (cT (YU AV.sl rQ) rfl))) (FH hy)),Or.inr ⟨[416],rfl,?_⟩⟩;exact qK
theorem P0{rf l b c a r}(h:yz F rf l b c a=some r):FZ ml 119 (T1 rf l b c a) [pp 0] (.cx []) (T1 rf l r.1 r.2 a):=by
 refine fG Tryz.func119 ?_;unfold yz at h;refine(ak)<|cL h Kw λ d h=>?_;refine(ae)<|aX ?_;refine(ae)<|cH [0,1,2,3,4] h wM λ e h=>?_;refine(ae)<|cH [0,1,2,3,4] h wM λ f h=>?_;refine(ae)<|gX h λ h=>?_;refine(ae)<|oB h λ g h=>?_;refine(ae)<|oB h λ i h=>?_;refine(ae)<|gX h λ h=>?_;refine(ae)<|oB h λ j h=>?_;refine(ae)<|oB h λ k h=>?_;refine(ae)<|aX ?_;cases h;exact gE (ii 5 [])
theorem PR{x r}(h:C6 F x=some r):FZ ml 270 [] [aI x] (.bool r) []:=by
 refine fA Tryz.func270 ?_;unfold C6 at h;exact qR
theorem Zjs{x y r}(h:CW F x y=some r):FZ ml 255 [] [aI x,aI y] (.bool r) []:=by
 refine fA Tryz.func255 ?_;unfold CW at h
 (conv=>whnf);left;refine(ak)<|cL h PR λ a h=>?_;refine(ae)<|bS h (λ h=>?_) λ h=>?_
 ·exact(ak)<|cL h PR λ b h=>qR
 exact qR
theorem ZeE{a b l r}(h:Dw F a b l=some r):FZ ml 249 (j4 l) [.bf 0 1,aI a,aI b] (.cx []) (j4 r):=by
 refine fG Tryz.func249 ?_;unfold Dw at h;refine(ae)<|jN h λ i=>jM [] (j4 i) 1 (λ h=>?_) λ h=>?_
 ·refine(ak)<|lI (λ n' x'=>Ak F a b n' x'.1 x'.2) (λ x'=>[(0,.bf 0 1),(1,aI a),(2,aI b),(6,aI x'.1)]) (λ x'=>(j4 x'.2)) 1 ((IntKind.wrap IntKind.i64 (a+(1:Int))),l) [(0,0)] h ?_;rintro j ⟨d,k⟩ h;dsimp only at h;rw[Ak.eq_2]at h;refine(ay)<|bS h (λ h=>?_) λ h=>?_
  ·refine(ae)<|jN h λ f=>jM [(0,.bf 0 1),(1,aI a),(2,aI b),(6,aI d)] (j4 f) 1 (λ h=>?_) λ h=>?_
   ·refine(ak)<|jN h λ m=>jM [(0,.bf 0 1),(1,aI a),(2,aI b),(6,aI d)] (j4 m) 1 (λ h=>?_) λ h=>?_
    ·refine(ak)<|lI (λ n' x'=>yC F a n' x'.1 x'.2) (λ x'=>[(0,.bf 0 1),(1,aI a),(2,aI b),(6,aI d),(7,aI x'.1)]) (λ x'=>(j4 x'.2)) 1 (d,k) [(0,0)] h ?_;rintro n ⟨e,g⟩ h;dsimp only at h;rw[yC.eq_2]at h;refine(ae)<|jN h λ o=>jM [(0,.bf 0 1),(1,aI a),(2,aI b),(6,aI d),(7,aI e),(30,.bool o)] (j4 g) 1 (λ h=>?_) λ h=>?_
     ·refine(ay)<|bS h (λ h=>?_) λ h=>?_
      ·refine(ae)<|gX h λ h=>?_;refine(ae)<|oB h λ s h=>?_;refine(ae)<|oB h λ t h=>?_;refine(ae)<|gX h λ h=>?_;refine(ae)<|oB h λ u h=>?_;refine(ae)<|oB h λ v h=>?_;exact(ak)<|cL h Zjs λ w h=>qE [(0,0)]
      exact qE [(0,0)]
     refine(ay)<|bS h (λ h=>?_) λ h=>?_
     ·refine(ak)<|gX h λ h=>?_;refine(ae)<|oB h λ x h=>?_;refine(ae)<|oB h λ p h=>?_;refine(ae)<|gX h λ h=>?_;refine(ae)<|oB h λ y h=>?_;refine(ae)<|oB h λ q h=>?_;refine(ae)<|gX h λ h=>?_;refine(ae)<|oB h λ z h=>?_;refine(ae)<|oB h λ A h=>?_;refine(ae)<|gX h λ h=>?_;refine(ae)<|oB (c:=cn IntKind.i64) h λ B h=>?_;refine(ae)<|oB (c:=cn IntKind.i64) h λ C h=>?_;refine(ae)<|aX ?_;exact rE (n,(IntKind.wrap IntKind.i64 (e-(1:Int))),(List.set (List.set g (Int.toNat e) p) (Int.toNat (IntKind.wrap IntKind.i64 (e-(1:Int)))) q)) [(0,0)] h
     exact qE [(0,0)]
    exact qE [(0,0)]
   exact rE (j,(IntKind.wrap IntKind.i64 (d+(1:Int))),f) [(0,0)] h
  exact qE [(0,0)]
 exact qG [(0,0)]
theorem ZfI{a b jW l r}(h:KE F a b jW l=some r):FZ ml 230 (j4 l) [.bf 0 1,aI a,aI b,aI jW] (.cx []) (j4 r):=by
 refine fG Tryz.func230 ?_;unfold KE at h;refine(ak)<|lI (λ n' (_:Unit)=>Dy F a b jW l n') (λ _=>[(0,.bf 0 1),(1,aI a),(2,aI b),(3,aI jW),(8,.bool true),(9,.bool true)]) (λ _=>(j4 l)) 1 () [(0,0)] h ?_;rintro c-h;rw[Dy.eq_2]at h;(conv=>whnf);left;refine(ay)<|bS h (λ h=>?_) λ h=>?_
 ·exact(ae)<|cG [0] h ZeE λ d h=>qG [(0,0)]
 refine(ay)<|bS h (λ h=>?_) λ h=>?_
 ·(conv=>whnf);left;cases h
 (conv=>whnf);left;(conv=>whnf);left;cases h
theorem ZfT{l r}(h:Ds F l=some r):FZ ml 199 (j4 l) [.bf 0 1] (.cx []) (j4 r):=by
 refine fG Tryz.func199 ?_;unfold Ds at h;refine(ak)<|cL h Zj4 λ a h=>?_;exact(ae)<|cG [0] h ZfI λ b h=>qG [(0,0)]
theorem ZjA{a dV r}(h:CY F a dV=some r):FZ ml 167 [] [sM cJ a,sM da.c dV] (aI r) []:=by
 refine fA Tryz.func167 ?_;unfold CY at h;refine(ak)<|cL h CX λ n h=>?_;refine(ay)<|bS h (λ h=>qR) λ h=>?_;refine(ae)<|jN h λ j=>jM [(5,.bf 0 1)] (j4 j) 1 (λ h=>?_) λ h=>?_
 ·refine(ak)<|lI (λ n' x'=>z6 F a dV n' x'.1 x'.2) (λ x'=>[(1,sM da.c dV),(5,.bf 0 1),(14,sM cJ a),(15,aI ((List.length (List.map cJ a):Nat):Int)),(16,aI x'.1)]) (λ x'=>(j4 x'.2)) 1 (0,[]) [(0,160)] h ?_;rintro k ⟨b,d⟩ h;dsimp only at h;rw[z6.eq_2]at h;refine(ay)<|bS h (λ h=>?_) λ h=>?_
  ·refine(ae)<|jN h λ f=>jM [(1,sM da.c dV),(5,.bf 0 1),(14,sM cJ a),(15,aI ((List.length (List.map cJ a):Nat):Int)),(16,aI b)] (j4 f) 1 (λ h=>?_) λ h=>?_
   ·refine(ak)<|gX h λ h=>?_;refine(ae)<|oB h λ e h=>?_;refine(ae)<|jN h λ l=>jM [(1,sM da.c dV),(5,.bf 0 1),(8,aI l),(14,sM cJ a),(15,aI ((List.length (List.map cJ a):Nat):Int)),(16,aI b)] (j4 d) 1 (λ h=>?_) λ h=>?_
    ·refine(ak)<|lI (λ n' x'=>yj F dV e n' x'.1 x'.2) (λ x'=>[(1,sM da.c dV),(5,.bf 0 1),(7,aI e),(8,aI x'.1),(14,sM cJ a),(15,aI ((List.length (List.map cJ a):Nat):Int)),(16,aI b),(20,sM da.c dV),(21,aI ((List.length (List.map da.c dV):Nat):Int)),(22,aI x'.2)]) (λ x'=>(j4 d)) 1 (0,0) [(0,0)] h ?_;rintro m ⟨o,g⟩ h;dsimp only at h;rw[yj.eq_2]at h;refine(ay)<|bS h (λ h=>?_) λ h=>?_
     ·refine(ae)<|jN h λ i=>jM [(1,sM da.c dV),(5,.bf 0 1),(7,aI e),(8,aI i),(14,sM cJ a),(15,aI ((List.length (List.map cJ a):Nat):Int)),(16,aI b),(20,sM da.c dV),(21,aI ((List.length (List.map da.c dV):Nat):Int)),(22,aI g)] (j4 d) 1 (λ h=>?_) λ h=>?_
      ·refine(ak)<|gX h λ h=>?_;refine(ae)<|oB h λ p h=>?_;exact qE [(0,0)]
      exact rE (m,i,(IntKind.wrap IntKind.i64 (g+(1:Int)))) [(0,0)] h
     exact qE [(0,0)]
    refine(ak)<|aX ?_;refine(ae)<|aX ?_;refine(ae)<|gS h λ h=>?_;cases h;exact eE [(0,97)]
   exact rE (k,(IntKind.wrap IntKind.i64 (b+(1:Int))),f) [(0,0)] h
  exact qE [(0,0)]
 refine(ae)<|cG [0] h ZfT λ q h=>?_;refine(ae)<|aX ?_;refine(ae)<|gS h λ h=>?_;refine(ae)<|oB h λ s h=>?_;refine(ae)<|oB h λ t h=>?_;exact qR
theorem Kt{rf l b a d r}(h:ve F rf l b a d=some r):FZ ml 120 (T1 rf l b a d) [pp 0] (.cx []) (T1 r l b a d):=by
 refine fG Tryz.func120 ?_;unfold ve at h;refine(ae)<|jN h λ e=>jM [(0,pp 0),(2,.bf 5 2)] (T1 rf l b a d++[(5,rT da.c e)]) 6 (λ h=>?_) λ h=>?_
 ·refine(ak)<|lI (λ n' x'=>yt F rf a n' x'.1 x'.2) (λ x'=>[(0,pp 0),(2,.bf 5 2),(12,sM cJ rf.bg),(13,aI ((List.length (List.map cJ rf.bg):Nat):Int)),(14,aI x'.1)]) (λ x'=>(T1 rf l b a d++[(5,rT da.c x'.2)])) 6 (0,[]) (ii 5 [(5,32)]) h ?_;rintro f ⟨g,i⟩ h;dsimp only at h;rw[yt.eq_2]at h;refine(ay)<|bS h (λ h=>?_) λ h=>?_
  ·refine(ak)<|gX h λ h=>?_;refine(ae)<|oB h λ j h=>?_;refine(ae)<|gX h λ h=>?_;refine(ae)<|oB h λ o h=>?_;refine(ae)<|oB h λ k h=>?_;(conv=>whnf);left;refine(ak)<|aX ?_;refine(ae)<|aX ?_;refine(ae)<|gS h λ h=>?_;exact rE (f,(IntKind.wrap IntKind.i64 (g+(1:Int))),(i++((da.mk j k)::[]))) (ii 5 [(5,582)]) h
  exact qE (ii 6 [])
 refine(ak)<|cL h ZjA λ m h=>?_;refine(ak)<|cL h zQ λ p h=>?_;exact(ae)<|jN h λ n=>jM [(0,pp 0),(5,aI m),(68,.bool n)] (T1 rf l b a d) 5 (λ h=>qE (ii 5 [])) λ h=>qG (ii 5 [])
theorem C9{rf l a b d r}(h:zY F rf l a b d=some r):FZ ml 153 (T1 rf l a b d) [pp 0] (.cx []) (T9 r.1 l a b r.2.1 r.2.2.1 r.2.2.2.1 r.2.2.2.2):=by
 refine fG Tryz.func153 ?_;unfold zY at h
 (conv=>whnf);refine Or.inr (iP 1 _ _ rfl rfl rfl ?_);refine(ae)<|cH [0,800,2,3,4] h wM λ g h=>?_;(conv=>whnf);left;(conv=>whnf);left;obtain⟨e,hy,h⟩:=eB h;refine⟨_,_,(lZ (cT (YU AV.sl rQ) rfl) (ZfJ hy)),Or.inr ⟨[960],rfl,?_⟩⟩;refine(ak)<|aX ?_;(conv=>whnf);refine And.intro (by omega) ?_;refine(ae)<|gS h λ h=>?_;refine(ae)<|gS h λ h=>?_;(conv=>whnf);left;(conv=>whnf);left;refine(ak)<|cR h PL λ i h=>?_;refine(ak)<|aX ?_;refine(ae)<|jN h λ f=>jM [(0,pp 0)] [(0,rF (cP.c f++[.bf 5 1,.bf 6 1,.bf 7 1,.bf 4 10])),(1,rT cJ l),(2,rT cJ a),(3,rT cJ b),(4,rT cj.c d),(5,rT cJ []),(6,rT cJ e),(7,rT cJ (List.replicate (Int.toNat ((List.length (List.map cJ rf.bg):Nat):Int)) 0))] 8 (λ h=>?_) λ h=>?_
 ·refine(ay)<|bS h (λ h=>?_) λ h=>?_
  ·cases h;exact eE (ii 5 [(5,800),(6,1184),(7,1568)])
  cases h;exact eE (ii 5 [(5,800),(6,1184),(7,1568)])
 refine(ae)<|cG [0,5,6,7,4] h P0 λ j h=>?_;refine(ae)<|cG [0,5,6,7,4] h Kt λ k h=>?_;exact(ae)<|cG [0,5,6,7,4] h KA λ m h=>qG (ii 5 [(5,173),(6,174),(7,175),(8,176)])
theorem ZhM{g rf l a b e r}(h:vf F g rf l a b e=some (Sum.inl r)):FZ ml 102 (T1 rf l a b e) [pp 0,aI g] (.cx []) (T1 r.1 l a b r.2):=by
 refine fG Tryz.func102 ?_;unfold vf at h;refine(ay)<|bS h (λ h=>qG (ii 5 [])) λ h=>?_;refine(ae)<|jN h λ f=>jM [(0,pp 0),(1,aI f)] (T1 rf l a b e) 5 (λ h=>qE (ii 5 [])) λ h=>?_;(conv=>whnf);left;(conv=>whnf);left;(conv=>whnf);refine Or.inr (iP 1 _ _ rfl rfl rfl ?_);(conv=>whnf);refine Or.inr (iP 1 _ _ rfl rfl rfl ?_);refine(ae)<|aX ?_;refine(ae)<|aX ?_;refine(ak)<|cL h (λ h=>aE (zJ h)) λ p h=>?_;refine(ae)<|aX ?_;refine(ay)<|bS h (λ h=>?_) λ h=>?_
 ·refine(ae)<|cG [0,837,1477,1605,4] h C9 λ q h=>?_;cases h
 refine(ak)<|cL h yf λ d h=>?_;refine(ae)<|jN h λ⟨m,n⟩=>jM [] (Gg m l a b++[(5,.rows true [[aI rf.Id]]),(6,.rows true []),(7,.rows true []),(8,rT cj.c n)]) 9 (λ h=>?_) λ h=>?_
 ·refine(ak)<|lI (λ n' x'=>tH F rf d n' x'.1 x'.2.1 x'.2.2) (λ x'=>[(0,pp 0),(4,aI d.1),(5,aI d.2),(105,sM cJ rf.bg),(106,aI ((List.length (List.map cJ rf.bg):Nat):Int)),(107,aI x'.1)]) (λ x'=>(T9 x'.2.1 l a b (rf.Id::[]) [] [] x'.2.2)) 9 (0,(cP.mk rf.Id rf.bg (IntKind.wrap IntKind.i64 (rf.Term+(1:Int))) rf.Id 1 0 rf.Trail rf.bj rf.ah (IntKind.wrap IntKind.i64 (10+(@Int.tmod f 10))) (IntKind.wrap IntKind.i64 (10+(@Int.tmod f 10)))),e) (ii 4 [(5,837),(6,1477),(7,1605),(8,4)]) h ?_;rintro o ⟨i,s,t⟩ h;dsimp only at h;rw[tH.eq_2]at h;refine(ay)<|bS h (λ h=>?_) λ h=>?_
  ·refine(ae)<|jN h λ⟨j,k⟩=>jM [(0,pp 0),(4,aI d.1),(5,aI d.2),(105,sM cJ rf.bg),(106,aI ((List.length (List.map cJ rf.bg):Nat):Int)),(107,aI i)] (T9 j l a b (rf.Id::[]) [] [] k) 9 (λ h=>?_) λ h=>?_
   ·refine(ak)<|gX h λ h=>?_;refine(ae)<|oB h λ u h=>?_;refine(ay)<|bS h (λ h=>?_) λ h=>?_
    ·(conv=>whnf);left;obtain⟨v,hy,h⟩:=eB h;refine cW [0,5,6,7,8] (sE hy) ?_;exact qE (ii 8 [(8,526)])
    exact qE (ii 9 [])
   exact rE (o,(IntKind.wrap IntKind.i64 (i+(1:Int))),j,k) (ii 9 []) h
  exact qE (ii 9 [])
 cases h
theorem ZhL{g rf l a b e r}(h:vf F g rf l a b e=some (Sum.inr (Sum.inl r))):FZ ml 102 (T1 rf l a b e) [pp 0,aI g] (.cx []) (T9 r.1 l a b r.2.1 r.2.2.1 r.2.2.2.1 r.2.2.2.2):=by
 refine fG Tryz.func102 ?_;unfold vf at h;refine(ay)<|bS h (λ h=>?_) λ h=>?_
 ·cases h
 refine(ae)<|jN h λ f=>jM [(0,pp 0),(1,aI f)] (T1 rf l a b e) 5 (λ h=>qE (ii 5 [])) λ h=>?_;(conv=>whnf);left;(conv=>whnf);left;(conv=>whnf);refine Or.inr (iP 1 _ _ rfl rfl rfl ?_);(conv=>whnf);refine Or.inr (iP 1 _ _ rfl rfl rfl ?_);refine(ae)<|aX ?_;refine(ae)<|aX ?_;refine(ak)<|cL h (λ h=>aE (zJ h)) λ p h=>?_;refine(ae)<|aX ?_;refine(ay)<|bS h (λ h=>?_) λ h=>?_
 ·refine(ae)<|cG [0,837,1477,1605,4] h C9 λ q h=>?_;(conv=>whnf);obtain rfl:=Sum.inl.inj (U9 (W5 h));exact gI (ii 5 [(5,2602),(6,2603),(7,2604),(8,2605)])
 refine(ak)<|cL h yf λ d h=>?_;refine(ae)<|jN h λ⟨m,n⟩=>jM [] (Gg m l a b++[(5,.rows true [[aI rf.Id]]),(6,.rows true []),(7,.rows true []),(8,rT cj.c n)]) 9 (λ h=>?_) λ h=>?_
 ·refine(ak)<|lI (λ n' x'=>tH F rf d n' x'.1 x'.2.1 x'.2.2) (λ x'=>[(0,pp 0),(4,aI d.1),(5,aI d.2),(105,sM cJ rf.bg),(106,aI ((List.length (List.map cJ rf.bg):Nat):Int)),(107,aI x'.1)]) (λ x'=>(T9 x'.2.1 l a b (rf.Id::[]) [] [] x'.2.2)) 9 (0,(cP.mk rf.Id rf.bg (IntKind.wrap IntKind.i64 (rf.Term+(1:Int))) rf.Id 1 0 rf.Trail rf.bj rf.ah (IntKind.wrap IntKind.i64 (10+(@Int.tmod f 10))) (IntKind.wrap IntKind.i64 (10+(@Int.tmod f 10)))),e) (ii 4 [(5,837),(6,1477),(7,1605),(8,4)]) h ?_;rintro o ⟨i,s,t⟩ h;dsimp only at h;rw[tH.eq_2]at h;refine(ay)<|bS h (λ h=>?_) λ h=>?_
  ·refine(ae)<|jN h λ⟨j,k⟩=>jM [(0,pp 0),(4,aI d.1),(5,aI d.2),(105,sM cJ rf.bg),(106,aI ((List.length (List.map cJ rf.bg):Nat):Int)),(107,aI i)] (T9 j l a b (rf.Id::[]) [] [] k) 9 (λ h=>?_) λ h=>?_
   ·refine(ak)<|gX h λ h=>?_;refine(ae)<|oB h λ u h=>?_;refine(ay)<|bS h (λ h=>?_) λ h=>?_
    ·(conv=>whnf);left;obtain⟨v,hy,h⟩:=eB h;refine cW [0,5,6,7,8] (sE hy) ?_;exact qE (ii 8 [(8,526)])
    exact qE (ii 9 [])
   exact rE (o,(IntKind.wrap IntKind.i64 (i+(1:Int))),j,k) (ii 9 []) h
  exact qE (ii 9 [])
 cases h
theorem ZhK{g rf l a b e r}(h:vf F g rf l a b e=some (Sum.inr (Sum.inr r))):FZ ml 102 (T1 rf l a b e) [pp 0,aI g] (.cx []) (Gg r.1 l a b++[(5,.rows true [[aI r.2.1]]),(6,.rows true []),(7,.rows true []),(8,rT cj.c r.2.2)]):=by
 refine fG Tryz.func102 ?_;unfold vf at h;refine(ay)<|bS h (λ h=>?_) λ h=>?_
 ·cases h
 refine(ae)<|jN h λ f=>jM [(0,pp 0),(1,aI f)] (T1 rf l a b e) 5 (λ h=>qE (ii 5 [])) λ h=>?_;(conv=>whnf);left;(conv=>whnf);left;(conv=>whnf);refine Or.inr (iP 1 _ _ rfl rfl rfl ?_);(conv=>whnf);refine Or.inr (iP 1 _ _ rfl rfl rfl ?_);refine(ae)<|aX ?_;refine(ae)<|aX ?_;refine(ak)<|cL h (λ h=>aE (zJ h)) λ p h=>?_;refine(ae)<|aX ?_;refine(ay)<|bS h (λ h=>?_) λ h=>?_
 ·refine(ae)<|cG [0,837,1477,1605,4] h C9 λ q h=>?_;cases h
 refine(ak)<|cL h yf λ d h=>?_;refine(ae)<|jN h λ⟨m,n⟩=>jM [] (Gg m l a b++[(5,.rows true [[aI rf.Id]]),(6,.rows true []),(7,.rows true []),(8,rT cj.c n)]) 9 (λ h=>?_) λ h=>?_
 ·refine(ak)<|lI (λ n' x'=>tH F rf d n' x'.1 x'.2.1 x'.2.2) (λ x'=>[(0,pp 0),(4,aI d.1),(5,aI d.2),(105,sM cJ rf.bg),(106,aI ((List.length (List.map cJ rf.bg):Nat):Int)),(107,aI x'.1)]) (λ x'=>(T9 x'.2.1 l a b (rf.Id::[]) [] [] x'.2.2)) 9 (0,(cP.mk rf.Id rf.bg (IntKind.wrap IntKind.i64 (rf.Term+(1:Int))) rf.Id 1 0 rf.Trail rf.bj rf.ah (IntKind.wrap IntKind.i64 (10+(@Int.tmod f 10))) (IntKind.wrap IntKind.i64 (10+(@Int.tmod f 10)))),e) (ii 4 [(5,837),(6,1477),(7,1605),(8,4)]) h ?_;rintro o ⟨i,s,t⟩ h;dsimp only at h;rw[tH.eq_2]at h;refine(ay)<|bS h (λ h=>?_) λ h=>?_
  ·refine(ae)<|jN h λ⟨j,k⟩=>jM [(0,pp 0),(4,aI d.1),(5,aI d.2),(105,sM cJ rf.bg),(106,aI ((List.length (List.map cJ rf.bg):Nat):Int)),(107,aI i)] (T9 j l a b (rf.Id::[]) [] [] k) 9 (λ h=>?_) λ h=>?_
   ·refine(ak)<|gX h λ h=>?_;refine(ae)<|oB h λ u h=>?_;refine(ay)<|bS h (λ h=>?_) λ h=>?_
    ·(conv=>whnf);left;obtain⟨v,hy,h⟩:=eB h;refine cW [0,5,6,7,8] (sE hy) ?_;exact qE (ii 8 [(8,526)])
    exact qE (ii 9 [])
   exact rE (o,(IntKind.wrap IntKind.i64 (i+(1:Int))),j,k) (ii 9 []) h
  exact qE (ii 9 [])
 (conv=>whnf);obtain rfl:=U9 (U9 (W5 h));exact gI (ii 9 [])
theorem Zl4{r_ b r}(h:Ct F r_ b=some r):FZ ml 71 [] [.agg (bD.c r_),aI b] (.cx [.agg [aI r.1,sM cJ r.2.1,aI r.2.2.1,aI r.2.2.2.1,aI r.2.2.2.2.1,aI r.2.2.2.2.2.1,aI r.2.2.2.2.2.2.1,aI r.2.2.2.2.2.2.2.1,sM bx.c r.2.2.2.2.2.2.2.2.1,.str r.2.2.2.2.2.2.2.2.2.1,aI r.2.2.2.2.2.2.2.2.2.2.1,aI r.2.2.2.2.2.2.2.2.2.2.2.1,aI r.2.2.2.2.2.2.2.2.2.2.2.2.1,.bf 0 1,.bf 1 1,.bf 2 1],.bf 3 10]) (Dz r.2.2.2.2.2.2.2.2.2.2.2.2.2.1 r.2.2.2.2.2.2.2.2.2.2.2.2.2.2.1 r.2.2.2.2.2.2.2.2.2.2.2.2.2.2.2.1++[(3,rT cj.c r.2.2.2.2.2.2.2.2.2.2.2.2.2.2.2.2)]):=by
 refine fG Tryz.func71 ?_;unfold Ct at h
 (conv=>whnf);left;(conv=>whnf);left;refine(ak)<|cR h FA λ j h=>?_;refine(ak)<|cL h qS λ k h=>?_;refine(ay)<|bS h (λ h=>?_) λ h=>?_
 ·cases h;exact gE [(0,161),(1,162),(2,163),(3,480)]
 refine(ae)<|jN h λ⟨d,e,f,g,i⟩=>jM [(4,pp 0),(6,pp 1)] (DA d e f g i) 6 (λ h=>?_) λ h=>?_
 ·(conv=>whnf);left;refine(ay)<|bS h (λ h=>qE [(0,64),(1,160),(2,161),(3,162),(4,163),(5,164)]) λ h=>?_;refine(ay)<|bS h (λ h=>?_) λ h=>?_
  ·exact(ae)<|cG [160,161,162,163,164] h KA λ l h=>qE [(0,64),(1,160),(2,1349),(3,1350),(4,1351),(5,1352)]
  obtain⟨a,hy,h⟩:=eB h;rcases a with a|a
  ·replace h:=km h;refine(ae)<|cg [160,161,162,163,164] (ZhM hy) ?_;exact qE [(0,64),(1,160),(2,161),(3,162),(4,163),(5,164)]
  replace h:=ko h;rcases a with a|a
  ·replace h:=km h;refine(ae)<|cg [160,161,162,163,164] (ZhL hy) ?_;exact qE [(0,64),(1,160),(2,1221),(3,1222),(4,1223),(5,1224)]
  replace h:=ko h;refine(ae)<|cg [160,161,162,163,164] (ZhK hy) ?_;cases h;exact eE [(0,64),(1,160),(2,1221),(3,1222),(4,1223),(5,1224)]
 exact qG [(0,2),(1,3),(2,4),(3,5)]
theorem ZgB{s1 s2 r}(h:Du F s1 s2=some r):FZ ml 125 [] [sM cJ s1,sM cJ s2] (.bool r) []:=by
 refine fA Tryz.func125 ?_;unfold Du at h;refine(ay)<|bS h (λ h=>qR) λ h=>?_;refine(ae)<|jS h λ o0 vu=>jT [] [] 0 (λ h k0 e=>?_) λ h=>?_
 ·refine(ak)<|lI (λ n' x'=>z8 F s1 s2 n' x') (λ x'=>[(0,sM cJ s1),(1,sM cJ s2),(12,aI ((List.length (List.map cJ s1):Nat):Int)),(13,aI x')]) (λ x'=>[]) 0 0 [] h ?_;rintro a b h;rw[z8.eq_2]at h;refine(ay)<|bS h (λ h=>?_) λ h=>?_
  ·refine(ak)<|gX h λ h=>?_;refine(ae)<|oB h λ c h=>?_;refine(ae)<|gX h λ h=>?_;refine(ae)<|oB h λ d h=>?_;refine(ae)<|aX ?_;refine(ay)<|bS h (λ h=>?_) λ h=>?_
   ·cases h;cases k0;exact rfl
   exact rE (a,(IntKind.wrap IntKind.i64 (b+(1:Int)))) [] h
  exact qE []
 exact qR
theorem wD{n r}(h:mH F n=some r):FZ ml 169 [] [aI n] (.agg (cA.c r)) []:=by
 refine fA Tryz.func169 ?_;unfold mH at h;exact qR
theorem Fx{kind fields r}(h:sw F kind fields=some r):FZ ml 168 [] [aI kind,sM cA.c fields] (sM cB r) []:=by
 refine fA Tryz.func168 ?_;unfold sw at h;refine(ak)<|cL h wD λ a h=>?_;refine(ak)<|aX ?_;refine(ae)<|aX ?_;refine(ae)<|gS h λ h=>?_;(conv=>whnf);left;obtain⟨b,hy,h⟩:=eB h;refine⟨_,_,(lZ (cT (YU AV.sl rQ) rfl) (fx (FE hy) rfl)),Or.inr ⟨[192],rfl,?_⟩⟩;exact qR
theorem PG{s r}(h:wm F s=some r):FZ ml 170 [] [.str s] (.agg (cA.c r)) []:=by
 refine fA Tryz.func170 ?_;unfold wm at h;exact qR
end Go.T
