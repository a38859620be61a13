import Derived.Test.YtjpmdkgonlmddaaGreatDoorCertE
set_option linter.unusedVariables false
set_option maxRecDepth 200000
set_option maxHeartbeats 4000000
namespace Go.T
open Go Go.Ab Go.Proofs
variable {ml:Gv}{F:Nat}
theorem ZhA{a c i gs j tb l k n o p m r}(h:Dj F a c i gs j tb l k n o p m=some r):FZ ml 63 (T0 c i gs j tb l k n o p m) [pp 0,.agg (eU.c a)] (aI r.1) (T0 c i r.2 j tb l k n o p m):=by
 refine fG Tryz.func63 ?_;unfold Dj at h
 (conv=>whnf);left;obtain⟨b,hy,h⟩:=eB h;rcases b with b|b
 ·replace h:=km h;refine(ae)<|cg [0,1,2,3,4,5,6,7,8,9] (Dq hy) ?_;exact qG (ii 10 [])
 replace h:=ko h;refine(ae)<|cg [0,1,2,3,4,5,6,7,8,9] (Dr hy) ?_;refine(ay)<|bS h (λ h=>?_) λ h=>?_
 ·(conv=>whnf);obtain⟨hg,h⟩:=dB h;cases h;refine gF 1 202 b.2.1 b.2.2.1 (@Sum.inr ar aw (aw.mk b.2.2.2.2.2.2.2.2.1 b.2.2.2.2.2.2.2.2.2.1 b.2.2.2.2.2.2.1 b.2.2.2.2.2.2.2.2.2.2.1 b.2.2.2.2.2.2.2.2.2.2.2.1 b.2.2.2.2.2.2.2.2.2.2.2.2 b.2.2.2.2.2.2.2.1 b.2.2.2.1 b.2.2.2.2.1 b.2.2.2.2.2.1)) [202,203,205,206,204,207] ?_;exact gI (ii 10 [])
 refine(ae)<|cH [202,203,204,205,206,207] h Zld λ s h=>?_;refine(ak)<|cR h (λ h=>fx (Zj2 h) rfl) λ d h=>?_;refine(ak)<|aX ?_;refine(ae)<|cG [204,207,203,205,206] h KB λ q h=>?_;refine(ae)<|aX ?_;refine(ay)<|bS h (λ h=>?_) λ h=>?_
 ·refine(ae)<|cG [202,203,204,205,1189,207] h Ac λ f h=>?_;(conv=>whnf);obtain⟨hg,h⟩:=dB h;cases h;refine gF 1 202 b.2.1 b.2.2.1 (@Sum.inl ar aw (ar.mk f.2.2.2.2.2 [] f.2.2.2.2.1 f.2.1 f.2.2.1 f.2.2.2.1)) [202,203,205,1286] ?_;exact gI (ii 10 [])
 refine(ae)<|cG [204,207,203,205,1189] h Kz λ t h=>?_;refine(ae)<|cG [204,207,203,205,1381] h Ky λ e h=>?_;refine(ay)<|bS h (λ h=>?_) λ h=>?_
 ·refine(ae)<|cG [202,203,204,205,1701,207] h Ac λ g h=>?_;(conv=>whnf);obtain⟨hg,h⟩:=dB h;cases h;refine gF 1 202 b.2.1 b.2.2.1 (@Sum.inl ar aw (ar.mk g.2.2.2.2.2 [] g.2.2.2.2.1 g.2.1 g.2.2.1 g.2.2.2.1)) [202,203,205,1798] ?_;exact gI (ii 10 [])
 (conv=>whnf);obtain⟨hg,h⟩:=dB h;cases h;refine gF 1 202 b.2.1 b.2.2.1 (@Sum.inr ar aw (aw.mk e.2.2.2.2.2.1 e.2.2.2.2.2.2 e.2.2.2.2.1 e.2.1 e.2.2.1 e.2.2.2.1 q.2.1 (bD.mk d.1 d.2.1 d.2.2.1 d.2.2.2.1 d.2.2.2.2.1 d.2.2.2.2.2.1 (ca.mk d.2.2.2.2.2.2.1 d.2.2.2.2.2.2.2.1 d.2.2.2.2.2.2.2.2.1) d.2.2.2.2.2.2.2.2.2.1 d.2.2.2.2.2.2.2.2.2.2.1 d.2.2.2.2.2.2.2.2.2.2.2.1 d.2.2.2.2.2.2.2.2.2.2.2.2.1 d.2.2.2.2.2.2.2.2.2.2.2.2.2.2.1 d.2.2.2.2.2.2.2.2.2.2.2.2.2.2.2.1 d.2.2.2.2.2.2.2.2.2.2.2.2.2.2.2.2) b.2.2.2.2.1 b.2.2.2.2.2.1)) [202,203,205,1701,204,207] ?_;exact gI (ii 10 [])
theorem wL{a c b gs d tb l e f g i m r}(h:pA F a c b gs d tb l e f g i m=some r):FZ ml 18 (T0 c b gs d tb l e f g i m) [pp 0,.agg (eU.c a)] (aI r.1) (Gk r.2.1 r.2.2.1 r.2.2.2.1 r.2.2.2.2.1 r.2.2.2.2.2.1 r.2.2.2.2.2.2.1 r.2.2.2.2.2.2.2.1 r.2.2.2.2.2.2.2.2.1 r.2.2.2.2.2.2.2.2.2.1 r.2.2.2.2.2.2.2.2.2.2.1 r.2.2.2.2.2.2.2.2.2.2.2):=by
 refine fG Tryz.func18 ?_;unfold pA at h
 (conv=>whnf);left;(conv=>whnf);left;refine(ak)<|cR h Zle λ j h=>?_;refine(ae)<|aX ?_;refine(ay)<|bS h (λ h=>?_) λ h=>?_
 ·refine(ae)<|aX ?_;exact(ak)<|cG [0,1,2,3,4,5,6,7,8,9] h Zhz λ k h=>qG (ii 10 [(10,618),(11,619),(12,620),(13,621),(14,622)])
 refine(ae)<|bS h (λ h=>?_) λ h=>?_
 ·refine(ae)<|aX ?_;exact(ak)<|cG [0,1,2,3,4,5,6,7,8,9] h ZgE λ n h=>qG (ii 10 [(10,618),(11,619),(12,620),(13,621),(14,622)])
 refine(ae)<|bS h (λ h=>?_) λ h=>?_
 ·refine(ae)<|aX ?_;exact(ak)<|cG [0,1,2,3,4,5,6,7,8,9] h ZhD λ o h=>qG (ii 4 [(8,8),(9,9),(10,4),(11,5),(12,6),(13,7),(14,618)])
 refine(ae)<|bS h (λ h=>?_) λ h=>?_
 ·refine(ae)<|aX ?_;exact(ak)<|cG [0,1,2,3,4,5,6,7,8,9] h ZgN λ p h=>qG (ii 4 [(8,8),(9,9),(10,4),(11,5),(12,6),(13,7),(14,618)])
 refine(ae)<|bS h (λ h=>?_) λ h=>?_
 ·refine(ae)<|aX ?_;exact(ak)<|cG [0,1,2,3,4,5,6,7,8,9] h ZgD λ q h=>qG (ii 10 [(10,618),(11,619),(12,620),(13,621),(14,622)])
 refine(ae)<|bS h (λ h=>?_) λ h=>?_
 ·refine(ae)<|aX ?_;exact(ak)<|cG [0,1,2,3,4,5,6,7,8,9] h Zhb λ s h=>qG (ii 4 [(9,9),(10,4),(11,5),(12,6),(13,7),(14,8)])
 refine(ae)<|bS h (λ h=>?_) λ h=>?_
 ·refine(ae)<|aX ?_;exact(ak)<|cG [0,1,2,3,4,5,6,7,8,9] h ZgC λ t h=>qG (ii 4 [(9,9),(10,4),(11,5),(12,6),(13,7),(14,8)])
 refine(ae)<|bS h (λ h=>?_) λ h=>?_
 ·refine(ae)<|aX ?_;exact(ak)<|cG [0,1,2,3,4,5,6,7,8,9] h ZhQ λ u h=>qG (ii 4 [(9,9),(10,4),(11,5),(12,6),(13,7),(14,8)])
 refine(ae)<|bS h (λ h=>?_) λ h=>?_
 ·refine(ae)<|aX ?_;exact(ak)<|cG [0,1,2,3,4,5,6,7,8,9] h ZhC λ v h=>qG (ii 4 [(9,9),(10,4),(11,5),(12,6),(13,7),(14,8)])
 refine(ae)<|bS h (λ h=>?_) λ h=>?_
 ·refine(ae)<|aX ?_;exact(ak)<|cG [0,1,2,3,4,5,6,7,8,9] h ZhA λ w h=>qG (ii 4 [(9,9),(10,4),(11,5),(12,6),(13,7),(14,8)])
 exact qG (ii 4 [(9,9),(10,4),(11,5),(12,6),(13,7),(14,8)])
theorem F6{id c b gs d tb l e f i j m r}(h:wI F id c b gs d tb l e f i j m=some r):FZ ml 19 (T0 c b gs d tb l e f i j m) [pp 0,aI id] (.cx [.agg (qI.c r.1),aI r.2.1]) (T0 c b r.2.2 d tb l e f i j m):=by
 refine fG Tryz.func19 ?_;unfold wI at h
 (conv=>whnf);left;refine(ak)<|aX ?_;(conv=>whnf);refine Ek h (λ hm h=>?_) (λ k hm h=>?_) (λ n hm h=>?_)
 ·refine Fi (ek:=(λ(a:Int)=>(AV.int IntKind.i64 a))) (gN:=ai.g) gs id (.eT (.pointer none)) rfl rfl (ku Tryz.underlying3) hm ⟨96,_,by kernel_rfl,by kernel_rfl,.refl _⟩ ?_;exact qG (ii 10 [])
 ·refine wh (ek:=(λ(a:Int)=>(AV.int IntKind.i64 a))) (gN:=ai.g) gs id _ rfl rfl (ku Tryz.underlying3) hm _ rfl rfl ?_;refine(ak)<|aX ?_;(conv=>whnf);obtain⟨hg,h⟩:=dB h;refine Fc (ek:=(λ(a:Int)=>(AV.int IntKind.i64 a))) (gN:=ai.g) gs id id rfl rfl (ku Tryz.underlying3) hg ?_;(conv=>whnf);left;(conv=>whnf);left;(conv=>whnf);obtain⟨hg,h⟩:=dB h;cases h;refine gF 1 352 gs id (@Sum.inl ar aw k) [352,353,354,355] ?_;exact gI (ii 10 [])
 refine wh (ek:=(λ(a:Int)=>(AV.int IntKind.i64 a))) (gN:=ai.g) gs id _ rfl rfl (ku Tryz.underlying3) hm _ rfl rfl ?_;refine(ak)<|aX ?_;(conv=>whnf);obtain⟨hg,h⟩:=dB h;refine Fc (ek:=(λ(a:Int)=>(AV.int IntKind.i64 a))) (gN:=ai.g) gs id id rfl rfl (ku Tryz.underlying3) hg ?_;(conv=>whnf);left;(conv=>whnf);left;refine(ak)<|aX ?_;(conv=>whnf);obtain⟨hg,h⟩:=dB h;cases h;refine gF 1 352 gs id (@Sum.inr ar aw n) [352,353,354,355,356,357] ?_;exact gI (ii 10 [])
theorem Zd5{s r}(h:Gf F s=some r):FZ ml 44 [(0,.rows true (List.map bx.c s))] [.bf 0 2] (.bf 1 2) [(0,.rows true (List.map bx.c s)),(1,.rows true (List.map bx.c r))]:=by
 unfold Gf at h;obtain⟨hg,h⟩:=dU h;cases h;refine mR 2000 Tryz.func44 rfl (by kernel_rfl) mixed (by show 1≤8;decide) (by show 1≤W;decide) rfl ?_
 refine oL ?_;refine And.intro (λ hp=>?_) ?_
 ·conv=>whnf
  exact lH [(0,0),(1,128)] rfl (by rw[hp];rfl) rfl
 refine oL ?_;refine And.intro (eF.map (λ _=>rfl)) ?_;refine And.intro eF.nil ?_
 refine And.intro (show 0+(List.map bx.c s).length≤bI by simpa using hg) ?_
 conv=>whnf
 exact gI [(0,0),(1,192)]
theorem z7{c a gs b tb l d e f g m r}(h:tG F c a gs b tb l d e f g m=some r):FZ ml 20 (T0 c a gs b tb l d e f g m) [pp 0] (.bf 10 2) (T0 c a gs b tb l d e f g m++[(10,rT bx.c r)]):=by
 refine fG Tryz.func20 ?_;unfold tG at h;exact(ak)<|cG [4] h Zd5 λ i h=>qG (ii 10 [(10,257)])
theorem ZiC{r}(h:FN F=some r):FZ ml 9 [] [] (.bool r) []:=by
 refine fA Tryz.func9 ?_;unfold FN at h
 (conv=>whnf);left;(conv=>whnf);left;obtain⟨a,hy,h⟩:=eB h;rcases a with a|a
 ·replace h:=km h;refine⟨_,_,(lZ (cT (YU AV.sl rQ) rfl) (fx (Fp hy) rfl)),Or.inr ⟨[64],rfl,?_⟩⟩;(conv=>whnf);left;obtain⟨D,hy,h⟩:=eB h;rcases D with D|D
  ·replace h:=km h;refine⟨_,_,(Ca (eZ.cons Wk.dK eZ.nil) (fx (Fp hy) rfl)),Or.inr ⟨[],rfl,?_⟩⟩;exact qR
  replace h:=ko h;refine⟨_,_,(Ca (eZ.cons Wk.dK eZ.nil) (Fq hy)),Or.inr ⟨[],rfl,?_⟩⟩;exact qR
 replace h:=ko h;refine⟨_,_,(lZ (cT (YU AV.sl rQ) rfl) (Fq hy)),Or.inr ⟨[64],rfl,?_⟩⟩;(conv=>whnf);left;obtain⟨E,hy,h⟩:=eB h;rcases E with E|E
 ·replace h:=km h;refine⟨_,_,(Ca (eZ.cons Wk.dK eZ.nil) (fx (Fp hy) rfl)),Or.inr ⟨[],rfl,?_⟩⟩;refine(ae)<|jN h λ G=>jM [(1,pp 0),(27,.bool G)] (T0 a.2.1 a.2.2.1 a.2.2.2.1 a.2.2.2.2.1 a.2.2.2.2.2.1 a.2.2.2.2.2.2.1 a.2.2.2.2.2.2.2.1 a.2.2.2.2.2.2.2.2.1 a.2.2.2.2.2.2.2.2.2.1 a.2.2.2.2.2.2.2.2.2.2.1 a.2.2.2.2.2.2.2.2.2.2.2) 10 (λ h=>qE [(0,96),(1,97),(2,98),(3,99),(4,100),(5,101),(6,102),(7,103),(8,104),(9,105)]) λ h=>?_;refine(ay)<|bS h (λ h=>qR) λ h=>?_;refine(ae)<|jN h λ⟨H,I,J,K,L,M,N,O,P,Q,R⟩=>jM [(1,pp 0)] (T0 H I J K L M N O P Q R) 10 (λ h=>?_) λ h=>?_
  ·refine(ak)<|lI (λ n' ⟨d,f,g,i,j,k,l,m,n,o,p,q⟩=>FU F n' d f g i j k l m n o p q) (λ⟨d,f,g,i,j,k,l,m,n,o,p,q⟩=>[(1,pp 0),(5,aI d)]) (λ⟨d,f,g,i,j,k,l,m,n,o,p,q⟩=>(T0 f g i j k l m n o p q)) 10 (0,a.2.1,a.2.2.1,a.2.2.2.1,a.2.2.2.2.1,a.2.2.2.2.2.1,a.2.2.2.2.2.2.1,a.2.2.2.2.2.2.2.1,a.2.2.2.2.2.2.2.2.1,a.2.2.2.2.2.2.2.2.2.1,a.2.2.2.2.2.2.2.2.2.2.1,a.2.2.2.2.2.2.2.2.2.2.2) (ii 10 []) h ?_;rintro S ⟨d,f,g,i,j,k,l,m,n,o,p,q⟩ h;dsimp only at h;rw[FU.eq_2]at h;refine(ay)<|bS h (λ h=>?_) λ h=>?_
   ·(conv=>whnf);left;refine(ak)<|cG [0,1,2,3,4,5,6,7,8,9] h wL λ b h=>?_;exact rE (S,(IntKind.wrap IntKind.i64 (d+(1:Int))),b.2.1,b.2.2.1,b.2.2.2.1,b.2.2.2.2.1,b.2.2.2.2.2.1,b.2.2.2.2.2.2.2.1,b.2.2.2.2.2.2.2.2.1,b.2.2.2.2.2.2.2.2.2.1,b.2.2.2.2.2.2.2.2.2.2.1,b.2.2.2.2.2.2.2.2.2.2.2,b.2.2.2.2.2.2.1) (ii 4 [(4,148),(5,149),(6,150),(7,151),(8,152),(9,9)]) h
   exact qE (ii 10 [])
  refine(ak)<|cG [0,1,2,3,4,5,6,7,8,9] h wL λ a7 h=>?_;refine(ae)<|cG [0,1,2,3,84,85,86,87,88,9] h F6 λ a8 h=>?_;(conv=>whnf);left;refine(ay)<|bS h (λ h=>?_) λ h=>?_
  ·refine(ae)<|bS h (λ h=>?_) λ h=>?_
   ·refine(ae)<|bS h (λ h=>?_) λ h=>?_
    ·refine(ae)<|bS h (λ h=>?_) λ h=>?_
     ·refine(ae)<|bS h (λ h=>?_) λ h=>?_
      ·refine(ae)<|bS h (λ h=>?_) λ h=>?_
       ·refine(ae)<|cG [0,1,2,3,84,85,86,87,88,9] h z7 λ a9 h=>?_;refine(ae)<|bS h (λ h=>?_) λ h=>?_
        ·refine(ae)<|cG [0,1,2,3,84,85,86,87,88,9] h z7 λ aA h=>?_;refine(ae)<|aX ?_;refine(ae)<|oB h λ aB h=>?_;refine(ae)<|oB h λ aC h=>?_;refine(ak)<|aX ?_;refine(ae)<|bS h (λ h=>?_) λ h=>?_
         ·exact(ak)<|cG [0,1,2,3,84,85,86,87,88,9] h wL λ aD h=>qR
         exact qR
        exact qR
       exact qR
      exact qR
     exact qR
    exact qR
   exact qR
  exact qR
 replace h:=ko h;refine⟨_,_,(Ca (eZ.cons Wk.dK eZ.nil) (Fq hy)),Or.inr ⟨[],rfl,?_⟩⟩;refine(ae)<|jN h λ T=>jM [(1,pp 0),(27,.bool T)] (T0 a.2.1 a.2.2.1 a.2.2.2.1 a.2.2.2.2.1 a.2.2.2.2.2.1 a.2.2.2.2.2.2.1 a.2.2.2.2.2.2.2.1 a.2.2.2.2.2.2.2.2.1 a.2.2.2.2.2.2.2.2.2.1 a.2.2.2.2.2.2.2.2.2.2.1 a.2.2.2.2.2.2.2.2.2.2.2) 10 (λ h=>qE [(0,96),(1,97),(2,98),(3,99),(4,100),(5,101),(6,102),(7,103),(8,104),(9,105)]) λ h=>?_;refine(ay)<|bS h (λ h=>qR) λ h=>?_;refine(ae)<|jN h λ⟨U,V,X,Y,Z,a0,a1,a2,a3,a4,a5⟩=>jM [(1,pp 0)] (T0 U V X Y Z a0 a1 a2 a3 a4 a5) 10 (λ h=>?_) λ h=>?_
 ·refine(ak)<|lI (λ n' ⟨e,s,t,u,v,w,x,y,z,A,B,C⟩=>FV F n' e s t u v w x y z A B C) (λ⟨e,s,t,u,v,w,x,y,z,A,B,C⟩=>[(1,pp 0),(5,aI e)]) (λ⟨e,s,t,u,v,w,x,y,z,A,B,C⟩=>(T0 s t u v w x y z A B C)) 10 (0,a.2.1,a.2.2.1,a.2.2.2.1,a.2.2.2.2.1,a.2.2.2.2.2.1,a.2.2.2.2.2.2.1,a.2.2.2.2.2.2.2.1,a.2.2.2.2.2.2.2.2.1,a.2.2.2.2.2.2.2.2.2.1,a.2.2.2.2.2.2.2.2.2.2.1,a.2.2.2.2.2.2.2.2.2.2.2) (ii 10 []) h ?_;rintro a6 ⟨e,s,t,u,v,w,x,y,z,A,B,C⟩ h;dsimp only at h;rw[FV.eq_2]at h;refine(ay)<|bS h (λ h=>?_) λ h=>?_
  ·(conv=>whnf);left;refine(ak)<|cG [0,1,2,3,4,5,6,7,8,9] h wL λ c h=>?_;exact rE (a6,(IntKind.wrap IntKind.i64 (e+(1:Int))),c.2.1,c.2.2.1,c.2.2.2.1,c.2.2.2.2.1,c.2.2.2.2.2.1,c.2.2.2.2.2.2.2.1,c.2.2.2.2.2.2.2.2.1,c.2.2.2.2.2.2.2.2.2.1,c.2.2.2.2.2.2.2.2.2.2.1,c.2.2.2.2.2.2.2.2.2.2.2,c.2.2.2.2.2.2.1) (ii 4 [(4,148),(5,149),(6,150),(7,151),(8,152),(9,9)]) h
  exact qE (ii 10 [])
 refine(ak)<|cG [0,1,2,3,4,5,6,7,8,9] h wL λ aF h=>?_;refine(ae)<|cG [0,1,2,3,84,85,86,87,88,9] h F6 λ aG h=>?_;(conv=>whnf);left;refine(ay)<|bS h (λ h=>?_) λ h=>?_
 ·refine(ae)<|bS h (λ h=>?_) λ h=>?_
  ·refine(ae)<|bS h (λ h=>?_) λ h=>?_
   ·refine(ae)<|bS h (λ h=>?_) λ h=>?_
    ·refine(ae)<|bS h (λ h=>?_) λ h=>?_
     ·refine(ae)<|bS h (λ h=>?_) λ h=>?_
      ·refine(ae)<|cG [0,1,2,3,84,85,86,87,88,9] h z7 λ aH h=>?_;refine(ae)<|bS h (λ h=>?_) λ h=>?_
       ·refine(ae)<|cG [0,1,2,3,84,85,86,87,88,9] h z7 λ aJ h=>?_;refine(ae)<|aX ?_;refine(ae)<|oB h λ aK h=>?_;refine(ae)<|oB h λ aL h=>?_;refine(ak)<|aX ?_;refine(ae)<|bS h (λ h=>?_) λ h=>?_
        ·exact(ak)<|cG [0,1,2,3,84,85,86,87,88,9] h wL λ aM h=>qR
        exact qR
       exact qR
      exact qR
     exact qR
    exact qR
   exact qR
  exact qR
 exact qR
theorem Zef{s r}(h:Ge F s=some r):FZ ml 64 [(0,.rows true (List.map cD.c s))] [.bf 0 4] (.bf 1 4) [(0,.rows true (List.map cD.c s)),(1,.rows true (List.map cD.c r))]:=by
 unfold Ge at h;obtain⟨hg,h⟩:=dU h;cases h;refine mR 2000 Tryz.func64 rfl (by kernel_rfl) mixed (by show 1≤8;decide) (by show 1≤W;decide) rfl ?_
 refine oL ?_;refine And.intro (λ hp=>?_) ?_
 ·conv=>whnf
  exact lH [(0,0),(1,128)] rfl (by rw[hp];rfl) rfl
 refine oL ?_;refine And.intro (eF.map (λ _=>rfl)) ?_;refine And.intro eF.nil ?_
 refine And.intro (show 0+(List.map cD.c s).length≤bI by simpa using hg) ?_
 conv=>whnf
 exact gI [(0,0),(1,192)]
theorem Zhx{c l m r}(h:F0 F c l m=some r):FZ ml 45 (T6 c l m) [pp 0] (.bf 3 4) (T6 c l m++[(3,rT cD.c r)]):=by
 refine fG Tryz.func45 ?_;unfold F0 at h;exact(ak)<|cG [1] h Zef λ a h=>qG [(0,0),(1,1),(2,2),(3,257)]
theorem ZgO{c a gs b tb l d e f g m r}(h:C7 F c a gs b tb l d e f g m=some r):FZ ml 21 (T0 c a gs b tb l d e f g m) [pp 0] (.bf 10 4) (T0 c a gs b tb l d e f g m++[(10,rT cD.c r)]):=by
 refine fG Tryz.func21 ?_;unfold C7 at h;exact(ak)<|cG [2,8,9] h Zhx λ i h=>qG (ii 10 [(10,259)])
theorem Zib{a c b gs d tb l e f g i m r}(h:C3 F a c b gs d tb l e f g i m=some r):FZ ml 17 (T0 c b gs d tb l e f g i m) [pp 0,.agg (eU.c a)] (.agg (eU.c r)) (T0 c b gs d tb l e f g i m):=by
 refine fG Tryz.func17 ?_;unfold C3 at h
 (conv=>whnf);left;refine(ak)<|cG [0,1,2,3,4,5,6,7,8,9] h ZgO λ j h=>?_;refine(ae)<|jN h λ k=>jM [(3,pp 10),(4,pp 11),(5,.bf 12 4),(16,.bool k)] (T0 c b gs d tb l e f g i m++[(10,rF (eU.c a)),(11,rF [aI 0,aI 0,aI 0,aI 0,aI 0,aI 0,aI 0,aI 0,.bool false,.str [],aI 0,aI 0,aI 0,aI 0,.str [],.str [],.str [],.str [],aI 0,aI 0,aI 0,aI 0,aI 0,aI 0,aI 0,aI 0,.str []]),(12,rT cD.c j)]) 13 (λ h=>qE (ii 10 [(10,32),(11,64),(12,138)])) λ h=>?_;refine(ae)<|jN h λ n=>jM [(3,pp 10),(4,pp 11)] (T0 c b gs d tb l e f g i m++[(10,rF [aI a.Kind,aI a.jC,aI a.Node,aI a.gj,aI n,aI a.qm,aI a.mK,aI a.mJ,.bool a.vj,.str a.Data,aI a.Time,aI a.mS.Kind,aI a.mS.Client,aI a.mS.Seq,.str a.mS.Name,.str a.mS.Expr,.str a.mS.uH,.str a.mS.Token,aI a.mS.Time,aI a.iJ.Kind,aI a.iJ.Phase,aI a.iJ.pC,aI a.iJ.gj,aI a.iJ.jC,aI a.iJ.vi,aI a.iJ.pH,.str a.iJ.Key]),(11,rF [aI 0,aI 0,aI 0,aI 0,aI 0,aI 0,aI 0,aI 0,.bool false,.str [],aI 0,aI 0,aI 0,aI 0,.str [],.str [],.str [],.str [],aI 0,aI 0,aI 0,aI 0,aI 0,aI 0,aI 0,aI 0,.str []])]) 12 (λ h=>?_) λ h=>?_
 ·refine(ay)<|bS h (λ h=>?_) λ h=>?_
  ·refine(ae)<|jN h λ o=>jM [(3,pp 10),(4,pp 11),(5,.bf 12 4),(6,aI o)] (T0 c b gs d tb l e f g i m++[(10,rF (eU.c a)),(11,rF [aI 0,aI 0,aI 0,aI 0,aI 0,aI 0,aI 0,aI 0,.bool false,.str [],aI 0,aI 0,aI 0,aI 0,.str [],.str [],.str [],.str [],aI 0,aI 0,aI 0,aI 0,aI 0,aI 0,aI 0,aI 0,.str []]),(12,rT cD.c j)]) 13 (λ h=>qE (ii 13 [])) λ h=>?_;refine(ae)<|gS h λ h=>?_;refine(ae)<|gS h λ h=>?_;refine(ae)<|oB h λ p h=>?_;refine(ae)<|oB h λ q h=>?_;exact qE (ii 12 [])
  exact qE (ii 12 [])
 exact qG (ii 10 [])
theorem ZhI{a b r}(h:Dd F a b=some r):FZ ml 22 [] [sM bx.c a,sM bx.c b] (.bool r) []:=by
 refine fA Tryz.func22 ?_;unfold Dd at h;refine(ay)<|bS h (λ h=>qR) λ h=>?_;refine(ae)<|jS h λ o0 vu=>jT [] [] 0 (λ h k0 e=>?_) λ h=>?_
 ·refine(ak)<|lI (λ n' x'=>Ae F a b n' x') (λ x'=>[(0,sM bx.c a),(1,sM bx.c b),(5,aI x')]) (λ x'=>[]) 0 0 [] h ?_;rintro d f h;rw[Ae.eq_2]at h;refine(ay)<|bS h (λ h=>?_) λ h=>?_
  ·refine(ak)<|gX h λ h=>?_;refine(ae)<|oB h λ g h=>?_;refine(ae)<|gX h λ h=>?_;refine(ae)<|oB h λ i h=>?_;refine(ae)<|aX ?_;refine(ae)<|aX ?_;refine(ay)<|bS h (λ h=>?_) λ h=>?_
   ·cases h;cases k0;exact rfl
   exact rE (d,(IntKind.wrap IntKind.i64 (f+(1:Int)))) [] h
  exact qE []
 exact qR
theorem ZgP{c a gs b tb l d e f g m r}(h:FX F c a gs b tb l d e f g m=some r):FZ ml 23 (T0 c a gs b tb l d e f g m) [pp 0] (.bool r) (T0 c a gs b tb l d e f g m):=by
 refine fG Tryz.func23 ?_;unfold FX at h;exact qG (ii 10 [])
theorem ZgL{f j r}(h:Ad F f j=some r):FZ ml 6 [] [sM cJ f,sM eU.c j] (.bool r) []:=by
 refine fA Tryz.func6 ?_;unfold Ad at h;refine(ak)<|cL h ZiC λ aF h=>?_;refine(ay)<|bS h (λ h=>qR) λ h=>?_;(conv=>whnf);left;obtain⟨b,hy,h⟩:=eB h;rcases b with b|b
 ·replace h:=km h;refine⟨_,_,(fx (Fp hy) rfl),Or.inr ⟨[],rfl,?_⟩⟩;exact qR
 replace h:=ko h;(conv=>whnf);refine⟨_,_,(Fq hy),Or.inr ⟨[],rfl,?_⟩⟩;refine(ak)<|jS h λ K7 vu=>jT [] [] 0 (λ h GU e=>?_) λ h=>?_
 ·refine(ak)<|lI (λ n' ⟨d,m,n,o,p,q,s,t,u,v,w,x⟩=>yF F f j n' d m n o p q s t u v w x) (λ⟨d,m,n,o,p,q,s,t,u,v,w,x⟩=>[(0,sM cJ f),(1,sM eU.c j),(5,pp 0),(7,aI d)]) (λ⟨d,m,n,o,p,q,s,t,u,v,w,x⟩=>(T0 m n o p q s t u v w x)) 10 (0,b.2.1,b.2.2.1,b.2.2.2.1,b.2.2.2.2.1,b.2.2.2.2.2.1,b.2.2.2.2.2.2.1,b.2.2.2.2.2.2.2.1,b.2.2.2.2.2.2.2.2.1,b.2.2.2.2.2.2.2.2.2.1,b.2.2.2.2.2.2.2.2.2.2.1,b.2.2.2.2.2.2.2.2.2.2.2) [(0,160),(1,161),(2,162),(3,163),(4,164),(5,165),(6,166),(7,167),(8,168),(9,169)] h ?_;rintro X ⟨d,m,n,o,p,q,s,t,u,v,w,x⟩ h;dsimp only at h;rw[yF.eq_2]at h;refine(ae)<|jN h λ Y=>jM [(0,sM cJ f),(1,sM eU.c j),(5,pp 0),(7,aI d),(31,.bool Y)] (T0 m n o p q s t u v w x) 10 (λ h=>qE (ii 10 [])) λ h=>?_;refine(ay)<|bS h (λ h=>?_) λ h=>?_
  ·refine(ae)<|jS h λ K5 ⟨K,L,M,N,O,P,Q,R,S,U,V⟩=>jT [(0,sM cJ f),(1,sM eU.c j),(5,pp 0),(7,aI d)] (T0 K L M (N) O P Q R S U V) 10 (λ h GS e=>?_) λ h=>?_
   ·refine(ak)<|gX h λ h=>?_;refine(ae)<|oB h λ aG h=>?_;refine(ae)<|cH [0,1,2,3,4,5,6,7,8,9] h Zib λ aH h=>?_;refine(ae)<|cG [0,1,2,3,4,5,6,7,8,9] h wL λ g h=>?_;refine(ae)<|aX ?_;refine(ay)<|bS h (λ h=>qE (ii 4 [(4,244),(5,245),(6,246),(7,247),(8,248),(9,9)])) λ h=>?_;refine(ae)<|jS h λ K4 ⟨Z,a0,a1,a2,a3,a4,a5,a6,a7,a8,a9⟩=>jT [(0,sM cJ f),(1,sM eU.c j),(5,pp 0),(7,aI d)] (T0 Z a0 a1 (a2) a3 a4 a5 a6 a7 a8 a9) 10 (λ h GR e=>?_) λ h=>?_
    ·refine(ak)<|lI (λ n' ⟨k,y,z,A,B,C,D,E,G,H,I,J⟩=>yG F f n' k y z A B C D E G H I J) (λ⟨k,y,z,A,B,C,D,E,G,H,I,J⟩=>[(0,sM cJ f),(1,sM eU.c j),(5,pp 0),(7,aI d),(8,aI k)]) (λ⟨k,y,z,A,B,C,D,E,G,H,I,J⟩=>(T0 y z A B C D E G H I J)) 10 (0,g.2.1,g.2.2.1,g.2.2.2.1,g.2.2.2.2.1,g.2.2.2.2.2.1,g.2.2.2.2.2.2.2.1,g.2.2.2.2.2.2.2.2.1,g.2.2.2.2.2.2.2.2.2.1,g.2.2.2.2.2.2.2.2.2.2.1,g.2.2.2.2.2.2.2.2.2.2.2,g.2.2.2.2.2.2.1) (ii 4 [(4,244),(5,245),(6,246),(7,247),(8,248),(9,9)]) h ?_;rintro aA ⟨k,y,z,A,B,C,D,E,G,H,I,J⟩ h;dsimp only at h;rw[yG.eq_2]at h;refine(ay)<|bS h (λ h=>?_) λ h=>?_
     ·refine(ak)<|gX h λ h=>?_;refine(ae)<|oB h λ aJ h=>?_;refine(ae)<|cG [0,1,2,3,4,5,6,7,8,9] h F6 λ l h=>?_;refine(ak)<|cG [0,1,2,3,4,5,6,7,8,9] h z7 λ aB h=>?_;refine(ae)<|gX h λ h=>?_;refine(ae)<|oB h λ aK h=>?_;refine(ak)<|cG [0,1,2,3,4,5,6,7,8,9] h wL λ a h=>?_;refine(ae)<|gX h λ h=>?_;refine(ae)<|oB h λ aL h=>?_;refine(ae)<|cG [0,1,2,3,820,821,822,823,824,9] h F6 λ i h=>?_;(conv=>whnf);left;refine(ay)<|bS h (λ h=>?_) λ h=>?_
      ·cases h;cases GR;cases GS;cases GU;exact rfl
      refine(ae)<|jN h λ aC=>jM [(0,sM cJ f),(1,sM eU.c j),(5,pp 0),(7,aI d),(8,aI k),(9,pp 1),(11,.bf 2 2),(13,pp 3),(103,.bool aC)] [(0,rF [sM cJ a.2.1,.bm 4,pp 5,pp 6,.bf 7 2,.bf 8 1,.bf 9 1,.bf 10 2,.bool a.2.2.1]),(1,rF [.bool l.1.Up,aI l.1.bE,aI l.1.Term,aI l.1.bn,aI l.1.ah,aI l.1.an,aI l.1.Count,AV.int IntKind.u32 l.1.Sum]),(2,rT bx.c aB),(3,rF [.bool i.1.Up,aI i.1.bE,aI i.1.Term,aI i.1.bn,aI i.1.ah,aI i.1.an,aI i.1.Count,AV.int IntKind.u32 i.1.Sum]),(4,AO.cF (eG i.2.2) none),(5,rF [.bf 11 4,aI a.2.2.2.2.1,.bm 12]),(6,.rows true [(@eJ a.2.2.2.2.2.1)]),(7,rT bx.c a.2.2.2.2.2.2.2.1),(8,rT cJ a.2.2.2.2.2.2.2.2.1),(9,rT cU a.2.2.2.2.2.2.2.2.2.1),(10,rT da.c a.2.2.2.2.2.2.2.2.2.2.1),(11,rT cD.c a.2.2.2.2.2.2.2.2.2.2.2),(12,mP a.2.2.2.2.2.2.1)] 13 (λ h=>qE [(0,0),(1,426),(2,564),(3,1162),(4,1),(5,2),(6,3),(7,820),(8,821),(9,822),(10,823),(11,824),(12,9)]) λ h=>?_;refine(ay)<|bS h (λ h=>?_) λ h=>?_
      ·cases h;cases GR;cases GS;cases GU;exact rfl
      refine(ae)<|jN h λ aD=>jM [(0,sM cJ f),(1,sM eU.c j),(5,pp 0),(7,aI d),(8,aI k),(120,.bool aD)] (T0 a.2.1 a.2.2.1 i.2.2 a.2.2.2.2.1 a.2.2.2.2.2.1 a.2.2.2.2.2.2.2.1 a.2.2.2.2.2.2.2.2.1 a.2.2.2.2.2.2.2.2.2.1 a.2.2.2.2.2.2.2.2.2.2.1 a.2.2.2.2.2.2.2.2.2.2.2 a.2.2.2.2.2.2.1) 10 (λ h=>?_) λ h=>?_
      ·refine(ak)<|aX ?_;refine(ae)<|bS h (λ h=>qE [(0,0),(1,4),(2,5),(3,6),(4,7),(5,8),(6,9),(7,10),(8,11),(9,12)]) λ h=>?_;refine(ae)<|cG [0,4,5,6,7,8,9,10,11,12] h z7 λ aM h=>?_;refine(ak)<|cL h ZhI λ aN h=>?_;refine(ae)<|bS h (λ h=>qE [(0,0),(1,4),(2,5),(3,6),(4,7),(5,8),(6,9),(7,10),(8,11),(9,12)]) λ h=>?_;exact(ae)<|cH [0,4,5,6,7,8,9,10,11,12] h ZgP λ aO h=>qE [(0,0),(1,4),(2,5),(3,6),(4,7),(5,8),(6,9),(7,10),(8,11),(9,12)]
      refine(ay)<|bS h (λ h=>?_) λ h=>?_
      ·cases h;cases GR;cases GS;cases GU;exact rfl
      exact rE (aA,(IntKind.wrap IntKind.i64 (k+(1:Int))),a.2.1,a.2.2.1,i.2.2,a.2.2.2.2.1,a.2.2.2.2.2.1,a.2.2.2.2.2.2.2.1,a.2.2.2.2.2.2.2.2.1,a.2.2.2.2.2.2.2.2.2.1,a.2.2.2.2.2.2.2.2.2.2.1,a.2.2.2.2.2.2.2.2.2.2.2,a.2.2.2.2.2.2.1) (ii 10 []) h
     exact qE (ii 10 [])
    exact qE (ii 10 [])
   exact rE (X,(IntKind.wrap IntKind.i64 (d+(1:Int))),K,L,M,N,O,P,Q,R,S,U,V) (ii 10 []) h
  exact qE []
 exact qR
end Go.T
