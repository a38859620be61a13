import Derived.Test.YtjpmdkgonlmddaaGreatDoorCertE
set_option linter.unusedVariables false
set_option maxRecDepth 200000
set_option maxHeartbeats 4000000
namespace Go.T
open Go Go.Ab Go.Proofs
variable {ml:Gv}{F:Nat}
theorem Xf{a c i gs j tb l k n o p m r}(h:BS F a c i gs j tb l k n o p m=some r):FZ ml 63 (T0 c i gs j tb l k n o p m) [pp 0,.agg (dP.c a)] (aI r.1) (T0 c i r.2 j tb l k n o p m):=by
 refine fG Tryz.func63 ?_
 unfold BS at h
 (conv=>whnf);left;obtain⟨b,hy,h⟩:=dS h;rcases b with b|b
 ·replace h:=jH h;(conv=>whnf);refine cg [0,1,2,3,4,5,6,7,8,9] (B2 hy) ?_;exact qG (ii 10 [])
 replace h:=jI h;(conv=>whnf);refine cg [0,1,2,3,4,5,6,7,8,9] (B3 hy) ?_;(conv=>whnf);left;refine bS h (fun h=>?_) fun h=>?_
 ·(conv=>whnf);obtain⟨hg,h⟩:=cQ h;cases h;refine gF 1 202 b.2.1 b.2.2.1 (@Sum.inr ae af (af.mk b.2.2.2.2.2.2.2.2.1 b.2.2.2.2.2.2.2.2.2.1 b.2.2.2.2.2.2.1 b.2.2.2.2.2.2.2.2.2.2.1 b.2.2.2.2.2.2.2.2.2.2.2.1 b.2.2.2.2.2.2.2.2.2.2.2.2 b.2.2.2.2.2.2.2.1 b.2.2.2.1 b.2.2.2.2.1 b.2.2.2.2.2.1)) [202,203,205,206,204,207] ?_;exact gI (ii 10 [])
 (conv=>whnf);refine cH [202,203,204,205,206,207] h U2 fun s h=>?_;(conv=>whnf);left;(conv=>whnf);refine cR h (fun h=>eT (Vx h) rfl) fun d h=>?_;(conv=>whnf);left;(conv=>whnf);refine aX ?_;(conv=>whnf);refine cG [204,207,203,205,206] h Ic fun q h=>?_;(conv=>whnf);refine aX ?_;(conv=>whnf);left;refine bS h (fun h=>?_) fun h=>?_
 ·(conv=>whnf);refine cG [202,203,204,205,1189,207] h yG fun f h=>?_;(conv=>whnf);obtain⟨hg,h⟩:=cQ h;cases h;refine gF 1 202 b.2.1 b.2.2.1 (@Sum.inl ae af (ae.mk f.2.2.2.2.2 [] f.2.2.2.2.1 f.2.1 f.2.2.1 f.2.2.2.1)) [202,203,205,1286] ?_;exact gI (ii 10 [])
 (conv=>whnf);refine cG [204,207,203,205,1189] h Ik fun t h=>?_;(conv=>whnf);refine cG [204,207,203,205,1381] h Ij fun e h=>?_;(conv=>whnf);left;refine bS h (fun h=>?_) fun h=>?_
 ·(conv=>whnf);refine cG [202,203,204,205,1701,207] h yG fun g h=>?_;(conv=>whnf);obtain⟨hg,h⟩:=cQ h;cases h;refine gF 1 202 b.2.1 b.2.2.1 (@Sum.inl ae af (ae.mk g.2.2.2.2.2 [] g.2.2.2.2.1 g.2.1 g.2.2.1 g.2.2.2.1)) [202,203,205,1798] ?_;exact gI (ii 10 [])
 (conv=>whnf);obtain⟨hg,h⟩:=cQ h;cases h;refine gF 1 202 b.2.1 b.2.2.1 (@Sum.inr ae af (af.mk e.2.2.2.2.2.1 e.2.2.2.2.2.2 e.2.2.2.2.1 e.2.1 e.2.2.1 e.2.2.2.1 q.2.1 (bn.mk d.1 d.2.1 d.2.2.1 d.2.2.2.1 d.2.2.2.2.1 d.2.2.2.2.2.1 (cD.mk d.2.2.2.2.2.2.1 d.2.2.2.2.2.2.2.1 d.2.2.2.2.2.2.2.2.1) d.2.2.2.2.2.2.2.2.2.1 d.2.2.2.2.2.2.2.2.2.2.1 d.2.2.2.2.2.2.2.2.2.2.2.1 d.2.2.2.2.2.2.2.2.2.2.2.2.1 d.2.2.2.2.2.2.2.2.2.2.2.2.2.2.1 d.2.2.2.2.2.2.2.2.2.2.2.2.2.2.2.1 d.2.2.2.2.2.2.2.2.2.2.2.2.2.2.2.2) b.2.2.2.2.1 b.2.2.2.2.2.1)) [202,203,205,1701,204,207] ?_;exact gI (ii 10 [])
theorem wM{a c b gs d tb l e f g i m r}(h:qY F a c b gs d tb l e f g i m=some r):FZ ml 18 (T0 c b gs d tb l e f g i m) [pp 0,.agg (dP.c a)] (aI r.1) (EF r.2.1 r.2.2.1 r.2.2.2.1 r.2.2.2.2.1 r.2.2.2.2.2.1 r.2.2.2.2.2.2.1 r.2.2.2.2.2.2.2.1 r.2.2.2.2.2.2.2.2.1 r.2.2.2.2.2.2.2.2.2.1 r.2.2.2.2.2.2.2.2.2.2.1 r.2.2.2.2.2.2.2.2.2.2.2):=by
 refine fG Tryz.func18 ?_
 unfold qY at h
 (conv=>whnf);left;(conv=>whnf);left;(conv=>whnf);left;(conv=>whnf);refine cR h U1 fun j h=>?_;(conv=>whnf);refine aX ?_;(conv=>whnf);left;refine bS h (fun h=>?_) fun h=>?_
 ·(conv=>whnf);refine aX ?_;(conv=>whnf);left;(conv=>whnf);exact cG [0,1,2,3,4,5,6,7,8,9] h Xg fun k h=>qG (ii 10 [(10,618),(11,619),(12,620),(13,621),(14,622)])
 (conv=>whnf);refine bS h (fun h=>?_) fun h=>?_
 ·(conv=>whnf);refine aX ?_;(conv=>whnf);left;(conv=>whnf);exact cG [0,1,2,3,4,5,6,7,8,9] h Xs fun n h=>qG (ii 10 [(10,618),(11,619),(12,620),(13,621),(14,622)])
 (conv=>whnf);refine bS h (fun h=>?_) fun h=>?_
 ·(conv=>whnf);refine aX ?_;(conv=>whnf);left;(conv=>whnf);exact cG [0,1,2,3,4,5,6,7,8,9] h Xc fun o h=>qG (ii 4 [(8,8),(9,9),(10,4),(11,5),(12,6),(13,7),(14,618)])
 (conv=>whnf);refine bS h (fun h=>?_) fun h=>?_
 ·(conv=>whnf);refine aX ?_;(conv=>whnf);left;(conv=>whnf);exact cG [0,1,2,3,4,5,6,7,8,9] h Xq fun p h=>qG (ii 4 [(8,8),(9,9),(10,4),(11,5),(12,6),(13,7),(14,618)])
 (conv=>whnf);refine bS h (fun h=>?_) fun h=>?_
 ·(conv=>whnf);refine aX ?_;(conv=>whnf);left;(conv=>whnf);exact cG [0,1,2,3,4,5,6,7,8,9] h Xt fun q h=>qG (ii 10 [(10,618),(11,619),(12,620),(13,621),(14,622)])
 (conv=>whnf);refine bS h (fun h=>?_) fun h=>?_
 ·(conv=>whnf);refine aX ?_;(conv=>whnf);left;(conv=>whnf);exact cG [0,1,2,3,4,5,6,7,8,9] h Xy fun s h=>qG (ii 4 [(9,9),(10,4),(11,5),(12,6),(13,7),(14,8)])
 (conv=>whnf);refine bS h (fun h=>?_) fun h=>?_
 ·(conv=>whnf);refine aX ?_;(conv=>whnf);left;(conv=>whnf);exact cG [0,1,2,3,4,5,6,7,8,9] h Xu fun t h=>qG (ii 4 [(9,9),(10,4),(11,5),(12,6),(13,7),(14,8)])
 (conv=>whnf);refine bS h (fun h=>?_) fun h=>?_
 ·(conv=>whnf);refine aX ?_;(conv=>whnf);left;(conv=>whnf);exact cG [0,1,2,3,4,5,6,7,8,9] h VS fun u h=>qG (ii 4 [(9,9),(10,4),(11,5),(12,6),(13,7),(14,8)])
 (conv=>whnf);refine bS h (fun h=>?_) fun h=>?_
 ·(conv=>whnf);refine aX ?_;(conv=>whnf);left;(conv=>whnf);exact cG [0,1,2,3,4,5,6,7,8,9] h Xd fun v h=>qG (ii 4 [(9,9),(10,4),(11,5),(12,6),(13,7),(14,8)])
 (conv=>whnf);refine bS h (fun h=>?_) fun h=>?_
 ·(conv=>whnf);refine aX ?_;(conv=>whnf);left;(conv=>whnf);exact cG [0,1,2,3,4,5,6,7,8,9] h Xf fun w h=>qG (ii 4 [(9,9),(10,4),(11,5),(12,6),(13,7),(14,8)])
 exact qG (ii 4 [(9,9),(10,4),(11,5),(12,6),(13,7),(14,8)])
theorem Ig{id c b gs d tb l e f i j m r}(h:wT F id c b gs d tb l e f i j m=some r):FZ ml 19 (T0 c b gs d tb l e f i j m) [pp 0,aI id] (.bN [.agg (iN.c r.1),aI r.2.1]) (T0 c b r.2.2 d tb l e f i j m):=by
 refine fG Tryz.func19 ?_
 unfold wT at h
 (conv=>whnf);left;(conv=>whnf);left;(conv=>whnf);refine aX ?_;(conv=>whnf);refine CP h (fun hm h=>?_) (fun k hm h=>?_) (fun n hm h=>?_)
 ·refine DH (ek:=(fun(a:Int)=>(AV.int IntKind.i64 a))) (gN:=aa.g) gs id (.ei (.pointer none)) rfl rfl (jK Tryz.underlying3) hm ⟨96,_,by kernel_rfl,by kernel_rfl,.refl _⟩ ?_;exact qG (ii 10 [])
 ·refine uE (ek:=(fun(a:Int)=>(AV.int IntKind.i64 a))) (gN:=aa.g) gs id _ rfl rfl (jK Tryz.underlying3) hm _ rfl rfl ?_;(conv=>whnf);left;(conv=>whnf);refine aX ?_;(conv=>whnf);obtain⟨hg,h⟩:=cQ h;refine DJ (ek:=(fun(a:Int)=>(AV.int IntKind.i64 a))) (gN:=aa.g) gs id id rfl rfl (jK Tryz.underlying3) hg ?_;(conv=>whnf);left;(conv=>whnf);left;(conv=>whnf);obtain⟨hg,h⟩:=cQ h;cases h;refine gF 1 352 gs id (@Sum.inl ae af k) [352,353,354,355] ?_;exact gI (ii 10 [])
 refine uE (ek:=(fun(a:Int)=>(AV.int IntKind.i64 a))) (gN:=aa.g) gs id _ rfl rfl (jK Tryz.underlying3) hm _ rfl rfl ?_;(conv=>whnf);left;(conv=>whnf);refine aX ?_;(conv=>whnf);obtain⟨hg,h⟩:=cQ h;refine DJ (ek:=(fun(a:Int)=>(AV.int IntKind.i64 a))) (gN:=aa.g) gs id id rfl rfl (jK Tryz.underlying3) hg ?_;(conv=>whnf);left;(conv=>whnf);left;(conv=>whnf);left;(conv=>whnf);refine aX ?_;(conv=>whnf);obtain⟨hg,h⟩:=cQ h;cases h;refine gF 1 352 gs id (@Sum.inr ae af n) [352,353,354,355,356,357] ?_;exact gI (ii 10 [])
theorem XL{s r}(h:Iq F s=some r):FZ ml 44 [(0,.rows true (List.map bj.c s))] [.an 0 2] (.an 1 2) [(0,.rows true (List.map bj.c s)),(1,.rows true (List.map bj.c r))]:=by
 unfold Iq at h
 obtain⟨hg,h⟩:=dA h
 cases h
 refine lW 2000 Tryz.func44 rfl (by kernel_rfl) mixed (by show 1≤8;decide) (by show 1≤W;decide) rfl ?_
 refine oL ?_
 refine And.intro (fun hp=>?_) ?_
 ·conv=>whnf
  exact kG [(0,0),(1,128)] rfl (by rw[hp];rfl) rfl
 refine oL ?_
 refine And.intro (dU.map (fun _=>rfl)) ?_
 refine And.intro dU.nil ?_
 refine And.intro (show 0+(List.map bj.c s).length≤bm by simpa using hg) ?_
 conv=>whnf
 exact gI [(0,0),(1,192)]
theorem Eo{c a gs b tb l d e f g m r}(h:yE F c a gs b tb l d e f g m=some r):FZ ml 20 (T0 c a gs b tb l d e f g m) [pp 0] (.an 10 2) (T0 c a gs b tb l d e f g m++[(10,rT bj.c r)]):=by
 refine fG Tryz.func20 ?_
 unfold yE at h
 (conv=>whnf);left;(conv=>whnf);exact cG [4] h XL fun i h=>qG (ii 10 [(10,257)])
theorem VH{r}(h:D4 F=some r):FZ ml 9 [] [] (.bool r) []:=by
 refine fA Tryz.func9 ?_
 unfold D4 at h
 (conv=>whnf);left;(conv=>whnf);left;obtain⟨a,hy,h⟩:=dS h;rcases a with a|a
 ·replace h:=jH h;refine⟨_,_,(lg (bZ (YF AV.sl rQ) rfl) (eT (DZ hy) rfl)),Or.inr ⟨[64],rfl,?_⟩⟩;(conv=>whnf);left;obtain⟨D,hy,h⟩:=dS h;rcases D with D|D
  ·replace h:=jH h;refine⟨_,_,(AN (ep.cons Wk.dq ep.nil) (eT (DZ hy) rfl)),Or.inr ⟨[],rfl,?_⟩⟩;exact qR
  replace h:=jI h;refine⟨_,_,(AN (ep.cons Wk.dq ep.nil) (D1 hy)),Or.inr ⟨[],rfl,?_⟩⟩;exact qR
 replace h:=jI h;refine⟨_,_,(lg (bZ (YF AV.sl rQ) rfl) (D1 hy)),Or.inr ⟨[64],rfl,?_⟩⟩;(conv=>whnf);left;obtain⟨E,hy,h⟩:=dS h;rcases E with E|E
 ·replace h:=jH h;refine⟨_,_,(AN (ep.cons Wk.dq ep.nil) (eT (DZ hy) rfl)),Or.inr ⟨[],rfl,?_⟩⟩;(conv=>whnf);refine jN h fun G=>jM [(1,pp 0),(27,.bool G)] (T0 a.2.1 a.2.2.1 a.2.2.2.1 a.2.2.2.2.1 a.2.2.2.2.2.1 a.2.2.2.2.2.2.1 a.2.2.2.2.2.2.2.1 a.2.2.2.2.2.2.2.2.1 a.2.2.2.2.2.2.2.2.2.1 a.2.2.2.2.2.2.2.2.2.2.1 a.2.2.2.2.2.2.2.2.2.2.2) 10 (fun h=>qE [(0,96),(1,97),(2,98),(3,99),(4,100),(5,101),(6,102),(7,103),(8,104),(9,105)]) fun h=>?_;(conv=>whnf);left;refine bS h (fun h=>qR) fun h=>?_;(conv=>whnf);refine jN h fun⟨H,I,J,K,L,M,N,O,P,Q,R⟩=>jM [(1,pp 0)] (T0 H I J K L M N O P Q R) 10 (fun h=>?_) fun h=>?_
  ·(conv=>whnf);left;(conv=>whnf);refine lI (fun n' ⟨d,f,g,i,j,k,l,m,n,o,p,q⟩=>Eg F n' d f g i j k l m n o p q) (fun⟨d,f,g,i,j,k,l,m,n,o,p,q⟩=>[(1,pp 0),(5,aI d)]) (fun⟨d,f,g,i,j,k,l,m,n,o,p,q⟩=>(T0 f g i j k l m n o p q)) 10 ((0:Int),a.2.1,a.2.2.1,a.2.2.2.1,a.2.2.2.2.1,a.2.2.2.2.2.1,a.2.2.2.2.2.2.1,a.2.2.2.2.2.2.2.1,a.2.2.2.2.2.2.2.2.1,a.2.2.2.2.2.2.2.2.2.1,a.2.2.2.2.2.2.2.2.2.2.1,a.2.2.2.2.2.2.2.2.2.2.2) (ii 10 []) h ?_;rintro S ⟨d,f,g,i,j,k,l,m,n,o,p,q⟩ h;dsimp only at h;rw[Eg.eq_2]at h;(conv=>whnf);left;refine bS h (fun h=>?_) fun h=>?_
   ·(conv=>whnf);left;(conv=>whnf);left;(conv=>whnf);refine cG [0,1,2,3,4,5,6,7,8,9] h wM fun b h=>?_;exact rE (S,(IntKind.wrap IntKind.i64 (d+(1:Int))),b.2.1,b.2.2.1,b.2.2.2.1,b.2.2.2.2.1,b.2.2.2.2.2.1,b.2.2.2.2.2.2.2.1,b.2.2.2.2.2.2.2.2.1,b.2.2.2.2.2.2.2.2.2.1,b.2.2.2.2.2.2.2.2.2.2.1,b.2.2.2.2.2.2.2.2.2.2.2,b.2.2.2.2.2.2.1) (ii 4 [(4,148),(5,149),(6,150),(7,151),(8,152),(9,9)]) h
   exact qE (ii 10 [])
  (conv=>whnf);left;(conv=>whnf);refine cG [0,1,2,3,4,5,6,7,8,9] h wM fun a7 h=>?_;(conv=>whnf);refine cG [0,1,2,3,84,85,86,87,88,9] h Ig fun a8 h=>?_;(conv=>whnf);left;(conv=>whnf);left;refine bS h (fun h=>?_) fun h=>?_
  ·(conv=>whnf);refine bS h (fun h=>?_) fun h=>?_
   ·(conv=>whnf);refine bS h (fun h=>?_) fun h=>?_
    ·(conv=>whnf);refine bS h (fun h=>?_) fun h=>?_
     ·(conv=>whnf);refine bS h (fun h=>?_) fun h=>?_
      ·(conv=>whnf);refine bS h (fun h=>?_) fun h=>?_
       ·(conv=>whnf);refine cG [0,1,2,3,84,85,86,87,88,9] h Eo fun a9 h=>?_;(conv=>whnf);refine bS h (fun h=>?_) fun h=>?_
        ·(conv=>whnf);refine cG [0,1,2,3,84,85,86,87,88,9] h Eo fun aA h=>?_;(conv=>whnf);refine aX ?_;(conv=>whnf);refine oB h fun aB h=>?_;(conv=>whnf);refine oB h fun aC h=>?_;(conv=>whnf);left;(conv=>whnf);refine aX ?_;(conv=>whnf);refine bS h (fun h=>?_) fun h=>?_
         ·(conv=>whnf);left;(conv=>whnf);exact cG [0,1,2,3,84,85,86,87,88,9] h wM fun aD h=>qR
         exact qR
        exact qR
       exact qR
      exact qR
     exact qR
    exact qR
   exact qR
  exact qR
 replace h:=jI h;refine⟨_,_,(AN (ep.cons Wk.dq ep.nil) (D1 hy)),Or.inr ⟨[],rfl,?_⟩⟩;(conv=>whnf);refine jN h fun T=>jM [(1,pp 0),(27,.bool T)] (T0 a.2.1 a.2.2.1 a.2.2.2.1 a.2.2.2.2.1 a.2.2.2.2.2.1 a.2.2.2.2.2.2.1 a.2.2.2.2.2.2.2.1 a.2.2.2.2.2.2.2.2.1 a.2.2.2.2.2.2.2.2.2.1 a.2.2.2.2.2.2.2.2.2.2.1 a.2.2.2.2.2.2.2.2.2.2.2) 10 (fun h=>qE [(0,96),(1,97),(2,98),(3,99),(4,100),(5,101),(6,102),(7,103),(8,104),(9,105)]) fun h=>?_;(conv=>whnf);left;refine bS h (fun h=>qR) fun h=>?_;(conv=>whnf);refine jN h fun⟨U,V,X,Y,Z,a0,a1,a2,a3,a4,a5⟩=>jM [(1,pp 0)] (T0 U V X Y Z a0 a1 a2 a3 a4 a5) 10 (fun h=>?_) fun h=>?_
 ·(conv=>whnf);left;(conv=>whnf);refine lI (fun n' ⟨e,s,t,u,v,w,x,y,z,A,B,C⟩=>Eh F n' e s t u v w x y z A B C) (fun⟨e,s,t,u,v,w,x,y,z,A,B,C⟩=>[(1,pp 0),(5,aI e)]) (fun⟨e,s,t,u,v,w,x,y,z,A,B,C⟩=>(T0 s t u v w x y z A B C)) 10 ((0:Int),a.2.1,a.2.2.1,a.2.2.2.1,a.2.2.2.2.1,a.2.2.2.2.2.1,a.2.2.2.2.2.2.1,a.2.2.2.2.2.2.2.1,a.2.2.2.2.2.2.2.2.1,a.2.2.2.2.2.2.2.2.2.1,a.2.2.2.2.2.2.2.2.2.2.1,a.2.2.2.2.2.2.2.2.2.2.2) (ii 10 []) h ?_;rintro a6 ⟨e,s,t,u,v,w,x,y,z,A,B,C⟩ h;dsimp only at h;rw[Eh.eq_2]at h;(conv=>whnf);left;refine bS h (fun h=>?_) fun h=>?_
  ·(conv=>whnf);left;(conv=>whnf);left;(conv=>whnf);refine cG [0,1,2,3,4,5,6,7,8,9] h wM fun c h=>?_;exact rE (a6,(IntKind.wrap IntKind.i64 (e+(1:Int))),c.2.1,c.2.2.1,c.2.2.2.1,c.2.2.2.2.1,c.2.2.2.2.2.1,c.2.2.2.2.2.2.2.1,c.2.2.2.2.2.2.2.2.1,c.2.2.2.2.2.2.2.2.2.1,c.2.2.2.2.2.2.2.2.2.2.1,c.2.2.2.2.2.2.2.2.2.2.2,c.2.2.2.2.2.2.1) (ii 4 [(4,148),(5,149),(6,150),(7,151),(8,152),(9,9)]) h
  exact qE (ii 10 [])
 (conv=>whnf);left;(conv=>whnf);refine cG [0,1,2,3,4,5,6,7,8,9] h wM fun aF h=>?_;(conv=>whnf);refine cG [0,1,2,3,84,85,86,87,88,9] h Ig fun aG h=>?_;(conv=>whnf);left;(conv=>whnf);left;refine bS h (fun h=>?_) fun h=>?_
 ·(conv=>whnf);refine bS h (fun h=>?_) fun h=>?_
  ·(conv=>whnf);refine bS h (fun h=>?_) fun h=>?_
   ·(conv=>whnf);refine bS h (fun h=>?_) fun h=>?_
    ·(conv=>whnf);refine bS h (fun h=>?_) fun h=>?_
     ·(conv=>whnf);refine bS h (fun h=>?_) fun h=>?_
      ·(conv=>whnf);refine cG [0,1,2,3,84,85,86,87,88,9] h Eo fun aH h=>?_;(conv=>whnf);refine bS h (fun h=>?_) fun h=>?_
       ·(conv=>whnf);refine cG [0,1,2,3,84,85,86,87,88,9] h Eo fun aJ h=>?_;(conv=>whnf);refine aX ?_;(conv=>whnf);refine oB h fun aK h=>?_;(conv=>whnf);refine oB h fun aL h=>?_;(conv=>whnf);left;(conv=>whnf);refine aX ?_;(conv=>whnf);refine bS h (fun h=>?_) fun h=>?_
        ·(conv=>whnf);left;(conv=>whnf);exact cG [0,1,2,3,84,85,86,87,88,9] h wM fun aM h=>qR
        exact qR
       exact qR
      exact qR
     exact qR
    exact qR
   exact qR
  exact qR
 exact qR
theorem Xn{a r}(h:BG F a=some r):FZ ml 16 [] [sM cJ a] (.bool r) []:=by
 refine fA Tryz.func16 ?_
 unfold BG at h
 (conv=>whnf);refine jN h fun b=>jM [(0,sM cJ a),(12,.bool b)] [] 0 (fun h=>qE []) fun h=>?_;(conv=>whnf);left;refine bS h (fun h=>qR) fun h=>?_;(conv=>whnf);refine jS h fun o1 vu=>jT [] [] 0 (fun h k1 e=>?_) fun h=>?_
 ·(conv=>whnf);left;(conv=>whnf);refine lI (fun n' x'=>yJ F a n' x'.1 x'.2) (fun x'=>[(0,sM cJ a),(3,aI x'.1),(4,aI x'.2)]) (fun x'=>[]) 0 ((0:Int),(0:Int)) [] h ?_;rintro c ⟨g,d⟩ h;dsimp only at h;rw[yJ.eq_2]at h;(conv=>whnf);left;refine bS h (fun h=>?_) fun h=>?_
  ·(conv=>whnf);left;(conv=>whnf);refine gX h fun h=>?_;(conv=>whnf);refine oB h fun i h=>?_;(conv=>whnf);left;refine bS h (fun h=>?_) fun h=>?_
   ·cases h;cases k1;exact rfl
   (conv=>whnf);refine gX h fun h=>?_;(conv=>whnf);refine oB h fun f h=>?_;exact rE (c,f,(IntKind.wrap IntKind.i64 (d+(1:Int)))) [] h
  exact qE []
 exact qR
theorem XO{s r}(h:EA F s=some r):FZ ml 64 [(0,.rows true (List.map bQ.c s))] [.an 0 4] (.an 1 4) [(0,.rows true (List.map bQ.c s)),(1,.rows true (List.map bQ.c r))]:=by
 unfold EA at h
 obtain⟨hg,h⟩:=dA h
 cases h
 refine lW 2000 Tryz.func64 rfl (by kernel_rfl) mixed (by show 1≤8;decide) (by show 1≤W;decide) rfl ?_
 refine oL ?_
 refine And.intro (fun hp=>?_) ?_
 ·conv=>whnf
  exact kG [(0,0),(1,128)] rfl (by rw[hp];rfl) rfl
 refine oL ?_
 refine And.intro (dU.map (fun _=>rfl)) ?_
 refine And.intro dU.nil ?_
 refine And.intro (show 0+(List.map bQ.c s).length≤bm by simpa using hg) ?_
 conv=>whnf
 exact gI [(0,0),(1,192)]
theorem XC{c l m r}(h:Em F c l m=some r):FZ ml 45 (T6 c l m) [pp 0] (.an 3 4) (T6 c l m++[(3,rT bQ.c r)]):=by
 refine fG Tryz.func45 ?_
 unfold Em at h
 (conv=>whnf);left;(conv=>whnf);exact cG [1] h XO fun a h=>qG [(0,0),(1,1),(2,2),(3,257)]
theorem Xp{c a gs b tb l d e f g m r}(h:BL F c a gs b tb l d e f g m=some r):FZ ml 21 (T0 c a gs b tb l d e f g m) [pp 0] (.an 10 4) (T0 c a gs b tb l d e f g m++[(10,rT bQ.c r)]):=by
 refine fG Tryz.func21 ?_
 unfold BL at h
 (conv=>whnf);left;(conv=>whnf);exact cG [2,8,9] h XC fun i h=>qG (ii 10 [(10,259)])
theorem Xm{a c b gs d tb l e f g i m r}(h:BF F a c b gs d tb l e f g i m=some r):FZ ml 17 (T0 c b gs d tb l e f g i m) [pp 0,.agg (dP.c a)] (.agg (dP.c r)) (T0 c b gs d tb l e f g i m):=by
 refine fG Tryz.func17 ?_
 unfold BF at h
 (conv=>whnf);left;(conv=>whnf);left;(conv=>whnf);refine cG [0,1,2,3,4,5,6,7,8,9] h Xp fun j h=>?_;(conv=>whnf);refine jN h fun k=>jM [(3,pp 10),(4,pp 11),(5,.an 12 4),(16,.bool k)] (T0 c b gs d tb l e f g i m++[(10,rF (dP.c a)),(11,rF [aI 0,aI 0,aI 0,aI 0,aI 0,aI 0,aI 0,aI 0,.bool false,.str [],aI 0,aI 0,aI 0,aI 0,.str [],.str [],.str [],.str [],aI 0,aI 0,aI 0,aI 0,aI 0,aI 0,aI 0,aI 0,.str []]),(12,rT bQ.c j)]) 13 (fun h=>qE (ii 10 [(10,32),(11,64),(12,138)])) fun h=>?_;(conv=>whnf);refine jN h fun n=>jM [(3,pp 10),(4,pp 11)] (T0 c b gs d tb l e f g i m++[(10,rF [aI a.Kind,aI a.jc,aI a.Node,aI a.fu,aI n,aI a.ph,aI a.lQ,aI a.lO,.bool a.lR,.str a.Data,aI a.Time,aI a.lX.Kind,aI a.lX.Client,aI a.lX.Seq,.str a.lX.Name,.str a.lX.Expr,.str a.lX.sU,.str a.lX.Token,aI a.lX.Time,aI a.ia.Kind,aI a.ia.Phase,aI a.ia.ou,aI a.ia.fu,aI a.ia.jc,aI a.ia.tw,aI a.ia.oC,.str a.ia.Key]),(11,rF [aI 0,aI 0,aI 0,aI 0,aI 0,aI 0,aI 0,aI 0,.bool false,.str [],aI 0,aI 0,aI 0,aI 0,.str [],.str [],.str [],.str [],aI 0,aI 0,aI 0,aI 0,aI 0,aI 0,aI 0,aI 0,.str []])]) 12 (fun h=>?_) fun h=>?_
 ·(conv=>whnf);left;refine bS h (fun h=>?_) fun h=>?_
  ·(conv=>whnf);refine jN h fun o=>jM [(3,pp 10),(4,pp 11),(5,.an 12 4),(6,aI o)] (T0 c b gs d tb l e f g i m++[(10,rF (dP.c a)),(11,rF [aI 0,aI 0,aI 0,aI 0,aI 0,aI 0,aI 0,aI 0,.bool false,.str [],aI 0,aI 0,aI 0,aI 0,.str [],.str [],.str [],.str [],aI 0,aI 0,aI 0,aI 0,aI 0,aI 0,aI 0,aI 0,.str []]),(12,rT bQ.c j)]) 13 (fun h=>qE (ii 13 [])) fun h=>?_;(conv=>whnf);refine gS h fun h=>?_;(conv=>whnf);refine gS h fun h=>?_;(conv=>whnf);refine oB h fun p h=>?_;(conv=>whnf);refine oB h fun q h=>?_;exact qE (ii 12 [])
  exact qE (ii 12 [])
 exact qG (ii 10 [])
theorem Xr{d i r}(h:yH F d i=some r):FZ ml 4 [] [sM cJ d,sM dP.c i] (.bool r) []:=by
 refine fA Tryz.func4 ?_
 unfold yH at h
 (conv=>whnf);left;(conv=>whnf);refine cL h VH fun a5 h=>?_;(conv=>whnf);left;refine bS h (fun h=>qR) fun h=>?_;(conv=>whnf);left;obtain⟨g,hy,h⟩:=dS h;rcases g with g|g
 ·replace h:=jH h;refine⟨_,_,(eT (DZ hy) rfl),Or.inr ⟨[],rfl,?_⟩⟩;(conv=>whnf);left;(conv=>whnf);left;(conv=>whnf);exact cL h Xn fun a6 h=>qR
 replace h:=jI h;(conv=>whnf);refine⟨_,_,(D1 hy),Or.inr ⟨[],rfl,?_⟩⟩;(conv=>whnf);left;(conv=>whnf);refine And.intro (by omega) ?_;(conv=>whnf);refine gS h fun h=>?_;(conv=>whnf);refine gS h fun h=>?_;(conv=>whnf);refine And.intro (by omega) ?_;(conv=>whnf);refine gS h fun h=>?_;(conv=>whnf);refine gS h fun h=>?_;(conv=>whnf);refine jS h fun zc vu=>jT [] [] 0 (fun h Ct e=>?_) fun h=>?_
 ·(conv=>whnf);left;(conv=>whnf);refine lI (fun n' ⟨f,p,q,l,m,s,t,u,v,w,x,y,z,A⟩=>w6 F d i n' f p q l m s t u v w x y z A) (fun⟨f,p,q,l,m,s,t,u,v,w,x,y,z,A⟩=>[(0,sM cJ d),(1,sM dP.c i),(5,pp 0),(7,.an 1 8),(8,.an 2 1),(9,aI f)]) (fun⟨f,p,q,l,m,s,t,u,v,w,x,y,z,A⟩=>(EB p q l++[(2,rT gP m),(3,AO.bK (eG s) none),(4,rF [.an 10 4,aI t,.aw 11]),(5,.rows true [(@dn u)]),(6,rT bj.c v),(7,rT cJ w),(8,rT cU x),(9,rT cq.c y),(10,rT bQ.c z),(11,mP A)])) 12 ((0:Int),g.2.1,g.2.2.1,(List.replicate (Int.toNat (@Nat.cast Int instNatCastInt (List.length (List.map cJ d)))) (iN.mk false (0:Int) (0:Int) (0:Int) (0:Int) (0:Int) (0:Int) (0:Int))),(List.replicate (Int.toNat (@Nat.cast Int instNatCastInt (List.length (List.map cJ d)))) false),g.2.2.2.1,g.2.2.2.2.1,g.2.2.2.2.2.1,g.2.2.2.2.2.2.1,g.2.2.2.2.2.2.2.1,g.2.2.2.2.2.2.2.2.1,g.2.2.2.2.2.2.2.2.2.1,g.2.2.2.2.2.2.2.2.2.2.1,g.2.2.2.2.2.2.2.2.2.2.2) [(0,160),(1,480),(2,608),(3,161),(4,162),(5,163),(6,164),(7,165),(8,166),(9,167),(10,168),(11,169)] h ?_;rintro U ⟨f,p,q,l,m,s,t,u,v,w,x,y,z,A⟩ h;dsimp only at h;rw[w6.eq_2]at h;(conv=>whnf);refine jN h fun V=>jM [(0,sM cJ d),(1,sM dP.c i),(5,pp 0),(7,.an 1 8),(8,.an 2 1),(9,aI f),(40,.bool V)] (EB p q l++[(2,rT gP m),(3,AO.bK (eG s) none),(4,rF [.an 10 4,aI t,.aw 11]),(5,.rows true [(@dn u)]),(6,rT bj.c v),(7,rT cJ w),(8,rT cU x),(9,rT cq.c y),(10,rT bQ.c z),(11,mP A)]) 12 (fun h=>qE (ii 12 [])) fun h=>?_;(conv=>whnf);left;refine bS h (fun h=>?_) fun h=>?_
  ·(conv=>whnf);refine jS h fun IU ⟨C,D,E,G,H,I,J,K,L,M,N,O,P⟩=>jT [(0,sM cJ d),(1,sM dP.c i),(5,pp 0),(7,.an 1 8),(8,.an 2 1),(9,aI f)] (EB C D E++[(2,rT gP G),(3,AO.bK (eG H) none),(4,rF [.an 10 4,aI (I),.aw 11]),(5,.rows true [(@dn J)]),(6,rT bj.c K),(7,rT cJ L),(8,rT cU M),(9,rT cq.c N),(10,rT bQ.c O),(11,mP P)]) 12 (fun h IW e=>?_) fun h=>?_
   ·(conv=>whnf);left;(conv=>whnf);refine gX h fun h=>?_;(conv=>whnf);refine oB h fun a7 h=>?_;(conv=>whnf);refine cH [0,3,4,5,6,7,8,9,10,11] h Xm fun n h=>?_;(conv=>whnf);left;(conv=>whnf);refine cG [0,3,4,5,6,7,8,9,10,11] h wM fun a h=>?_;(conv=>whnf);refine jS h fun y9 ⟨X,Y,Z⟩=>jT [(0,sM cJ d),(1,sM dP.c i),(5,pp 0),(7,.an 1 8),(8,.an 2 1),(9,aI f)] (EB a.2.1 a.2.2.1 X++[(2,rT gP Y),(3,AO.bK (eG Z) none),(4,rF [.an 10 4,aI a.2.2.2.2.1,.aw 11]),(5,.rows true [(@dn a.2.2.2.2.2.1)]),(6,rT bj.c a.2.2.2.2.2.2.2.1),(7,rT cJ a.2.2.2.2.2.2.2.2.1),(8,rT cU a.2.2.2.2.2.2.2.2.2.1),(9,rT cq.c a.2.2.2.2.2.2.2.2.2.2.1),(10,rT bQ.c a.2.2.2.2.2.2.2.2.2.2.2),(11,mP a.2.2.2.2.2.2.1)]) 12 (fun h Cs e=>?_) fun h=>?_
    ·(conv=>whnf);left;(conv=>whnf);refine lI (fun n' ⟨j,k,o,B⟩=>w7 F d n a n' j k o B) (fun⟨j,k,o,B⟩=>[(0,sM cJ d),(1,sM dP.c i),(5,pp 0),(7,.an 1 8),(8,.an 2 1),(9,aI f),(10,pp 3),(11,aI a.1),(12,aI j)]) (fun⟨j,k,o,B⟩=>(It a.2.1 a.2.2.1 k++[(2,rT gP o),(3,rF (dP.c n)),(4,AO.bK (eG B) none),(5,rF [.an 11 4,aI a.2.2.2.2.1,.aw 12]),(6,.rows true [(@dn a.2.2.2.2.2.1)]),(7,rT bj.c a.2.2.2.2.2.2.2.1),(8,rT cJ a.2.2.2.2.2.2.2.2.1),(9,rT cU a.2.2.2.2.2.2.2.2.2.1),(10,rT cq.c a.2.2.2.2.2.2.2.2.2.2.1),(11,rT bQ.c a.2.2.2.2.2.2.2.2.2.2.2),(12,mP a.2.2.2.2.2.2.1)])) 13 ((0:Int),l,m,a.2.2.2.1) [(0,0),(1,1),(2,2),(3,204),(4,3),(5,4),(6,5),(7,342),(8,343),(9,344),(10,345),(11,346),(12,11)] h ?_;rintro a0 ⟨j,k,o,B⟩ h;dsimp only at h;rw[w7.eq_2]at h;(conv=>whnf);left;refine bS h (fun h=>?_) fun h=>?_
     ·(conv=>whnf);refine jS h fun IT ⟨Q,R,S⟩=>jT [(0,sM cJ d),(1,sM dP.c i),(5,pp 0),(7,.an 1 8),(8,.an 2 1),(9,aI f),(10,pp 3),(11,aI a.1),(12,aI j)] (It a.2.1 a.2.2.1 Q++[(2,rT gP R),(3,rF (dP.c n)),(4,AO.bK (eG S) none),(5,rF [.an 11 4,aI a.2.2.2.2.1,.aw 12]),(6,.rows true [(@dn a.2.2.2.2.2.1)]),(7,rT bj.c a.2.2.2.2.2.2.2.1),(8,rT cJ a.2.2.2.2.2.2.2.2.1),(9,rT cU a.2.2.2.2.2.2.2.2.2.1),(10,rT cq.c a.2.2.2.2.2.2.2.2.2.2.1),(11,rT bQ.c a.2.2.2.2.2.2.2.2.2.2.2),(12,mP a.2.2.2.2.2.2.1)]) 13 (fun h IV e=>?_) fun h=>?_
      ·(conv=>whnf);left;(conv=>whnf);refine gX h fun h=>?_;(conv=>whnf);refine oB h fun a8 h=>?_;(conv=>whnf);refine cG [0,4,5,6,7,8,9,10,11,12] h Ig fun b h=>?_;(conv=>whnf);left;(conv=>whnf);left;refine bS h (fun h=>?_) fun h=>?_
       ·(conv=>whnf);refine jN h fun a1=>jM [(0,sM cJ d),(1,sM dP.c i),(5,pp 0),(7,.an 1 8),(8,.an 2 1),(9,aI f),(10,pp 3),(11,aI a.1),(12,aI j)] (It a.2.1 a.2.2.1 k++[(2,rT gP a1),(3,rF (dP.c n)),(4,AO.bK (eG b.2.2) none),(5,rF [.an 11 4,aI a.2.2.2.2.1,.aw 12]),(6,.rows true [(@dn a.2.2.2.2.2.1)]),(7,rT bj.c a.2.2.2.2.2.2.2.1),(8,rT cJ a.2.2.2.2.2.2.2.2.1),(9,rT cU a.2.2.2.2.2.2.2.2.2.1),(10,rT cq.c a.2.2.2.2.2.2.2.2.2.2.1),(11,rT bQ.c a.2.2.2.2.2.2.2.2.2.2.2),(12,mP a.2.2.2.2.2.2.1)]) 13 (fun h=>?_) fun h=>?_
        ·(conv=>whnf);left;(conv=>whnf);refine gX h fun h=>?_;(conv=>whnf);refine oB h fun a9 h=>?_;(conv=>whnf);refine oB h fun aA h=>?_;(conv=>whnf);refine bS h (fun h=>?_) fun h=>?_
         ·(conv=>whnf);refine gX h fun h=>?_;(conv=>whnf);refine oB h fun aB h=>?_;(conv=>whnf);refine oB h fun aC h=>?_;cases h;exact eE (ii 13 [])
         (conv=>whnf);refine bS h (fun h=>?_) fun h=>?_
         ·(conv=>whnf);refine gX h fun h=>?_;(conv=>whnf);refine oB h fun aD h=>?_;(conv=>whnf);refine oB h fun aF h=>?_;cases h;exact eE (ii 13 [])
         (conv=>whnf);refine gX h fun h=>?_;(conv=>whnf);refine oB h fun aG h=>?_;(conv=>whnf);refine oB h fun aH h=>?_;cases h;exact eE (ii 13 [])
        exact qE (ii 13 [])
       (conv=>whnf);refine jN h fun a2=>jM [(0,sM cJ d),(1,sM dP.c i),(5,pp 0),(7,.an 1 8),(8,.an 2 1),(9,aI f),(10,pp 3),(11,aI a.1),(12,aI j),(13,pp 4),(100,.bool a2)] (Iu a.2.1 a.2.2.1 k++[(2,rT gP o),(3,rF (dP.c n)),(4,rF [.bool b.1.Up,aI b.1.bx,aI b.1.Term,aI b.1.bg,aI b.1.aj,aI b.1.ar,aI b.1.Count,AV.int IntKind.u32 b.1.Sum]),(5,AO.bK (eG b.2.2) none),(6,rF [.an 12 4,aI a.2.2.2.2.1,.aw 13]),(7,.rows true [(@dn a.2.2.2.2.2.1)]),(8,rT bj.c a.2.2.2.2.2.2.2.1),(9,rT cJ a.2.2.2.2.2.2.2.2.1),(10,rT cU a.2.2.2.2.2.2.2.2.2.1),(11,rT cq.c a.2.2.2.2.2.2.2.2.2.2.1),(12,rT bQ.c a.2.2.2.2.2.2.2.2.2.2.2),(13,mP a.2.2.2.2.2.2.1)]) 14 (fun h=>?_) fun h=>?_
       ·(conv=>whnf);left;refine bS h (fun h=>?_) fun h=>?_
        ·(conv=>whnf);refine gX h fun h=>?_;(conv=>whnf);refine oB h fun aJ h=>?_;exact qE (ii 4 [(4,429),(5,4),(6,5),(7,6),(8,7),(9,8),(10,9),(11,10),(12,11),(13,12)])
        exact qE (ii 4 [(4,429),(5,4),(6,5),(7,6),(8,7),(9,8),(10,9),(11,10),(12,11),(13,12)])
       (conv=>whnf);refine jS h fun IS a3=>jT [(0,sM cJ d),(1,sM dP.c i),(5,pp 0),(7,.an 1 8),(8,.an 2 1),(9,aI f),(10,pp 3),(11,aI a.1),(12,aI j),(13,pp 4)] (Iu a.2.1 a.2.2.1 k++[(2,rT gP a3),(3,rF (dP.c n)),(4,rF [.bool b.1.Up,aI b.1.bx,aI b.1.Term,aI b.1.bg,aI b.1.aj,aI b.1.ar,aI b.1.Count,AV.int IntKind.u32 b.1.Sum]),(5,AO.bK (eG b.2.2) none),(6,rF [.an 12 4,aI a.2.2.2.2.1,.aw 13]),(7,.rows true [(@dn a.2.2.2.2.2.1)]),(8,rT bj.c a.2.2.2.2.2.2.2.1),(9,rT cJ a.2.2.2.2.2.2.2.2.1),(10,rT cU a.2.2.2.2.2.2.2.2.2.1),(11,rT cq.c a.2.2.2.2.2.2.2.2.2.2.1),(12,rT bQ.c a.2.2.2.2.2.2.2.2.2.2.2),(13,mP a.2.2.2.2.2.2.1)]) 14 (fun h NM e=>?_) fun h=>?_
       ·(conv=>whnf);left;refine bS h (fun h=>?_) fun h=>?_
        ·(conv=>whnf);refine jN h fun a4=>jM [(0,sM cJ d),(1,sM dP.c i),(5,pp 0),(7,.an 1 8),(8,.an 2 1),(9,aI f),(10,pp 3),(11,aI a.1),(12,aI j),(13,pp 4),(140,.bool a4)] (Iu a.2.1 a.2.2.1 k++[(2,rT gP o),(3,rF (dP.c n)),(4,rF [.bool b.1.Up,aI b.1.bx,aI b.1.Term,aI b.1.bg,aI b.1.aj,aI b.1.ar,aI b.1.Count,AV.int IntKind.u32 b.1.Sum]),(5,AO.bK (eG b.2.2) none),(6,rF [.an 12 4,aI a.2.2.2.2.1,.aw 13]),(7,.rows true [(@dn a.2.2.2.2.2.1)]),(8,rT bj.c a.2.2.2.2.2.2.2.1),(9,rT cJ a.2.2.2.2.2.2.2.2.1),(10,rT cU a.2.2.2.2.2.2.2.2.2.1),(11,rT cq.c a.2.2.2.2.2.2.2.2.2.2.1),(12,rT bQ.c a.2.2.2.2.2.2.2.2.2.2.2),(13,mP a.2.2.2.2.2.2.1)]) 14 (fun h=>?_) fun h=>?_
         ·(conv=>whnf);left;(conv=>whnf);refine gX h fun h=>?_;(conv=>whnf);refine oB h fun aK h=>?_;(conv=>whnf);refine oB h fun aL h=>?_;(conv=>whnf);refine bS h (fun h=>qE (ii 14 [])) fun h=>?_;(conv=>whnf);refine gX h fun h=>?_;(conv=>whnf);refine oB h fun aM h=>?_;(conv=>whnf);refine oB h fun aN h=>?_;(conv=>whnf);refine bS h (fun h=>?_) fun h=>?_
          ·(conv=>whnf);refine gX h fun h=>?_;(conv=>whnf);refine oB h fun aO h=>?_;(conv=>whnf);refine oB h fun aP h=>?_;(conv=>whnf);refine bS h (fun h=>qE (ii 14 [])) fun h=>?_;(conv=>whnf);refine gX h fun h=>?_;(conv=>whnf);refine oB h fun aQ h=>?_;(conv=>whnf);refine oB h fun aR h=>?_;exact qE (ii 14 [])
          exact qE (ii 14 [])
         (conv=>whnf);left;refine bS h (fun h=>?_) fun h=>?_
         ·cases h;cases NM;cases IV;cases Cs;cases IW;cases Ct;exact rfl
         (conv=>whnf);refine gX h fun h=>?_;(conv=>whnf);refine oB h fun aS h=>?_;(conv=>whnf);refine oB h fun aT h=>?_;cases h;cases e;exact eE (ii 14 [])
        exact qE (ii 14 [])
       (conv=>whnf);refine gX h fun h=>?_;(conv=>whnf);refine oB h fun aU h=>?_;(conv=>whnf);refine oB h fun aV h=>?_;(conv=>whnf);refine aX ?_;(conv=>whnf);left;refine bS h (fun h=>?_) fun h=>?_
       ·cases h;cases IV;cases Cs;cases IW;cases Ct;exact rfl
       (conv=>whnf);refine gX h fun h=>?_;(conv=>whnf);refine oB h fun aY h=>?_;(conv=>whnf);refine oB h fun aZ h=>?_;cases h;cases e;exact eE (ii 4 [(4,5),(5,6),(6,7),(7,8),(8,9),(9,10),(10,11),(11,12),(12,13)])
      exact rE (a0,(IntKind.wrap IntKind.i64 (j+(1:Int))),Q,R,S) (ii 13 []) h
     exact qE [(0,0),(1,1),(2,2),(3,4),(4,5),(5,6),(6,7),(7,8),(8,9),(9,10),(10,11),(11,12)]
    exact qE (ii 12 [])
   exact rE (U,(IntKind.wrap IntKind.i64 (f+(1:Int))),C,D,E,G,H,I,J,K,L,M,N,O,P) (ii 12 []) h
  exact qE []
 exact qR
end Go.T
