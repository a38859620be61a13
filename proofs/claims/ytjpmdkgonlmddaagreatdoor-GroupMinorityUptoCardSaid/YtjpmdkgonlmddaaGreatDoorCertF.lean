import Derived.Test.YtjpmdkgonlmddaaGreatDoorCertE
set_option linter.unusedVariables false
set_option maxRecDepth 200000
set_option maxHeartbeats 4000000
namespace Go.T
open Go Go.Ab Go.Proofs
variable {ml:Gv}{F:Nat}
theorem Zha{a c i gs j tb l k n o p m r}(h:ZcU F a c i gs j tb l k n o p m=some r):FZ ml 63 (T0 c i gs j tb l k n o p m) [pp 0,.agg (Zau.c a)] (aI r.1) (T0 c i r.2 j tb l k n o p m):=by
 refine fG Tryz.func63 ?_
 unfold ZcU at h
 (conv=>whnf);left;obtain⟨b,hy,h⟩:=ZaE h;rcases b with b|b
 ·replace h:=Zeg h;(conv=>whnf);refine cg [0,1,2,3,4,5,6,7,8,9] (ZbG hy) ?_;exact qG (ii 10 [])
 replace h:=Zef h;(conv=>whnf);refine cg [0,1,2,3,4,5,6,7,8,9] (ZbF hy) ?_;(conv=>whnf);left;refine bS h (fun h=>?_) fun h=>?_
 ·(conv=>whnf);obtain⟨hg,h⟩:=isS_e h;cases h;refine gF 1 202 b.2.1 b.2.2.1 (@Sum.inr group_nodeD group_nodeU (group_nodeU.mk b.2.2.2.2.2.2.2.2.1 b.2.2.2.2.2.2.2.2.2.1 b.2.2.2.2.2.2.1 b.2.2.2.2.2.2.2.2.2.2.1 b.2.2.2.2.2.2.2.2.2.2.2.1 b.2.2.2.2.2.2.2.2.2.2.2.2 b.2.2.2.2.2.2.2.1 b.2.2.2.1 b.2.2.2.2.1 b.2.2.2.2.2.1)) [202,203,205,206,204,207] ?_;exact gI (ii 10 [])
 (conv=>whnf);refine cH [202,203,204,205,206,207] h ZkA fun s h=>?_;(conv=>whnf);left;(conv=>whnf);refine cR h (fun h=>Zav (Zjy h) rfl) fun d h=>?_;(conv=>whnf);left;(conv=>whnf);refine aX ?_;(conv=>whnf);refine cG [204,207,203,205,206] h Zdz fun q h=>?_;(conv=>whnf);refine aX ?_;(conv=>whnf);left;refine bS h (fun h=>?_) fun h=>?_
 ·(conv=>whnf);refine cG [202,203,204,205,1189,207] h ZbM fun f h=>?_;(conv=>whnf);obtain⟨hg,h⟩:=isS_e h;cases h;refine gF 1 202 b.2.1 b.2.2.1 (@Sum.inl group_nodeD group_nodeU (group_nodeD.mk f.2.2.2.2.2 [] f.2.2.2.2.1 f.2.1 f.2.2.1 f.2.2.2.1)) [202,203,205,1286] ?_;exact gI (ii 10 [])
 (conv=>whnf);refine cG [204,207,203,205,1189] h ZdQ fun t h=>?_;(conv=>whnf);refine cG [204,207,203,205,1381] h ZdR fun e h=>?_;(conv=>whnf);left;refine bS h (fun h=>?_) fun h=>?_
 ·(conv=>whnf);refine cG [202,203,204,205,1701,207] h ZbM fun g h=>?_;(conv=>whnf);obtain⟨hg,h⟩:=isS_e h;cases h;refine gF 1 202 b.2.1 b.2.2.1 (@Sum.inl group_nodeD group_nodeU (group_nodeD.mk g.2.2.2.2.2 [] g.2.2.2.2.1 g.2.1 g.2.2.1 g.2.2.2.1)) [202,203,205,1798] ?_;exact gI (ii 10 [])
 (conv=>whnf);obtain⟨hg,h⟩:=isS_e h;cases h;refine gF 1 202 b.2.1 b.2.2.1 (@Sum.inr group_nodeD group_nodeU (group_nodeU.mk e.2.2.2.2.2.1 e.2.2.2.2.2.2 e.2.2.2.2.1 e.2.1 e.2.2.1 e.2.2.2.1 q.2.1 (Zad.mk d.1 d.2.1 d.2.2.1 d.2.2.2.1 d.2.2.2.2.1 d.2.2.2.2.2.1 (Zag.mk d.2.2.2.2.2.2.1 d.2.2.2.2.2.2.2.1 d.2.2.2.2.2.2.2.2.1) d.2.2.2.2.2.2.2.2.2.1 d.2.2.2.2.2.2.2.2.2.2.1 d.2.2.2.2.2.2.2.2.2.2.2.1 d.2.2.2.2.2.2.2.2.2.2.2.2.1 d.2.2.2.2.2.2.2.2.2.2.2.2.2.2.1 d.2.2.2.2.2.2.2.2.2.2.2.2.2.2.2.1 d.2.2.2.2.2.2.2.2.2.2.2.2.2.2.2.2) b.2.2.2.2.1 b.2.2.2.2.2.1)) [202,203,205,1701,204,207] ?_;exact gI (ii 10 [])
theorem ZaI{a c b gs d tb l e f g i m r}(h:Zar F a c b gs d tb l e f g i m=some r):FZ ml 18 (T0 c b gs d tb l e f g i m) [pp 0,.agg (Zau.c a)] (aI r.1) (T11 r.2.1 r.2.2.1 r.2.2.2.1 r.2.2.2.2.1 r.2.2.2.2.2.1 r.2.2.2.2.2.2.1 r.2.2.2.2.2.2.2.1 r.2.2.2.2.2.2.2.2.1 r.2.2.2.2.2.2.2.2.2.1 r.2.2.2.2.2.2.2.2.2.2.1 r.2.2.2.2.2.2.2.2.2.2.2):=by
 refine fG Tryz.func18 ?_
 unfold Zar at h
 (conv=>whnf);left;(conv=>whnf);left;(conv=>whnf);left;(conv=>whnf);refine cR h ZkB fun j h=>?_;(conv=>whnf);refine aX ?_;(conv=>whnf);left;refine bS h (fun h=>?_) fun h=>?_
 ·(conv=>whnf);refine aX ?_;(conv=>whnf);left;(conv=>whnf);exact cG [0,1,2,3,4,5,6,7,8,9] h Zg9 fun k h=>qG (ii 10 [(10,618),(11,619),(12,620),(13,621),(14,622)])
 (conv=>whnf);refine bS h (fun h=>?_) fun h=>?_
 ·(conv=>whnf);refine aX ?_;(conv=>whnf);left;(conv=>whnf);exact cG [0,1,2,3,4,5,6,7,8,9] h Zgs fun n h=>qG (ii 10 [(10,618),(11,619),(12,620),(13,621),(14,622)])
 (conv=>whnf);refine bS h (fun h=>?_) fun h=>?_
 ·(conv=>whnf);refine aX ?_;(conv=>whnf);left;(conv=>whnf);exact cG [0,1,2,3,4,5,6,7,8,9] h Zhd fun o h=>qG (ii 4 [(8,8),(9,9),(10,4),(11,5),(12,6),(13,7),(14,618)])
 (conv=>whnf);refine bS h (fun h=>?_) fun h=>?_
 ·(conv=>whnf);refine aX ?_;(conv=>whnf);left;(conv=>whnf);exact cG [0,1,2,3,4,5,6,7,8,9] h ZgA fun p h=>qG (ii 4 [(8,8),(9,9),(10,4),(11,5),(12,6),(13,7),(14,618)])
 (conv=>whnf);refine bS h (fun h=>?_) fun h=>?_
 ·(conv=>whnf);refine aX ?_;(conv=>whnf);left;(conv=>whnf);exact cG [0,1,2,3,4,5,6,7,8,9] h Zgr fun q h=>qG (ii 10 [(10,618),(11,619),(12,620),(13,621),(14,622)])
 (conv=>whnf);refine bS h (fun h=>?_) fun h=>?_
 ·(conv=>whnf);refine aX ?_;(conv=>whnf);left;(conv=>whnf);exact cG [0,1,2,3,4,5,6,7,8,9] h ZgQ fun s h=>qG (ii 4 [(9,9),(10,4),(11,5),(12,6),(13,7),(14,8)])
 (conv=>whnf);refine bS h (fun h=>?_) fun h=>?_
 ·(conv=>whnf);refine aX ?_;(conv=>whnf);left;(conv=>whnf);exact cG [0,1,2,3,4,5,6,7,8,9] h Zgq fun t h=>qG (ii 4 [(9,9),(10,4),(11,5),(12,6),(13,7),(14,8)])
 (conv=>whnf);refine bS h (fun h=>?_) fun h=>?_
 ·(conv=>whnf);refine aX ?_;(conv=>whnf);left;(conv=>whnf);exact cG [0,1,2,3,4,5,6,7,8,9] h Zho fun u h=>qG (ii 4 [(9,9),(10,4),(11,5),(12,6),(13,7),(14,8)])
 (conv=>whnf);refine bS h (fun h=>?_) fun h=>?_
 ·(conv=>whnf);refine aX ?_;(conv=>whnf);left;(conv=>whnf);exact cG [0,1,2,3,4,5,6,7,8,9] h Zhc fun v h=>qG (ii 4 [(9,9),(10,4),(11,5),(12,6),(13,7),(14,8)])
 (conv=>whnf);refine bS h (fun h=>?_) fun h=>?_
 ·(conv=>whnf);refine aX ?_;(conv=>whnf);left;(conv=>whnf);exact cG [0,1,2,3,4,5,6,7,8,9] h Zha fun w h=>qG (ii 4 [(9,9),(10,4),(11,5),(12,6),(13,7),(14,8)])
 exact qG (ii 4 [(9,9),(10,4),(11,5),(12,6),(13,7),(14,8)])
theorem ZcD{id c b gs d tb l e f i j m r}(h:Zbx F id c b gs d tb l e f i j m=some r):FZ ml 19 (T0 c b gs d tb l e f i j m) [pp 0,aI id] (.tup [.agg (Zfk.c r.1),aI r.2.1]) (T0 c b r.2.2 d tb l e f i j m):=by
 refine fG Tryz.func19 ?_
 unfold Zbx at h
 (conv=>whnf);left;(conv=>whnf);left;(conv=>whnf);refine aX ?_;(conv=>whnf);refine gl3 h (fun hm h=>?_) (fun k hm h=>?_) (fun n hm h=>?_)
 ·refine Zh4 (ek:=(fun(a:Int)=>(AV.int IntKind.i64 a))) (gN:=group_node.g) gs id (.con (.pointer none)) rfl rfl (ZcC Tryz.underlying3) hm ⟨96,_,by kernel_rfl,by kernel_rfl,.refl _⟩ ?_;exact qG (ii 10 [])
 ·refine Ze1 (ek:=(fun(a:Int)=>(AV.int IntKind.i64 a))) (gN:=group_node.g) gs id _ rfl rfl (ZcC Tryz.underlying3) hm _ rfl rfl ?_;(conv=>whnf);left;(conv=>whnf);refine aX ?_;(conv=>whnf);obtain⟨hg,h⟩:=isS_e h;refine Zh3 (ek:=(fun(a:Int)=>(AV.int IntKind.i64 a))) (gN:=group_node.g) gs id id rfl rfl (ZcC Tryz.underlying3) hg ?_;(conv=>whnf);left;(conv=>whnf);left;(conv=>whnf);obtain⟨hg,h⟩:=isS_e h;cases h;refine gF 1 352 gs id (@Sum.inl group_nodeD group_nodeU k) [352,353,354,355] ?_;exact gI (ii 10 [])
 refine Ze1 (ek:=(fun(a:Int)=>(AV.int IntKind.i64 a))) (gN:=group_node.g) gs id _ rfl rfl (ZcC Tryz.underlying3) hm _ rfl rfl ?_;(conv=>whnf);left;(conv=>whnf);refine aX ?_;(conv=>whnf);obtain⟨hg,h⟩:=isS_e h;refine Zh3 (ek:=(fun(a:Int)=>(AV.int IntKind.i64 a))) (gN:=group_node.g) gs id id rfl rfl (ZcC Tryz.underlying3) hg ?_;(conv=>whnf);left;(conv=>whnf);left;(conv=>whnf);left;(conv=>whnf);refine aX ?_;(conv=>whnf);obtain⟨hg,h⟩:=isS_e h;cases h;refine gF 1 352 gs id (@Sum.inr group_nodeD group_nodeU n) [352,353,354,355,356,357] ?_;exact gI (ii 10 [])
theorem Zd1{s r}(h:Za6 F s=some r):FZ ml 44 [(0,.rows true (List.map Zab.c s))] [.osw 0 2] (.osw 1 2) [(0,.rows true (List.map Zab.c s)),(1,.rows true (List.map Zab.c r))]:=by
 unfold Za6 at h
 obtain⟨hg,h⟩:=grd_e h
 cases h
 refine Zfr 2000 Tryz.func44 rfl (by kernel_rfl) mixed (by show 1≤8;decide) (by show 1≤W;decide) rfl ?_
 refine oL ?_
 refine And.intro (fun hp=>?_) ?_
 ·conv=>whnf
  exact ZeP [(0,0),(1,128)] rfl (by rw[hp];rfl) rfl
 refine oL ?_
 refine And.intro (ZaF.map (fun _=>rfl)) ?_
 refine And.intro ZaF.nil ?_
 refine And.intro (show 0+(List.map Zab.c s).length≤LIM by simpa using hg) ?_
 conv=>whnf
 exact gI [(0,0),(1,192)]
theorem Za5{c a gs b tb l d e f g m r}(h:ZaC F c a gs b tb l d e f g m=some r):FZ ml 20 (T0 c a gs b tb l d e f g m) [pp 0] (.osw 10 2) (T0 c a gs b tb l d e f g m++[(10,rT Zab.c r)]):=by
 refine fG Tryz.func20 ?_
 unfold ZaC at h
 (conv=>whnf);left;(conv=>whnf);exact cG [4] h Zd1 fun i h=>qG (ii 10 [(10,257)])
theorem Zh7{r}(h:ZeB F=some r):FZ ml 9 [] [] (.bool r) []:=by
 refine fA Tryz.func9 ?_
 unfold ZeB at h
 (conv=>whnf);left;(conv=>whnf);left;obtain⟨a,hy,h⟩:=ZaE h;rcases a with a|a
 ·replace h:=Zeg h;refine⟨_,_,(ZdE (cons2 (YI AV.sl rQ) rfl) (Zav (ZfV hy) rfl)),Or.inr ⟨[64],rfl,?_⟩⟩;(conv=>whnf);left;obtain⟨D,hy,h⟩:=ZaE h;rcases D with D|D
  ·replace h:=Zeg h;refine⟨_,_,(Zku (WkL.cons Wk.esl WkL.nil) (Zav (ZfV hy) rfl)),Or.inr ⟨[],rfl,?_⟩⟩;exact qR
  replace h:=Zef h;refine⟨_,_,(Zku (WkL.cons Wk.esl WkL.nil) (ZfU hy)),Or.inr ⟨[],rfl,?_⟩⟩;exact qR
 replace h:=Zef h;refine⟨_,_,(ZdE (cons2 (YI AV.sl rQ) rfl) (ZfU hy)),Or.inr ⟨[64],rfl,?_⟩⟩;(conv=>whnf);left;obtain⟨E,hy,h⟩:=ZaE h;rcases E with E|E
 ·replace h:=Zeg h;refine⟨_,_,(Zku (WkL.cons Wk.esl WkL.nil) (Zav (ZfV hy) rfl)),Or.inr ⟨[],rfl,?_⟩⟩;(conv=>whnf);refine jN h fun G=>jM [(1,pp 0),(27,.bool G)] (T0 a.2.1 a.2.2.1 a.2.2.2.1 a.2.2.2.2.1 a.2.2.2.2.2.1 a.2.2.2.2.2.2.1 a.2.2.2.2.2.2.2.1 a.2.2.2.2.2.2.2.2.1 a.2.2.2.2.2.2.2.2.2.1 a.2.2.2.2.2.2.2.2.2.2.1 a.2.2.2.2.2.2.2.2.2.2.2) 10 (fun h=>qE [(0,96),(1,97),(2,98),(3,99),(4,100),(5,101),(6,102),(7,103),(8,104),(9,105)]) fun h=>?_;(conv=>whnf);left;refine bS h (fun h=>qR) fun h=>?_;(conv=>whnf);refine jN h fun⟨H,I,J,K,L,M,N,O,P,Q,R⟩=>jM [(1,pp 0)] (T0 H I J K L M N O P Q R) 10 (fun h=>?_) fun h=>?_
  ·(conv=>whnf);left;(conv=>whnf);refine lI (fun n' ⟨d,f,g,i,j,k,l,m,n,o,p,q⟩=>Zdo F n' d f g i j k l m n o p q) (fun⟨d,f,g,i,j,k,l,m,n,o,p,q⟩=>[(1,pp 0),(5,aI d)]) (fun⟨d,f,g,i,j,k,l,m,n,o,p,q⟩=>(T0 f g i j k l m n o p q)) 10 ((0:Int),a.2.1,a.2.2.1,a.2.2.2.1,a.2.2.2.2.1,a.2.2.2.2.2.1,a.2.2.2.2.2.2.1,a.2.2.2.2.2.2.2.1,a.2.2.2.2.2.2.2.2.1,a.2.2.2.2.2.2.2.2.2.1,a.2.2.2.2.2.2.2.2.2.2.1,a.2.2.2.2.2.2.2.2.2.2.2) (ii 10 []) h ?_;rintro S ⟨d,f,g,i,j,k,l,m,n,o,p,q⟩ h;dsimp only at h;rw[Zdo.eq_2]at h;(conv=>whnf);left;refine bS h (fun h=>?_) fun h=>?_
   ·(conv=>whnf);left;(conv=>whnf);left;(conv=>whnf);refine cG [0,1,2,3,4,5,6,7,8,9] h ZaI fun b h=>?_;exact rE (S,(IntKind.wrap IntKind.i64 (d+(1:Int))),b.2.1,b.2.2.1,b.2.2.2.1,b.2.2.2.2.1,b.2.2.2.2.2.1,b.2.2.2.2.2.2.2.1,b.2.2.2.2.2.2.2.2.1,b.2.2.2.2.2.2.2.2.2.1,b.2.2.2.2.2.2.2.2.2.2.1,b.2.2.2.2.2.2.2.2.2.2.2,b.2.2.2.2.2.2.1) (ii 4 [(4,148),(5,149),(6,150),(7,151),(8,152),(9,9)]) h
   exact qE (ii 10 [])
  (conv=>whnf);left;(conv=>whnf);refine cG [0,1,2,3,4,5,6,7,8,9] h ZaI fun a7 h=>?_;(conv=>whnf);refine cG [0,1,2,3,84,85,86,87,88,9] h ZcD fun a8 h=>?_;(conv=>whnf);left;(conv=>whnf);left;refine bS h (fun h=>?_) fun h=>?_
  ·(conv=>whnf);refine bS h (fun h=>?_) fun h=>?_
   ·(conv=>whnf);refine bS h (fun h=>?_) fun h=>?_
    ·(conv=>whnf);refine bS h (fun h=>?_) fun h=>?_
     ·(conv=>whnf);refine bS h (fun h=>?_) fun h=>?_
      ·(conv=>whnf);refine bS h (fun h=>?_) fun h=>?_
       ·(conv=>whnf);refine cG [0,1,2,3,84,85,86,87,88,9] h Za5 fun a9 h=>?_;(conv=>whnf);refine bS h (fun h=>?_) fun h=>?_
        ·(conv=>whnf);refine cG [0,1,2,3,84,85,86,87,88,9] h Za5 fun aA h=>?_;(conv=>whnf);refine aX ?_;(conv=>whnf);refine oB h fun aB h=>?_;(conv=>whnf);refine oB h fun aC h=>?_;(conv=>whnf);left;(conv=>whnf);refine aX ?_;(conv=>whnf);refine bS h (fun h=>?_) fun h=>?_
         ·(conv=>whnf);left;(conv=>whnf);exact cG [0,1,2,3,84,85,86,87,88,9] h ZaI fun aD h=>qR
         exact qR
        exact qR
       exact qR
      exact qR
     exact qR
    exact qR
   exact qR
  exact qR
 replace h:=Zef h;refine⟨_,_,(Zku (WkL.cons Wk.esl WkL.nil) (ZfU hy)),Or.inr ⟨[],rfl,?_⟩⟩;(conv=>whnf);refine jN h fun T=>jM [(1,pp 0),(27,.bool T)] (T0 a.2.1 a.2.2.1 a.2.2.2.1 a.2.2.2.2.1 a.2.2.2.2.2.1 a.2.2.2.2.2.2.1 a.2.2.2.2.2.2.2.1 a.2.2.2.2.2.2.2.2.1 a.2.2.2.2.2.2.2.2.2.1 a.2.2.2.2.2.2.2.2.2.2.1 a.2.2.2.2.2.2.2.2.2.2.2) 10 (fun h=>qE [(0,96),(1,97),(2,98),(3,99),(4,100),(5,101),(6,102),(7,103),(8,104),(9,105)]) fun h=>?_;(conv=>whnf);left;refine bS h (fun h=>qR) fun h=>?_;(conv=>whnf);refine jN h fun⟨U,V,X,Y,Z,a0,a1,a2,a3,a4,a5⟩=>jM [(1,pp 0)] (T0 U V X Y Z a0 a1 a2 a3 a4 a5) 10 (fun h=>?_) fun h=>?_
 ·(conv=>whnf);left;(conv=>whnf);refine lI (fun n' ⟨e,s,t,u,v,w,x,y,z,A,B,C⟩=>Zdn F n' e s t u v w x y z A B C) (fun⟨e,s,t,u,v,w,x,y,z,A,B,C⟩=>[(1,pp 0),(5,aI e)]) (fun⟨e,s,t,u,v,w,x,y,z,A,B,C⟩=>(T0 s t u v w x y z A B C)) 10 ((0:Int),a.2.1,a.2.2.1,a.2.2.2.1,a.2.2.2.2.1,a.2.2.2.2.2.1,a.2.2.2.2.2.2.1,a.2.2.2.2.2.2.2.1,a.2.2.2.2.2.2.2.2.1,a.2.2.2.2.2.2.2.2.2.1,a.2.2.2.2.2.2.2.2.2.2.1,a.2.2.2.2.2.2.2.2.2.2.2) (ii 10 []) h ?_;rintro a6 ⟨e,s,t,u,v,w,x,y,z,A,B,C⟩ h;dsimp only at h;rw[Zdn.eq_2]at h;(conv=>whnf);left;refine bS h (fun h=>?_) fun h=>?_
  ·(conv=>whnf);left;(conv=>whnf);left;(conv=>whnf);refine cG [0,1,2,3,4,5,6,7,8,9] h ZaI fun c h=>?_;exact rE (a6,(IntKind.wrap IntKind.i64 (e+(1:Int))),c.2.1,c.2.2.1,c.2.2.2.1,c.2.2.2.2.1,c.2.2.2.2.2.1,c.2.2.2.2.2.2.2.1,c.2.2.2.2.2.2.2.2.1,c.2.2.2.2.2.2.2.2.2.1,c.2.2.2.2.2.2.2.2.2.2.1,c.2.2.2.2.2.2.2.2.2.2.2,c.2.2.2.2.2.2.1) (ii 4 [(4,148),(5,149),(6,150),(7,151),(8,152),(9,9)]) h
  exact qE (ii 10 [])
 (conv=>whnf);left;(conv=>whnf);refine cG [0,1,2,3,4,5,6,7,8,9] h ZaI fun aF h=>?_;(conv=>whnf);refine cG [0,1,2,3,84,85,86,87,88,9] h ZcD fun aG h=>?_;(conv=>whnf);left;(conv=>whnf);left;refine bS h (fun h=>?_) fun h=>?_
 ·(conv=>whnf);refine bS h (fun h=>?_) fun h=>?_
  ·(conv=>whnf);refine bS h (fun h=>?_) fun h=>?_
   ·(conv=>whnf);refine bS h (fun h=>?_) fun h=>?_
    ·(conv=>whnf);refine bS h (fun h=>?_) fun h=>?_
     ·(conv=>whnf);refine bS h (fun h=>?_) fun h=>?_
      ·(conv=>whnf);refine cG [0,1,2,3,84,85,86,87,88,9] h Za5 fun aH h=>?_;(conv=>whnf);refine bS h (fun h=>?_) fun h=>?_
       ·(conv=>whnf);refine cG [0,1,2,3,84,85,86,87,88,9] h Za5 fun aJ h=>?_;(conv=>whnf);refine aX ?_;(conv=>whnf);refine oB h fun aK h=>?_;(conv=>whnf);refine oB h fun aL h=>?_;(conv=>whnf);left;(conv=>whnf);refine aX ?_;(conv=>whnf);refine bS h (fun h=>?_) fun h=>?_
        ·(conv=>whnf);left;(conv=>whnf);exact cG [0,1,2,3,84,85,86,87,88,9] h ZaI fun aM h=>qR
        exact qR
       exact qR
      exact qR
     exact qR
    exact qR
   exact qR
  exact qR
 exact qR
theorem Zec{s r}(h:Za9 F s=some r):FZ ml 64 [(0,.rows true (List.map Zae.c s))] [.osw 0 4] (.osw 1 4) [(0,.rows true (List.map Zae.c s)),(1,.rows true (List.map Zae.c r))]:=by
 unfold Za9 at h
 obtain⟨hg,h⟩:=grd_e h
 cases h
 refine Zfr 2000 Tryz.func64 rfl (by kernel_rfl) mixed (by show 1≤8;decide) (by show 1≤W;decide) rfl ?_
 refine oL ?_
 refine And.intro (fun hp=>?_) ?_
 ·conv=>whnf
  exact ZeP [(0,0),(1,128)] rfl (by rw[hp];rfl) rfl
 refine oL ?_
 refine And.intro (ZaF.map (fun _=>rfl)) ?_
 refine And.intro ZaF.nil ?_
 refine And.intro (show 0+(List.map Zae.c s).length≤LIM by simpa using hg) ?_
 conv=>whnf
 exact gI [(0,0),(1,192)]
theorem Zg7{c l m r}(h:ZdT F c l m=some r):FZ ml 45 (T6 c l m) [pp 0] (.osw 3 4) (T6 c l m++[(3,rT Zae.c r)]):=by
 refine fG Tryz.func45 ?_
 unfold ZdT at h
 (conv=>whnf);left;(conv=>whnf);exact cG [1] h Zec fun a h=>qG [(0,0),(1,1),(2,2),(3,257)]
theorem ZeQ{c a gs b tb l d e f g m r}(h:ZbV F c a gs b tb l d e f g m=some r):FZ ml 21 (T0 c a gs b tb l d e f g m) [pp 0] (.osw 10 4) (T0 c a gs b tb l d e f g m++[(10,rT Zae.c r)]):=by
 refine fG Tryz.func21 ?_
 unfold ZbV at h
 (conv=>whnf);left;(conv=>whnf);exact cG [2,8,9] h Zg7 fun i h=>qG (ii 10 [(10,259)])
theorem ZhJ{a c b gs d tb l e f g i m r}(h:Zdu F a c b gs d tb l e f g i m=some r):FZ ml 17 (T0 c b gs d tb l e f g i m) [pp 0,.agg (Zau.c a)] (.agg (Zau.c r)) (T0 c b gs d tb l e f g i m):=by
 refine fG Tryz.func17 ?_
 unfold Zdu at h
 (conv=>whnf);left;(conv=>whnf);left;(conv=>whnf);refine cG [0,1,2,3,4,5,6,7,8,9] h ZeQ fun j h=>?_;(conv=>whnf);refine jN h fun k=>jM [(3,pp 10),(4,pp 11),(5,.osw 12 4),(16,.bool k)] (T0 c b gs d tb l e f g i m++[(10,rF (Zau.c a)),(11,rF [aI 0,aI 0,aI 0,aI 0,aI 0,aI 0,aI 0,aI 0,.bool false,.str [],aI 0,aI 0,aI 0,aI 0,.str [],.str [],.str [],.str [],aI 0,aI 0,aI 0,aI 0,aI 0,aI 0,aI 0,aI 0,.str []]),(12,rT Zae.c j)]) 13 (fun h=>qE (ii 10 [(10,32),(11,64),(12,138)])) fun h=>?_;(conv=>whnf);refine jN h fun n=>jM [(3,pp 10),(4,pp 11)] (T0 c b gs d tb l e f g i m++[(10,rF [aI a.Kind,aI a.Group,aI a.Node,aI a.Other,aI n,aI a.Draw,aI a.Keep,aI a.Torn,.bool a.Fail,.str a.Data,aI a.Time,aI a.Cmd.Kind,aI a.Cmd.Client,aI a.Cmd.Seq,.str a.Cmd.Name,.str a.Cmd.Expr,.str a.Cmd.Zone,.str a.Cmd.Token,aI a.Cmd.Time,aI a.Plan.Kind,aI a.Plan.Phase,aI a.Plan.Shard,aI a.Plan.Other,aI a.Plan.Group,aI a.Plan.Past,aI a.Plan.Epoch,.str a.Plan.Key]),(11,rF [aI 0,aI 0,aI 0,aI 0,aI 0,aI 0,aI 0,aI 0,.bool false,.str [],aI 0,aI 0,aI 0,aI 0,.str [],.str [],.str [],.str [],aI 0,aI 0,aI 0,aI 0,aI 0,aI 0,aI 0,aI 0,.str []])]) 12 (fun h=>?_) fun h=>?_
 ·(conv=>whnf);left;refine bS h (fun h=>?_) fun h=>?_
  ·(conv=>whnf);refine jN h fun o=>jM [(3,pp 10),(4,pp 11),(5,.osw 12 4),(6,aI o)] (T0 c b gs d tb l e f g i m++[(10,rF (Zau.c a)),(11,rF [aI 0,aI 0,aI 0,aI 0,aI 0,aI 0,aI 0,aI 0,.bool false,.str [],aI 0,aI 0,aI 0,aI 0,.str [],.str [],.str [],.str [],aI 0,aI 0,aI 0,aI 0,aI 0,aI 0,aI 0,aI 0,.str []]),(12,rT Zae.c j)]) 13 (fun h=>qE (ii 13 [])) fun h=>?_;(conv=>whnf);refine gS h fun h=>?_;(conv=>whnf);refine gS h fun h=>?_;(conv=>whnf);refine oB h fun p h=>?_;(conv=>whnf);refine oB h fun q h=>?_;exact qE (ii 12 [])
  exact qE (ii 12 [])
 exact qG (ii 10 [])
theorem ZfS{k Z a0 r}(h:Zbm F k Z a0=some r):FZ ml 5 [] [sM cJ k,sM Zau.c Z,aI a0] (.bool r) []:=by
 refine fA Tryz.func5 ?_
 unfold Zbm at h
 (conv=>whnf);left;(conv=>whnf);refine cL h Zh7 fun cT h=>?_;(conv=>whnf);left;refine bS h (fun h=>qR) fun h=>?_;(conv=>whnf);left;obtain⟨b,hy,h⟩:=ZaE h;rcases b with b|b
 ·replace h:=Zeg h;refine⟨_,_,(Zav (ZfV hy) rfl),Or.inr ⟨[],rfl,?_⟩⟩;exact qR
 replace h:=Zef h;(conv=>whnf);refine⟨_,_,(ZfU hy),Or.inr ⟨[],rfl,?_⟩⟩;(conv=>whnf);left;(conv=>whnf);left;refine bS h (fun h=>qR) fun h=>?_;(conv=>whnf);refine jN h fun⟨aD,aF,aG,aH,aJ,aK,aL,aM,aN,aO,aP⟩=>jM [(0,sM cJ k),(2,aI a0),(7,pp 0)] (T0 aD aF aG aH aJ aK aL aM aN aO aP) 10 (fun h=>?_) fun h=>?_
 ·(conv=>whnf);left;(conv=>whnf);refine lI (fun n' ⟨m,o,p,q,s,t,u,v,w,x,y,z⟩=>ZaO F Z n' m o p q s t u v w x y z) (fun⟨m,o,p,q,s,t,u,v,w,x,y,z⟩=>[(0,sM cJ k),(1,sM Zau.c Z),(2,aI a0),(7,pp 0),(9,aI m)]) (fun⟨m,o,p,q,s,t,u,v,w,x,y,z⟩=>(T0 o p q s t u v w x y z)) 10 ((0:Int),b.2.1,b.2.2.1,b.2.2.2.1,b.2.2.2.2.1,b.2.2.2.2.2.1,b.2.2.2.2.2.2.1,b.2.2.2.2.2.2.2.1,b.2.2.2.2.2.2.2.2.1,b.2.2.2.2.2.2.2.2.2.1,b.2.2.2.2.2.2.2.2.2.2.1,b.2.2.2.2.2.2.2.2.2.2.2) [(0,160),(1,161),(2,162),(3,163),(4,164),(5,165),(6,166),(7,167),(8,168),(9,169)] h ?_;rintro cD ⟨m,o,p,q,s,t,u,v,w,x,y,z⟩ h;dsimp only at h;rw[ZaO.eq_2]at h;(conv=>whnf);refine jN h fun cE=>jM [(0,sM cJ k),(1,sM Zau.c Z),(2,aI a0),(7,pp 0),(9,aI m),(41,.bool cE)] (T0 o p q s t u v w x y z) 10 (fun h=>qE (ii 10 [])) fun h=>?_;(conv=>whnf);left;refine bS h (fun h=>?_) fun h=>?_
  ·(conv=>whnf);left;(conv=>whnf);refine gX h fun h=>?_;(conv=>whnf);refine oB h fun cV h=>?_;(conv=>whnf);refine cH [0,1,2,3,4,5,6,7,8,9] h ZhJ fun cW h=>?_;(conv=>whnf);refine cG [0,1,2,3,4,5,6,7,8,9] h ZaI fun g h=>?_;exact rE (cD,(IntKind.wrap IntKind.i64 (m+(1:Int))),g.2.1,g.2.2.1,g.2.2.2.1,g.2.2.2.2.1,g.2.2.2.2.2.1,g.2.2.2.2.2.2.2.1,g.2.2.2.2.2.2.2.2.1,g.2.2.2.2.2.2.2.2.2.1,g.2.2.2.2.2.2.2.2.2.2.1,g.2.2.2.2.2.2.2.2.2.2.2,g.2.2.2.2.2.2.1) (ii 4 [(4,244),(5,245),(6,246),(7,247),(8,248),(9,9)]) h
  exact qE (ii 10 [])
 (conv=>whnf);refine gS h fun h=>?_;(conv=>whnf);refine gS h fun h=>?_;(conv=>whnf);refine oB h fun d h=>?_;(conv=>whnf);refine jN h fun⟨aQ,aR,cF,aS,aT,aU,aV,aY,aZ,b0,b1⟩=>jM [(7,pp 0),(10,aI d)] (T0 aQ aR cF aS aT aU aV aY aZ b0 b1) 10 (fun h=>?_) fun h=>?_
 ·(conv=>whnf);left;(conv=>whnf);refine lI (fun n' ⟨n,a1,a2,a3,a4,a5,a6,a7,a8,a9,aA,aB⟩=>ZaN F k d n' n a1 a2 a3 a4 a5 a6 a7 a8 a9 aA aB) (fun⟨n,a1,a2,a3,a4,a5,a6,a7,a8,a9,aA,aB⟩=>[(0,sM cJ k),(7,pp 0),(10,aI d),(11,aI n)]) (fun⟨n,a1,a2,a3,a4,a5,a6,a7,a8,a9,aA,aB⟩=>(T0 a1 a2 a3 a4 a5 a6 a7 a8 a9 aA aB)) 10 ((0:Int),aD,aF,aG,aH,aJ,aK,aL,aM,aN,aO,aP) (ii 10 []) h ?_;rintro cI ⟨n,a1,a2,a3,a4,a5,a6,a7,a8,a9,aA,aB⟩ h;dsimp only at h;rw[ZaN.eq_2]at h;(conv=>whnf);left;refine bS h (fun h=>?_) fun h=>?_
  ·(conv=>whnf);refine jN h fun⟨b2,b3,b4,b5,b6,b7,b8,b9,bA,bB,bC⟩=>jM [(0,sM cJ k),(7,pp 0),(10,aI d),(11,aI n)] (T0 b2 b3 b4 b5 b6 b7 b8 b9 bA bB bC) 10 (fun h=>?_) fun h=>?_
   ·(conv=>whnf);left;(conv=>whnf);refine gX h fun h=>?_;(conv=>whnf);refine oB h fun cX h=>?_;(conv=>whnf);left;refine bS h (fun h=>?_) fun h=>?_
    ·(conv=>whnf);refine gX h fun h=>?_;(conv=>whnf);refine oB h fun cY h=>?_;(conv=>whnf);left;(conv=>whnf);exact cG [0,1,2,3,4,5,6,7,8,9] h ZaI fun cZ h=>qE (ii 4 [(4,564),(5,565),(6,566),(7,567),(8,568),(9,9)])
    exact qE (ii 10 [])
   exact rE (cI,(IntKind.wrap IntKind.i64 (n+(1:Int))),b2,b3,b4,b5,b6,b7,b8,b9,bA,bB,bC) (ii 10 []) h
  exact qE (ii 10 [])
 (conv=>whnf);refine cG [0,1,2,3,4,5,6,7,8,9] h Za5 fun j h=>?_;(conv=>whnf);refine cG [0,1,2,3,4,5,6,7,8,9] h ZcD fun a h=>?_;(conv=>whnf);left;(conv=>whnf);refine jS h fun o19 vu=>jT [] [] 0 (fun h k19 e=>?_) fun h=>?_
 ·(conv=>whnf);left;(conv=>whnf);refine lI (fun n' ⟨f,A,B,C,D,E,G,H,I,J,K,L⟩=>ZaM F d j a n' f A B C D E G H I J K L) (fun⟨f,A,B,C,D,E,G,H,I,J,K,L⟩=>[(7,pp 0),(10,aI d),(12,aI (@Nat.cast Int instNatCastInt (List.length (List.map Zab.c j)))),(13,pp 1),(15,aI f)]) (fun⟨f,A,B,C,D,E,G,H,I,J,K,L⟩=>(T7 A B a.1.Up a.1.Role a.1.Term a.1.Vote a.1.Commit a.1.Base a.1.Count a.1.Sum C D E G H I J K L)) 11 ((0:Int),aQ,aR,a.2.2,aS,aT,aU,aV,aY,aZ,b0,b1) [(0,0),(1,330),(2,1),(3,2),(4,3),(5,4),(6,5),(7,6),(8,7),(9,8),(10,9)] h ?_;rintro cK ⟨f,A,B,C,D,E,G,H,I,J,K,L⟩ h;dsimp only at h;rw[ZaM.eq_2]at h;(conv=>whnf);refine jN h fun cM=>jM [(7,pp 0),(10,aI d),(12,aI (@Nat.cast Int instNatCastInt (List.length (List.map Zab.c j)))),(13,pp 1),(15,aI f),(96,.bool cM)] (T7 A B a.1.Up a.1.Role a.1.Term a.1.Vote a.1.Commit a.1.Base a.1.Count a.1.Sum C D E G H I J K L) 11 (fun h=>qE (ii 11 [])) fun h=>?_;(conv=>whnf);left;refine bS h (fun h=>?_) fun h=>?_
  ·(conv=>whnf);refine jS h fun o31 ⟨bD,bE,bG,bH,bI,bJ,bK,bL,bM,bN,bO⟩=>jT [(7,pp 0),(10,aI d),(12,aI (@Nat.cast Int instNatCastInt (List.length (List.map Zab.c j)))),(13,pp 1),(15,aI f)] (T7 bD bE a.1.Up a.1.Role a.1.Term a.1.Vote a.1.Commit a.1.Base a.1.Count a.1.Sum bG (bH) bI bJ bK bL bM bN bO) 11 (fun h k31 e=>?_) fun h=>?_
   ·(conv=>whnf);left;(conv=>whnf);left;(conv=>whnf);refine cG [0,2,3,4,5,6,7,8,9,10] h ZaI fun d0 h=>?_;(conv=>whnf);left;(conv=>whnf);refine cG [0,2,3,4,149,150,151,152,153,10] h ZaI fun i h=>?_;(conv=>whnf);refine cG [0,2,3,4,277,278,279,280,281,10] h ZeQ fun aC h=>?_;(conv=>whnf);refine jN h fun⟨bP,bQ,cN,bR,bU,bV,bW,bX,bY,bZ,c0⟩=>jM [(7,pp 0),(10,aI d),(12,aI (@Nat.cast Int instNatCastInt (List.length (List.map Zab.c j)))),(13,pp 1),(15,aI f)] (T7 bP bQ a.1.Up a.1.Role a.1.Term a.1.Vote a.1.Commit a.1.Base a.1.Count a.1.Sum cN bR bU bV bW bX bY bZ c0) 11 (fun h=>?_) fun h=>?_
    ·(conv=>whnf);left;(conv=>whnf);refine lI (fun n' ⟨l,M,N,O,P,Q,R,S,U,V,X,Y⟩=>ZaL F d aC n' l M N O P Q R S U V X Y) (fun⟨l,M,N,O,P,Q,R,S,U,V,X,Y⟩=>[(7,pp 0),(10,aI d),(12,aI (@Nat.cast Int instNatCastInt (List.length (List.map Zab.c j)))),(13,pp 1),(15,aI f),(16,.osw 2 4),(17,aI l)]) (fun⟨l,M,N,O,P,Q,R,S,U,V,X,Y⟩=>(T12 M N a.1.Up a.1.Role a.1.Term a.1.Vote a.1.Commit a.1.Base a.1.Count a.1.Sum aC O P Q R S U V X Y)) 12 ((0:Int),i.2.1,i.2.2.1,i.2.2.2.1,i.2.2.2.2.1,i.2.2.2.2.2.1,i.2.2.2.2.2.2.2.1,i.2.2.2.2.2.2.2.2.1,i.2.2.2.2.2.2.2.2.2.1,i.2.2.2.2.2.2.2.2.2.2.1,i.2.2.2.2.2.2.2.2.2.2.2,i.2.2.2.2.2.2.1) [(0,0),(1,1),(2,341),(3,2),(4,3),(5,4),(6,277),(7,278),(8,279),(9,280),(10,281),(11,10)] h ?_;rintro cO ⟨l,M,N,O,P,Q,R,S,U,V,X,Y⟩ h;dsimp only at h;rw[ZaL.eq_2]at h;(conv=>whnf);refine jN h fun cP=>jM [(7,pp 0),(10,aI d),(12,aI (@Nat.cast Int instNatCastInt (List.length (List.map Zab.c j)))),(13,pp 1),(15,aI f),(16,.osw 2 4),(17,aI l),(117,.bool cP)] (T12 M N a.1.Up a.1.Role a.1.Term a.1.Vote a.1.Commit a.1.Base a.1.Count a.1.Sum aC O P Q R S U V X Y) 12 (fun h=>qE (ii 12 [])) fun h=>?_;(conv=>whnf);left;refine bS h (fun h=>?_) fun h=>?_
     ·(conv=>whnf);refine jN h fun⟨c1,c2,c3,c4,c5,c6,c7,c8,c9,cA,cC⟩=>jM [(7,pp 0),(10,aI d),(12,aI (@Nat.cast Int instNatCastInt (List.length (List.map Zab.c j)))),(13,pp 1),(15,aI f),(16,.osw 2 4),(17,aI l)] (T12 c1 c2 a.1.Up a.1.Role a.1.Term a.1.Vote a.1.Commit a.1.Base a.1.Count a.1.Sum aC c3 c4 c5 c6 c7 c8 c9 cA cC) 12 (fun h=>?_) fun h=>?_
      ·(conv=>whnf);left;(conv=>whnf);refine gX h fun h=>?_;(conv=>whnf);refine oB h fun d1 h=>?_;(conv=>whnf);refine oB h fun d2 h=>?_;(conv=>whnf);left;refine bS h (fun h=>?_) fun h=>?_
       ·(conv=>whnf);refine gX h fun h=>?_;(conv=>whnf);refine oB h fun d3 h=>?_;(conv=>whnf);refine oB h fun d4 h=>?_;(conv=>whnf);left;(conv=>whnf);exact cG [0,3,4,5,6,7,8,9,10,11] h ZaI fun d5 h=>qE (ii 6 [(6,470),(7,471),(8,472),(9,473),(10,474),(11,11)])
       exact qE (ii 12 [])
      exact rE (cO,(IntKind.wrap IntKind.i64 (l+(1:Int))),c1,c2,c3,c4,c5,c6,c7,c8,c9,cA,cC) (ii 12 []) h
     exact qE [(0,0),(1,1),(2,3),(3,4),(4,5),(5,6),(6,7),(7,8),(8,9),(9,10),(10,11)]
    (conv=>whnf);refine cG [0,2,3,4,5,6,7,8,9,10] h ZcD fun cQ h=>?_;(conv=>whnf);left;(conv=>whnf);refine jN h fun cS=>jM [(7,pp 0),(10,aI d),(12,aI (@Nat.cast Int instNatCastInt (List.length (List.map Zab.c j)))),(13,pp 1),(15,aI f),(156,.bool cS)] (T7 bP bQ a.1.Up a.1.Role a.1.Term a.1.Vote a.1.Commit a.1.Base a.1.Count a.1.Sum cQ.2.2 bR bU bV bW bX bY bZ c0) 11 (fun h=>?_) fun h=>?_
    ·(conv=>whnf);left;refine bS h (fun h=>?_) fun h=>?_
     ·(conv=>whnf);refine bS h (fun h=>qE (ii 11 [])) fun h=>?_;(conv=>whnf);exact cG [0,2,3,4,5,6,7,8,9,10] h Za5 fun d6 h=>qE (ii 11 [])
     (conv=>whnf);exact cG [0,2,3,4,5,6,7,8,9,10] h Za5 fun d7 h=>qE (ii 11 [])
    (conv=>whnf);left;refine bS h (fun h=>?_) fun h=>?_
    ·cases h;cases k31;cases k19;exact rfl
    exact qE (ii 11 [])
   exact rE (cK,(IntKind.wrap IntKind.i64 (f+(1:Int))),bD,bE,bG,bH,bI,bJ,bK,bL,bM,bN,bO) (ii 11 []) h
  exact qE []
 exact qR
end Go.T
