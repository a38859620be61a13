import Derived.Test.YtjpmdkgonlmddaaGreatDoorCertE
set_option linter.unusedVariables false
set_option maxRecDepth 200000
set_option maxHeartbeats 4000000
namespace Go.T
open Go Go.Ab Go.Proofs
variable {ml:Gv}{F:Nat}
theorem Zhd{a c i gs j tb l k n o p m r}(h:ZcW F a c i gs j tb l k n o p m=some r):FZ ml 63 (T0 c i gs j tb l k n o p m) [pp 0,.agg (Zau.c a)] (aI r.1) (T0 c i r.2 j tb l k n o p m):=by
 refine fG Tryz.func63 ?_
 unfold ZcW at h
 (conv=>whnf);left;obtain⟨b,hy,h⟩:=ZaB h;rcases b with b|b
 ·replace h:=ZdL h;(conv=>whnf);refine cg [0,1,2,3,4,5,6,7,8,9] (ZbD hy) ?_;exact qG (ii 10 [])
 replace h:=ZdK h;(conv=>whnf);refine cg [0,1,2,3,4,5,6,7,8,9] (ZbC hy) ?_;(conv=>whnf);left;refine bS h (fun h=>?_) fun h=>?_
 ·(conv=>whnf);obtain⟨hg,h⟩:=isS_e h;cases h;refine gF 1 202 b.2.1 b.2.2.1 (@Sum.inr group_nodeD group_nodeU (group_nodeU.mk b.2.2.2.2.2.2.2.2.1 b.2.2.2.2.2.2.2.2.2.1 b.2.2.2.2.2.2.1 b.2.2.2.2.2.2.2.2.2.2.1 b.2.2.2.2.2.2.2.2.2.2.2.1 b.2.2.2.2.2.2.2.2.2.2.2.2 b.2.2.2.2.2.2.2.1 b.2.2.2.1 b.2.2.2.2.1 b.2.2.2.2.2.1)) [202,203,205,206,204,207] ?_;exact gI (ii 10 [])
 (conv=>whnf);refine cH [202,203,204,205,206,207] h ZkF fun s h=>?_;(conv=>whnf);left;(conv=>whnf);refine cR h (fun h=>Zat (ZjA h) rfl) fun d h=>?_;(conv=>whnf);left;(conv=>whnf);refine aX ?_;(conv=>whnf);refine cG [204,207,203,205,206] h Zdy fun q h=>?_;(conv=>whnf);refine aX ?_;(conv=>whnf);left;refine bS h (fun h=>?_) fun h=>?_
 ·(conv=>whnf);refine cG [202,203,204,205,1189,207] h ZbL fun f h=>?_;(conv=>whnf);obtain⟨hg,h⟩:=isS_e h;cases h;refine gF 1 202 b.2.1 b.2.2.1 (@Sum.inl group_nodeD group_nodeU (group_nodeD.mk f.2.2.2.2.2 [] f.2.2.2.2.1 f.2.1 f.2.2.1 f.2.2.2.1)) [202,203,205,1286] ?_;exact gI (ii 10 [])
 (conv=>whnf);refine cG [204,207,203,205,1189] h ZdP fun t h=>?_;(conv=>whnf);refine cG [204,207,203,205,1381] h ZdQ fun e h=>?_;(conv=>whnf);left;refine bS h (fun h=>?_) fun h=>?_
 ·(conv=>whnf);refine cG [202,203,204,205,1701,207] h ZbL fun g h=>?_;(conv=>whnf);obtain⟨hg,h⟩:=isS_e h;cases h;refine gF 1 202 b.2.1 b.2.2.1 (@Sum.inl group_nodeD group_nodeU (group_nodeD.mk g.2.2.2.2.2 [] g.2.2.2.2.1 g.2.1 g.2.2.1 g.2.2.2.1)) [202,203,205,1798] ?_;exact gI (ii 10 [])
 (conv=>whnf);obtain⟨hg,h⟩:=isS_e h;cases h;refine gF 1 202 b.2.1 b.2.2.1 (@Sum.inr group_nodeD group_nodeU (group_nodeU.mk e.2.2.2.2.2.1 e.2.2.2.2.2.2 e.2.2.2.2.1 e.2.1 e.2.2.1 e.2.2.2.1 q.2.1 (Zae.mk d.1 d.2.1 d.2.2.1 d.2.2.2.1 d.2.2.2.2.1 d.2.2.2.2.2.1 (Zai.mk d.2.2.2.2.2.2.1 d.2.2.2.2.2.2.2.1 d.2.2.2.2.2.2.2.2.1) d.2.2.2.2.2.2.2.2.2.1 d.2.2.2.2.2.2.2.2.2.2.1 d.2.2.2.2.2.2.2.2.2.2.2.1 d.2.2.2.2.2.2.2.2.2.2.2.2.1 d.2.2.2.2.2.2.2.2.2.2.2.2.2.2.1 d.2.2.2.2.2.2.2.2.2.2.2.2.2.2.2.1 d.2.2.2.2.2.2.2.2.2.2.2.2.2.2.2.2) b.2.2.2.2.1 b.2.2.2.2.2.1)) [202,203,205,1701,204,207] ?_;exact gI (ii 10 [])
theorem Za8{a c b gs d tb l e f g i m r}(h:ZaO F a c b gs d tb l e f g i m=some r):FZ ml 18 (T0 c b gs d tb l e f g i m) [pp 0,.agg (Zau.c a)] (aI r.1) (T11 r.2.1 r.2.2.1 r.2.2.2.1 r.2.2.2.2.1 r.2.2.2.2.2.1 r.2.2.2.2.2.2.1 r.2.2.2.2.2.2.2.1 r.2.2.2.2.2.2.2.2.1 r.2.2.2.2.2.2.2.2.2.1 r.2.2.2.2.2.2.2.2.2.2.1 r.2.2.2.2.2.2.2.2.2.2.2):=by
 refine fG Tryz.func18 ?_
 unfold ZaO at h
 (conv=>whnf);left;(conv=>whnf);left;(conv=>whnf);left;(conv=>whnf);refine cR h ZkG fun j h=>?_;(conv=>whnf);refine aX ?_;(conv=>whnf);left;refine bS h (fun h=>?_) fun h=>?_
 ·(conv=>whnf);refine aX ?_;(conv=>whnf);left;(conv=>whnf);exact cG [0,1,2,3,4,5,6,7,8,9] h Zhc fun k h=>qG (ii 10 [(10,618),(11,619),(12,620),(13,621),(14,622)])
 (conv=>whnf);refine bS h (fun h=>?_) fun h=>?_
 ·(conv=>whnf);refine aX ?_;(conv=>whnf);left;(conv=>whnf);exact cG [0,1,2,3,4,5,6,7,8,9] h Zgt fun n h=>qG (ii 10 [(10,618),(11,619),(12,620),(13,621),(14,622)])
 (conv=>whnf);refine bS h (fun h=>?_) fun h=>?_
 ·(conv=>whnf);refine aX ?_;(conv=>whnf);left;(conv=>whnf);exact cG [0,1,2,3,4,5,6,7,8,9] h Zhg fun o h=>qG (ii 4 [(8,8),(9,9),(10,4),(11,5),(12,6),(13,7),(14,618)])
 (conv=>whnf);refine bS h (fun h=>?_) fun h=>?_
 ·(conv=>whnf);refine aX ?_;(conv=>whnf);left;(conv=>whnf);exact cG [0,1,2,3,4,5,6,7,8,9] h ZgC fun p h=>qG (ii 4 [(8,8),(9,9),(10,4),(11,5),(12,6),(13,7),(14,618)])
 (conv=>whnf);refine bS h (fun h=>?_) fun h=>?_
 ·(conv=>whnf);refine aX ?_;(conv=>whnf);left;(conv=>whnf);exact cG [0,1,2,3,4,5,6,7,8,9] h Zgs fun q h=>qG (ii 10 [(10,618),(11,619),(12,620),(13,621),(14,622)])
 (conv=>whnf);refine bS h (fun h=>?_) fun h=>?_
 ·(conv=>whnf);refine aX ?_;(conv=>whnf);left;(conv=>whnf);exact cG [0,1,2,3,4,5,6,7,8,9] h ZgT fun s h=>qG (ii 4 [(9,9),(10,4),(11,5),(12,6),(13,7),(14,8)])
 (conv=>whnf);refine bS h (fun h=>?_) fun h=>?_
 ·(conv=>whnf);refine aX ?_;(conv=>whnf);left;(conv=>whnf);exact cG [0,1,2,3,4,5,6,7,8,9] h Zgr fun t h=>qG (ii 4 [(9,9),(10,4),(11,5),(12,6),(13,7),(14,8)])
 (conv=>whnf);refine bS h (fun h=>?_) fun h=>?_
 ·(conv=>whnf);refine aX ?_;(conv=>whnf);left;(conv=>whnf);exact cG [0,1,2,3,4,5,6,7,8,9] h Zht fun u h=>qG (ii 4 [(9,9),(10,4),(11,5),(12,6),(13,7),(14,8)])
 (conv=>whnf);refine bS h (fun h=>?_) fun h=>?_
 ·(conv=>whnf);refine aX ?_;(conv=>whnf);left;(conv=>whnf);exact cG [0,1,2,3,4,5,6,7,8,9] h Zhf fun v h=>qG (ii 4 [(9,9),(10,4),(11,5),(12,6),(13,7),(14,8)])
 (conv=>whnf);refine bS h (fun h=>?_) fun h=>?_
 ·(conv=>whnf);refine aX ?_;(conv=>whnf);left;(conv=>whnf);exact cG [0,1,2,3,4,5,6,7,8,9] h Zhd fun w h=>qG (ii 4 [(9,9),(10,4),(11,5),(12,6),(13,7),(14,8)])
 exact qG (ii 4 [(9,9),(10,4),(11,5),(12,6),(13,7),(14,8)])
theorem ZcC{id c b gs d tb l e f i j m r}(h:Zbs F id c b gs d tb l e f i j m=some r):FZ ml 19 (T0 c b gs d tb l e f i j m) [pp 0,aI id] (.tup [.agg (ZfW.c r.1),aI r.2.1]) (T0 c b r.2.2 d tb l e f i j m):=by
 refine fG Tryz.func19 ?_
 unfold Zbs at h
 (conv=>whnf);left;(conv=>whnf);left;(conv=>whnf);refine aX ?_;(conv=>whnf);refine gl3 h (fun hm h=>?_) (fun k hm h=>?_) (fun n hm h=>?_)
 ·refine Zia (ek:=(fun(a:Int)=>(AV.int IntKind.i64 a))) (gN:=group_node.g) gs id (.con (.pointer none)) rfl rfl (ZcB Tryz.underlying3) hm ⟨96,_,by kernel_rfl,by kernel_rfl,.refl _⟩ ?_;exact qG (ii 10 [])
 ·refine Ze7 (ek:=(fun(a:Int)=>(AV.int IntKind.i64 a))) (gN:=group_node.g) gs id _ rfl rfl (ZcB Tryz.underlying3) hm _ rfl rfl ?_;(conv=>whnf);left;(conv=>whnf);refine aX ?_;(conv=>whnf);obtain⟨hg,h⟩:=isS_e h;refine Zh9 (ek:=(fun(a:Int)=>(AV.int IntKind.i64 a))) (gN:=group_node.g) gs id id rfl rfl (ZcB Tryz.underlying3) hg ?_;(conv=>whnf);left;(conv=>whnf);left;(conv=>whnf);obtain⟨hg,h⟩:=isS_e h;cases h;refine gF 1 352 gs id (@Sum.inl group_nodeD group_nodeU k) [352,353,354,355] ?_;exact gI (ii 10 [])
 refine Ze7 (ek:=(fun(a:Int)=>(AV.int IntKind.i64 a))) (gN:=group_node.g) gs id _ rfl rfl (ZcB Tryz.underlying3) hm _ rfl rfl ?_;(conv=>whnf);left;(conv=>whnf);refine aX ?_;(conv=>whnf);obtain⟨hg,h⟩:=isS_e h;refine Zh9 (ek:=(fun(a:Int)=>(AV.int IntKind.i64 a))) (gN:=group_node.g) gs id id rfl rfl (ZcB Tryz.underlying3) hg ?_;(conv=>whnf);left;(conv=>whnf);left;(conv=>whnf);left;(conv=>whnf);refine aX ?_;(conv=>whnf);obtain⟨hg,h⟩:=isS_e h;cases h;refine gF 1 352 gs id (@Sum.inr group_nodeD group_nodeU n) [352,353,354,355,356,357] ?_;exact gI (ii 10 [])
theorem Zd0{s r}(h:Za0 F s=some r):FZ ml 44 [(0,.rows true (List.map Zab.c s))] [.osw 0 2] (.osw 1 2) [(0,.rows true (List.map Zab.c s)),(1,.rows true (List.map Zab.c r))]:=by
 unfold Za0 at h
 obtain⟨hg,h⟩:=grd_e h
 cases h
 refine Zfs 2000 Tryz.func44 rfl (by kernel_rfl) mixed (by show 1≤8;decide) (by show 1≤W;decide) rfl ?_
 refine oL ?_
 refine And.intro (fun hp=>?_) ?_
 ·conv=>whnf
  exact ZeK [(0,0),(1,128)] rfl (by rw[hp];rfl) rfl
 refine oL ?_
 refine And.intro (ZaC.map (fun _=>rfl)) ?_
 refine And.intro ZaC.nil ?_
 refine And.intro (show 0+(List.map Zab.c s).length≤LIM by simpa using hg) ?_
 conv=>whnf
 exact gI [(0,0),(1,192)]
theorem Zbi{c a gs b tb l d e f g m r}(h:ZaL F c a gs b tb l d e f g m=some r):FZ ml 20 (T0 c a gs b tb l d e f g m) [pp 0] (.osw 10 2) (T0 c a gs b tb l d e f g m++[(10,rT Zab.c r)]):=by
 refine fG Tryz.func20 ?_
 unfold ZaL at h
 (conv=>whnf);left;(conv=>whnf);exact cG [4] h Zd0 fun i h=>qG (ii 10 [(10,257)])
theorem Zid{r}(h:ZeC F=some r):FZ ml 9 [] [] (.bool r) []:=by
 refine fA Tryz.func9 ?_
 unfold ZeC at h
 (conv=>whnf);left;(conv=>whnf);left;obtain⟨a,hy,h⟩:=ZaB h;rcases a with a|a
 ·replace h:=ZdL h;refine⟨_,_,(ZdD (cons2 (congrArg AV.sl rQ) rfl) (Zat (ZeF hy) rfl)),Or.inr ⟨[64],rfl,?_⟩⟩;(conv=>whnf);left;obtain⟨D,hy,h⟩:=ZaB h;rcases D with D|D
  ·replace h:=ZdL h;refine⟨_,_,(Zkz (WkL.cons Wk.esl WkL.nil) (Zat (ZeF hy) rfl)),Or.inr ⟨[],rfl,?_⟩⟩;exact qR
  replace h:=ZdK h;refine⟨_,_,(Zkz (WkL.cons Wk.esl WkL.nil) (ZeE hy)),Or.inr ⟨[],rfl,?_⟩⟩;exact qR
 replace h:=ZdK h;refine⟨_,_,(ZdD (cons2 (congrArg AV.sl rQ) rfl) (ZeE hy)),Or.inr ⟨[64],rfl,?_⟩⟩;(conv=>whnf);left;obtain⟨E,hy,h⟩:=ZaB h;rcases E with E|E
 ·replace h:=ZdL h;refine⟨_,_,(Zkz (WkL.cons Wk.esl WkL.nil) (Zat (ZeF hy) rfl)),Or.inr ⟨[],rfl,?_⟩⟩;(conv=>whnf);refine jN h fun G=>jM [(1,pp 0),(27,.bool G)] (T0 a.2.1 a.2.2.1 a.2.2.2.1 a.2.2.2.2.1 a.2.2.2.2.2.1 a.2.2.2.2.2.2.1 a.2.2.2.2.2.2.2.1 a.2.2.2.2.2.2.2.2.1 a.2.2.2.2.2.2.2.2.2.1 a.2.2.2.2.2.2.2.2.2.2.1 a.2.2.2.2.2.2.2.2.2.2.2) 10 (fun h=>qE [(0,96),(1,97),(2,98),(3,99),(4,100),(5,101),(6,102),(7,103),(8,104),(9,105)]) fun h=>?_;(conv=>whnf);left;refine bS h (fun h=>qR) fun h=>?_;(conv=>whnf);refine jN h fun⟨H,I,J,K,L,M,N,O,P,Q,R⟩=>jM [(1,pp 0)] (T0 H I J K L M N O P Q R) 10 (fun h=>?_) fun h=>?_
  ·(conv=>whnf);left;(conv=>whnf);refine lI (fun n' ⟨d,f,g,i,j,k,l,m,n,o,p,q⟩=>Zdo F n' d f g i j k l m n o p q) (fun⟨d,f,g,i,j,k,l,m,n,o,p,q⟩=>[(1,pp 0),(5,aI d)]) (fun⟨d,f,g,i,j,k,l,m,n,o,p,q⟩=>(T0 f g i j k l m n o p q)) 10 ((0:Int),a.2.1,a.2.2.1,a.2.2.2.1,a.2.2.2.2.1,a.2.2.2.2.2.1,a.2.2.2.2.2.2.1,a.2.2.2.2.2.2.2.1,a.2.2.2.2.2.2.2.2.1,a.2.2.2.2.2.2.2.2.2.1,a.2.2.2.2.2.2.2.2.2.2.1,a.2.2.2.2.2.2.2.2.2.2.2) (ii 10 []) h ?_;rintro S ⟨d,f,g,i,j,k,l,m,n,o,p,q⟩ h;dsimp only at h;rw[Zdo.eq_2]at h;(conv=>whnf);left;refine bS h (fun h=>?_) fun h=>?_
   ·(conv=>whnf);left;(conv=>whnf);left;(conv=>whnf);refine cG [0,1,2,3,4,5,6,7,8,9] h Za8 fun b h=>?_;exact rE (S,(IntKind.wrap IntKind.i64 (d+(1:Int))),b.2.1,b.2.2.1,b.2.2.2.1,b.2.2.2.2.1,b.2.2.2.2.2.1,b.2.2.2.2.2.2.2.1,b.2.2.2.2.2.2.2.2.1,b.2.2.2.2.2.2.2.2.2.1,b.2.2.2.2.2.2.2.2.2.2.1,b.2.2.2.2.2.2.2.2.2.2.2,b.2.2.2.2.2.2.1) (ii 4 [(4,148),(5,149),(6,150),(7,151),(8,152),(9,9)]) h
   exact qE (ii 10 [])
  (conv=>whnf);left;(conv=>whnf);refine cG [0,1,2,3,4,5,6,7,8,9] h Za8 fun a7 h=>?_;(conv=>whnf);refine cG [0,1,2,3,84,85,86,87,88,9] h ZcC fun a8 h=>?_;(conv=>whnf);left;(conv=>whnf);left;refine bS h (fun h=>?_) fun h=>?_
  ·(conv=>whnf);refine bS h (fun h=>?_) fun h=>?_
   ·(conv=>whnf);refine bS h (fun h=>?_) fun h=>?_
    ·(conv=>whnf);refine bS h (fun h=>?_) fun h=>?_
     ·(conv=>whnf);refine bS h (fun h=>?_) fun h=>?_
      ·(conv=>whnf);refine bS h (fun h=>?_) fun h=>?_
       ·(conv=>whnf);refine cG [0,1,2,3,84,85,86,87,88,9] h Zbi fun a9 h=>?_;(conv=>whnf);refine bS h (fun h=>?_) fun h=>?_
        ·(conv=>whnf);refine cG [0,1,2,3,84,85,86,87,88,9] h Zbi fun aA h=>?_;(conv=>whnf);refine aX ?_;(conv=>whnf);refine oB h fun aB h=>?_;(conv=>whnf);refine oB h fun aC h=>?_;(conv=>whnf);left;(conv=>whnf);refine aX ?_;(conv=>whnf);refine bS h (fun h=>?_) fun h=>?_
         ·(conv=>whnf);left;(conv=>whnf);exact cG [0,1,2,3,84,85,86,87,88,9] h Za8 fun aD h=>qR
         exact qR
        exact qR
       exact qR
      exact qR
     exact qR
    exact qR
   exact qR
  exact qR
 replace h:=ZdK h;refine⟨_,_,(Zkz (WkL.cons Wk.esl WkL.nil) (ZeE hy)),Or.inr ⟨[],rfl,?_⟩⟩;(conv=>whnf);refine jN h fun T=>jM [(1,pp 0),(27,.bool T)] (T0 a.2.1 a.2.2.1 a.2.2.2.1 a.2.2.2.2.1 a.2.2.2.2.2.1 a.2.2.2.2.2.2.1 a.2.2.2.2.2.2.2.1 a.2.2.2.2.2.2.2.2.1 a.2.2.2.2.2.2.2.2.2.1 a.2.2.2.2.2.2.2.2.2.2.1 a.2.2.2.2.2.2.2.2.2.2.2) 10 (fun h=>qE [(0,96),(1,97),(2,98),(3,99),(4,100),(5,101),(6,102),(7,103),(8,104),(9,105)]) fun h=>?_;(conv=>whnf);left;refine bS h (fun h=>qR) fun h=>?_;(conv=>whnf);refine jN h fun⟨U,V,X,Y,Z,a0,a1,a2,a3,a4,a5⟩=>jM [(1,pp 0)] (T0 U V X Y Z a0 a1 a2 a3 a4 a5) 10 (fun h=>?_) fun h=>?_
 ·(conv=>whnf);left;(conv=>whnf);refine lI (fun n' ⟨e,s,t,u,v,w,x,y,z,A,B,C⟩=>Zdn F n' e s t u v w x y z A B C) (fun⟨e,s,t,u,v,w,x,y,z,A,B,C⟩=>[(1,pp 0),(5,aI e)]) (fun⟨e,s,t,u,v,w,x,y,z,A,B,C⟩=>(T0 s t u v w x y z A B C)) 10 ((0:Int),a.2.1,a.2.2.1,a.2.2.2.1,a.2.2.2.2.1,a.2.2.2.2.2.1,a.2.2.2.2.2.2.1,a.2.2.2.2.2.2.2.1,a.2.2.2.2.2.2.2.2.1,a.2.2.2.2.2.2.2.2.2.1,a.2.2.2.2.2.2.2.2.2.2.1,a.2.2.2.2.2.2.2.2.2.2.2) (ii 10 []) h ?_;rintro a6 ⟨e,s,t,u,v,w,x,y,z,A,B,C⟩ h;dsimp only at h;rw[Zdn.eq_2]at h;(conv=>whnf);left;refine bS h (fun h=>?_) fun h=>?_
  ·(conv=>whnf);left;(conv=>whnf);left;(conv=>whnf);refine cG [0,1,2,3,4,5,6,7,8,9] h Za8 fun c h=>?_;exact rE (a6,(IntKind.wrap IntKind.i64 (e+(1:Int))),c.2.1,c.2.2.1,c.2.2.2.1,c.2.2.2.2.1,c.2.2.2.2.2.1,c.2.2.2.2.2.2.2.1,c.2.2.2.2.2.2.2.2.1,c.2.2.2.2.2.2.2.2.2.1,c.2.2.2.2.2.2.2.2.2.2.1,c.2.2.2.2.2.2.2.2.2.2.2,c.2.2.2.2.2.2.1) (ii 4 [(4,148),(5,149),(6,150),(7,151),(8,152),(9,9)]) h
  exact qE (ii 10 [])
 (conv=>whnf);left;(conv=>whnf);refine cG [0,1,2,3,4,5,6,7,8,9] h Za8 fun aF h=>?_;(conv=>whnf);refine cG [0,1,2,3,84,85,86,87,88,9] h ZcC fun aG h=>?_;(conv=>whnf);left;(conv=>whnf);left;refine bS h (fun h=>?_) fun h=>?_
 ·(conv=>whnf);refine bS h (fun h=>?_) fun h=>?_
  ·(conv=>whnf);refine bS h (fun h=>?_) fun h=>?_
   ·(conv=>whnf);refine bS h (fun h=>?_) fun h=>?_
    ·(conv=>whnf);refine bS h (fun h=>?_) fun h=>?_
     ·(conv=>whnf);refine bS h (fun h=>?_) fun h=>?_
      ·(conv=>whnf);refine cG [0,1,2,3,84,85,86,87,88,9] h Zbi fun aH h=>?_;(conv=>whnf);refine bS h (fun h=>?_) fun h=>?_
       ·(conv=>whnf);refine cG [0,1,2,3,84,85,86,87,88,9] h Zbi fun aJ h=>?_;(conv=>whnf);refine aX ?_;(conv=>whnf);refine oB h fun aK h=>?_;(conv=>whnf);refine oB h fun aL h=>?_;(conv=>whnf);left;(conv=>whnf);refine aX ?_;(conv=>whnf);refine bS h (fun h=>?_) fun h=>?_
        ·(conv=>whnf);left;(conv=>whnf);exact cG [0,1,2,3,84,85,86,87,88,9] h Za8 fun aM h=>qR
        exact qR
       exact qR
      exact qR
     exact qR
    exact qR
   exact qR
  exact qR
 exact qR
theorem Zed{s r}(h:Za3 F s=some r):FZ ml 64 [(0,.rows true (List.map Zac.c s))] [.osw 0 4] (.osw 1 4) [(0,.rows true (List.map Zac.c s)),(1,.rows true (List.map Zac.c r))]:=by
 unfold Za3 at h
 obtain⟨hg,h⟩:=grd_e h
 cases h
 refine Zfs 2000 Tryz.func64 rfl (by kernel_rfl) mixed (by show 1≤8;decide) (by show 1≤W;decide) rfl ?_
 refine oL ?_
 refine And.intro (fun hp=>?_) ?_
 ·conv=>whnf
  exact ZeK [(0,0),(1,128)] rfl (by rw[hp];rfl) rfl
 refine oL ?_
 refine And.intro (ZaC.map (fun _=>rfl)) ?_
 refine And.intro ZaC.nil ?_
 refine And.intro (show 0+(List.map Zac.c s).length≤LIM by simpa using hg) ?_
 conv=>whnf
 exact gI [(0,0),(1,192)]
theorem Zha{c l m r}(h:ZdS F c l m=some r):FZ ml 45 (T7 c l m) [pp 0] (.osw 3 4) (T7 c l m++[(3,rT Zac.c r)]):=by
 refine fG Tryz.func45 ?_
 unfold ZdS at h
 (conv=>whnf);left;(conv=>whnf);exact cG [1] h Zed fun a h=>qG [(0,0),(1,1),(2,2),(3,257)]
theorem Zdk{c a gs b tb l d e f g m r}(h:Zbt F c a gs b tb l d e f g m=some r):FZ ml 21 (T0 c a gs b tb l d e f g m) [pp 0] (.osw 10 4) (T0 c a gs b tb l d e f g m++[(10,rT Zac.c r)]):=by
 refine fG Tryz.func21 ?_
 unfold Zbt at h
 (conv=>whnf);left;(conv=>whnf);exact cG [2,8,9] h Zha fun i h=>qG (ii 10 [(10,259)])
theorem ZhO{a c b gs d tb l e f g i m r}(h:Zdu F a c b gs d tb l e f g i m=some r):FZ ml 17 (T0 c b gs d tb l e f g i m) [pp 0,.agg (Zau.c a)] (.agg (Zau.c r)) (T0 c b gs d tb l e f g i m):=by
 refine fG Tryz.func17 ?_
 unfold Zdu at h
 (conv=>whnf);left;(conv=>whnf);left;(conv=>whnf);refine cG [0,1,2,3,4,5,6,7,8,9] h Zdk fun j h=>?_;(conv=>whnf);refine jN h fun k=>jM [(3,pp 10),(4,pp 11),(5,.osw 12 4),(16,.bool k)] (T0 c b gs d tb l e f g i m++[(10,rF (Zau.c a)),(11,rF [aI 0,aI 0,aI 0,aI 0,aI 0,aI 0,aI 0,aI 0,.bool false,.str [],aI 0,aI 0,aI 0,aI 0,.str [],.str [],.str [],.str [],aI 0,aI 0,aI 0,aI 0,aI 0,aI 0,aI 0,aI 0,.str []]),(12,rT Zac.c j)]) 13 (fun h=>qE (ii 10 [(10,32),(11,64),(12,138)])) fun h=>?_;(conv=>whnf);refine jN h fun n=>jM [(3,pp 10),(4,pp 11)] (T0 c b gs d tb l e f g i m++[(10,rF [aI a.Kind,aI a.Group,aI a.Node,aI a.Other,aI n,aI a.Draw,aI a.Keep,aI a.Torn,.bool a.Fail,.str a.Data,aI a.Time,aI a.Cmd.Kind,aI a.Cmd.Client,aI a.Cmd.Seq,.str a.Cmd.Name,.str a.Cmd.Expr,.str a.Cmd.Zone,.str a.Cmd.Token,aI a.Cmd.Time,aI a.Plan.Kind,aI a.Plan.Phase,aI a.Plan.Shard,aI a.Plan.Other,aI a.Plan.Group,aI a.Plan.Past,aI a.Plan.Epoch,.str a.Plan.Key]),(11,rF [aI 0,aI 0,aI 0,aI 0,aI 0,aI 0,aI 0,aI 0,.bool false,.str [],aI 0,aI 0,aI 0,aI 0,.str [],.str [],.str [],.str [],aI 0,aI 0,aI 0,aI 0,aI 0,aI 0,aI 0,aI 0,.str []])]) 12 (fun h=>?_) fun h=>?_
 ·(conv=>whnf);left;refine bS h (fun h=>?_) fun h=>?_
  ·(conv=>whnf);refine jN h fun o=>jM [(3,pp 10),(4,pp 11),(5,.osw 12 4),(6,aI o)] (T0 c b gs d tb l e f g i m++[(10,rF (Zau.c a)),(11,rF [aI 0,aI 0,aI 0,aI 0,aI 0,aI 0,aI 0,aI 0,.bool false,.str [],aI 0,aI 0,aI 0,aI 0,.str [],.str [],.str [],.str [],aI 0,aI 0,aI 0,aI 0,aI 0,aI 0,aI 0,aI 0,.str []]),(12,rT Zac.c j)]) 13 (fun h=>qE (ii 13 [])) fun h=>?_;(conv=>whnf);refine gS h fun h=>?_;(conv=>whnf);refine gS h fun h=>?_;(conv=>whnf);refine oB h fun p h=>?_;(conv=>whnf);refine oB h fun q h=>?_;exact qE (ii 12 [])
  exact qE (ii 12 [])
 exact qG (ii 10 [])
theorem Zhl{a b r}(h:ZcR F a b=some r):FZ ml 24 [] [sM Zac.c a,sM Zac.c b] (.bool r) []:=by
 refine fA Tryz.func24 ?_
 unfold ZcR at h
 (conv=>whnf);left;refine bS h (fun h=>qR) fun h=>?_;(conv=>whnf);refine jS h fun o0 vu=>jT [] [] 0 (fun h k0 e=>?_) fun h=>?_
 ·(conv=>whnf);left;(conv=>whnf);refine lI (fun n' x'=>ZbJ F a b n' x') (fun x'=>[(0,sM Zac.c a),(1,sM Zac.c b),(5,aI x')]) (fun x'=>[]) 0 (0:Int) [] h ?_;rintro d f h;rw[ZbJ.eq_2]at h;(conv=>whnf);left;refine bS h (fun h=>?_) fun h=>?_
  ·(conv=>whnf);left;(conv=>whnf);refine gX h fun h=>?_;(conv=>whnf);refine oB h fun g h=>?_;(conv=>whnf);refine gX h fun h=>?_;(conv=>whnf);refine oB h fun i h=>?_;(conv=>whnf);refine aX ?_;(conv=>whnf);refine aX ?_;(conv=>whnf);left;refine bS h (fun h=>?_) fun h=>?_
   ·cases h;cases k0;exact rfl
   exact rE (d,(IntKind.wrap IntKind.i64 (f+(1:Int)))) [] h
  exact qE []
 exact qR
theorem Zhk{a b r}(h:ZcQ F a b=some r):FZ ml 22 [] [sM Zab.c a,sM Zab.c b] (.bool r) []:=by
 refine fA Tryz.func22 ?_
 unfold ZcQ at h
 (conv=>whnf);left;refine bS h (fun h=>qR) fun h=>?_;(conv=>whnf);refine jS h fun o0 vu=>jT [] [] 0 (fun h k0 e=>?_) fun h=>?_
 ·(conv=>whnf);left;(conv=>whnf);refine lI (fun n' x'=>ZbI F a b n' x') (fun x'=>[(0,sM Zab.c a),(1,sM Zab.c b),(5,aI x')]) (fun x'=>[]) 0 (0:Int) [] h ?_;rintro d f h;rw[ZbI.eq_2]at h;(conv=>whnf);left;refine bS h (fun h=>?_) fun h=>?_
  ·(conv=>whnf);left;(conv=>whnf);refine gX h fun h=>?_;(conv=>whnf);refine oB h fun g h=>?_;(conv=>whnf);refine gX h fun h=>?_;(conv=>whnf);refine oB h fun i h=>?_;(conv=>whnf);refine aX ?_;(conv=>whnf);refine aX ?_;(conv=>whnf);left;refine bS h (fun h=>?_) fun h=>?_
   ·cases h;cases k0;exact rfl
   exact rE (d,(IntKind.wrap IntKind.i64 (f+(1:Int)))) [] h
  exact qE []
 exact qR
theorem ZeM{s r}(h:Zbn F s=some r):FZ ml 46 [(0,.rows true (List.map Zag.c s))] [.osw 0 2] (.osw 1 2) [(0,.rows true (List.map Zag.c s)),(1,.rows true (List.map Zag.c r))]:=by
 unfold Zbn at h
 obtain⟨hg,h⟩:=grd_e h
 cases h
 refine Zfs 2000 Tryz.func46 rfl (by kernel_rfl) mixed (by show 1≤8;decide) (by show 1≤W;decide) rfl ?_
 refine oL ?_
 refine And.intro (fun hp=>?_) ?_
 ·conv=>whnf
  exact ZeK [(0,0),(1,128)] rfl (by rw[hp];rfl) rfl
 refine oL ?_
 refine And.intro (ZaC.map (fun _=>rfl)) ?_
 refine And.intro ZaC.nil ?_
 refine And.intro (show 0+(List.map Zag.c s).length≤LIM by simpa using hg) ?_
 conv=>whnf
 exact gI [(0,0),(1,192)]
theorem ZeL{c a gs b tb l d e f g m r}(h:ZbM F c a gs b tb l d e f g m=some r):FZ ml 25 (T0 c a gs b tb l d e f g m) [pp 0] (.osw 10 2) (T0 c a gs b tb l d e f g m++[(10,rT Zag.c r)]):=by
 refine fG Tryz.func25 ?_
 unfold ZbM at h
 (conv=>whnf);left;(conv=>whnf);exact cG [7] h ZeM fun i h=>qG (ii 10 [(10,257)])
theorem ZgA{g i r}(h:ZbK F g i=some r):FZ ml 7 [] [sM cJ g,sM Zau.c i] (.bool r) []:=by
 refine fA Tryz.func7 ?_
 unfold ZbK at h
 (conv=>whnf);left;(conv=>whnf);refine cL h Zid fun bI h=>?_;(conv=>whnf);left;refine bS h (fun h=>qR) fun h=>?_;(conv=>whnf);left;obtain⟨b,hy,h⟩:=ZaB h;rcases b with b|b
 ·replace h:=ZdL h;refine⟨_,_,(Zat (ZeF hy) rfl),Or.inr ⟨[],rfl,?_⟩⟩;(conv=>whnf);left;obtain⟨R,hy,h⟩:=ZaB h;rcases R with R|R
  ·replace h:=ZdL h;refine⟨_,_,(Zat (ZeF hy) rfl),Or.inr ⟨[],rfl,?_⟩⟩;exact qR
  replace h:=ZdK h;(conv=>whnf);refine⟨_,_,(ZeE hy),Or.inr ⟨[],rfl,?_⟩⟩;exact qR
 replace h:=ZdK h;(conv=>whnf);refine⟨_,_,(ZeE hy),Or.inr ⟨[],rfl,?_⟩⟩;(conv=>whnf);left;obtain⟨d,hy,h⟩:=ZaB h;rcases d with d|d
 ·replace h:=ZdL h;refine⟨_,_,(Zat (ZeF hy) rfl),Or.inr ⟨[],rfl,?_⟩⟩;exact qR
 replace h:=ZdK h;(conv=>whnf);refine⟨_,_,(ZeE hy),Or.inr ⟨[],rfl,?_⟩⟩;(conv=>whnf);left;(conv=>whnf);left;(conv=>whnf);refine jS h fun o10 ⟨aJ,aK,aL,aM,aN,aO,aP,aQ,aR,aS,aT,aU,aV,aY,aZ,b0,b1,b2,b3,b4,b5,b6⟩=>jT [(5,pp 0),(7,pp 1)] (T2 aJ aK aL aM aN (aO) aP aQ aR aS aT aU (aV) aY aZ b0 b1 b2 b3 b4 b5 b6) 20 (fun h k10 e=>?_) fun h=>?_
 ·(conv=>whnf);left;(conv=>whnf);refine lI (fun n' ⟨f,v,w,j,k,x,y,z,A,B,C,D,l,m,n,o,p,q,s,E,G,t,u⟩=>ZaZ F g i n' f v w j k x y z A B C D l m n o p q s E G t u) (fun⟨f,v,w,j,k,x,y,z,A,B,C,D,l,m,n,o,p,q,s,E,G,t,u⟩=>[(0,sM cJ g),(1,sM Zau.c i),(5,pp 0),(7,pp 1),(9,aI f)]) (fun⟨f,v,w,j,k,x,y,z,A,B,C,D,l,m,n,o,p,q,s,E,G,t,u⟩=>(T2 v w j k x y z A B C D l m n o p q s E G t u)) 20 ((0:Int),b.2.1,b.2.2.1,d.2.1,d.2.2.1,b.2.2.2.1,b.2.2.2.2.1,b.2.2.2.2.2.1,b.2.2.2.2.2.2.1,b.2.2.2.2.2.2.2.1,b.2.2.2.2.2.2.2.2.1,b.2.2.2.2.2.2.2.2.2.1,d.2.2.2.1,d.2.2.2.2.1,d.2.2.2.2.2.1,d.2.2.2.2.2.2.1,d.2.2.2.2.2.2.2.1,d.2.2.2.2.2.2.2.2.1,d.2.2.2.2.2.2.2.2.2.1,b.2.2.2.2.2.2.2.2.2.2.1,b.2.2.2.2.2.2.2.2.2.2.2,d.2.2.2.2.2.2.2.2.2.2.1,d.2.2.2.2.2.2.2.2.2.2.2) [(0,160),(1,384),(2,161),(3,162),(4,163),(5,164),(6,165),(7,166),(8,167),(9,385),(10,386),(11,387),(12,388),(13,389),(14,390),(15,391),(16,168),(17,169),(18,392),(19,393)] h ?_;rintro b7 ⟨f,v,w,j,k,x,y,z,A,B,C,D,l,m,n,o,p,q,s,E,G,t,u⟩ h;dsimp only at h;rw[ZaZ.eq_2]at h;(conv=>whnf);refine jN h fun b8=>jM [(0,sM cJ g),(1,sM Zau.c i),(5,pp 0),(7,pp 1),(9,aI f),(48,.bool b8)] (T2 v w j k x y z A B C D l m n o p q s E G t u) 20 (fun h=>qE (ii 20 [])) fun h=>?_;(conv=>whnf);left;refine bS h (fun h=>?_) fun h=>?_
  ·(conv=>whnf);refine jS h fun o20 ⟨S,U,V,X,Y,Z,a0,a1,a2,a3,a4,a5,a6,a7,a8,a9,aA,aB,aC,aD,aF,aG⟩=>jT [(0,sM cJ g),(1,sM Zau.c i),(5,pp 0),(7,pp 1),(9,aI f)] (T2 S U V X Y (Z) a0 a1 a2 a3 a4 a5 (a6) a7 a8 a9 aA aB aC aD aF aG) 20 (fun h k20 e=>?_) fun h=>?_
   ·(conv=>whnf);left;(conv=>whnf);refine gX h fun h=>?_;(conv=>whnf);refine oB h fun bJ h=>?_;(conv=>whnf);refine cH [0,2,3,4,5,6,7,8,16,17] h ZhO fun b9 h=>?_;(conv=>whnf);left;(conv=>whnf);refine cG [0,2,3,4,5,6,7,8,16,17] h Za8 fun a h=>?_;(conv=>whnf);refine jN h fun bA=>jM [(0,sM cJ g),(1,sM Zau.c i),(5,pp 0),(7,pp 1),(9,aI f),(10,pp 2),(11,aI a.1),(69,.bool bA)] [(0,rF [sM cJ a.2.1,.mapo 3,pp 4,pp 5,.osw 6 2,.osw 7 1,.osw 8 1,.osw 9 2,.bool a.2.2.1]),(1,rF [sM cJ j,.mapo 10,pp 11,pp 12,.osw 13 2,.osw 14 1,.osw 15 1,.osw 16 2,.bool k]),(2,rF (Zau.c b9)),(3,AO.gmap (eG a.2.2.2.1) none),(4,rF [.osw 17 4,aI a.2.2.2.2.1,.mapo 18]),(5,.rows true [(@crowB a.2.2.2.2.2.1)]),(6,rT Zab.c a.2.2.2.2.2.2.2.1),(7,rT cJ a.2.2.2.2.2.2.2.2.1),(8,rT cU a.2.2.2.2.2.2.2.2.2.1),(9,rT Zag.c a.2.2.2.2.2.2.2.2.2.2.1),(10,AO.gmap (eG l) none),(11,rF [.osw 19 4,aI m,.mapo 20]),(12,.rows true [(@crowB n)]),(13,rT Zab.c o),(14,rT cJ p),(15,rT cU q),(16,rT Zag.c s),(17,rT Zac.c a.2.2.2.2.2.2.2.2.2.2.2),(18,mP a.2.2.2.2.2.2.1),(19,rT Zac.c t),(20,mP u)] 21 (fun h=>qE [(0,0),(1,1),(2,212),(3,2),(4,3),(5,4),(6,350),(7,351),(8,352),(9,353),(10,9),(11,10),(12,11),(13,12),(14,13),(15,14),(16,15),(17,354),(18,17),(19,18),(20,19)]) fun h=>?_;(conv=>whnf);refine jS h fun o22 ⟨H,I,aH,J,K,L,M,N,O,P,Q⟩=>jT [(0,sM cJ g),(1,sM Zau.c i),(5,pp 0),(7,pp 1),(9,aI f)] (T2 a.2.1 a.2.2.1 H I a.2.2.2.1 a.2.2.2.2.1 a.2.2.2.2.2.1 a.2.2.2.2.2.2.2.1 a.2.2.2.2.2.2.2.2.1 a.2.2.2.2.2.2.2.2.2.1 a.2.2.2.2.2.2.2.2.2.2.1 aH (J) K L M N O a.2.2.2.2.2.2.2.2.2.2.2 a.2.2.2.2.2.2.1 P Q) 20 (fun h k22 e=>?_) fun h=>?_
    ·(conv=>whnf);left;refine bS h (fun h=>?_) fun h=>?_
     ·(conv=>whnf);refine cG [1,10,11,12,13,14,15,16,19,20] h Za8 fun bK h=>?_;(conv=>whnf);left;refine bS h (fun h=>?_) fun h=>?_
      ·cases h;cases k22;cases k20;cases k10;exact rfl
      exact qE [(0,0),(1,1),(2,3),(3,4),(4,5),(5,6),(6,7),(7,8),(8,9),(9,10),(10,11),(11,12),(12,95),(13,96),(14,97),(15,98),(16,17),(17,18),(18,99),(19,20)]
     exact qE [(0,0),(1,1),(2,3),(3,4),(4,5),(5,6),(6,7),(7,8),(8,9),(9,10),(10,11),(11,12),(12,13),(13,14),(14,15),(15,16),(16,17),(17,18),(18,19),(19,20)]
    (conv=>whnf);refine cG [0,2,3,4,5,6,7,8,16,17] h Zdk fun bL h=>?_;(conv=>whnf);refine cG [1,9,10,11,12,13,14,15,18,19] h Zdk fun bM h=>?_;(conv=>whnf);left;(conv=>whnf);refine cL h Zhl fun bN h=>?_;(conv=>whnf);left;refine bS h (fun h=>?_) fun h=>?_
    ·cases h;cases k20;cases k10;exact rfl
    (conv=>whnf);refine jS h fun o23 ⟨bB,bC⟩=>jT [(0,sM cJ g),(1,sM Zau.c i),(5,pp 0),(7,pp 1),(9,aI f)] (T2 a.2.1 a.2.2.1 H I bB a.2.2.2.2.1 a.2.2.2.2.2.1 a.2.2.2.2.2.2.2.1 a.2.2.2.2.2.2.2.2.1 a.2.2.2.2.2.2.2.2.2.1 a.2.2.2.2.2.2.2.2.2.2.1 bC J K L M N O a.2.2.2.2.2.2.2.2.2.2.2 a.2.2.2.2.2.2.1 P Q) 20 (fun h k23 e=>?_) fun h=>?_
    ·(conv=>whnf);left;(conv=>whnf);refine lI (fun n' x'=>ZaY F g a H I J K L M N O P Q n' x'.1 x'.2.1 x'.2.2) (fun x'=>[(0,sM cJ g),(1,sM Zau.c i),(5,pp 0),(7,pp 1),(9,aI f),(12,aI x'.1)]) (fun x'=>(T2 a.2.1 a.2.2.1 H I x'.2.1 a.2.2.2.2.1 a.2.2.2.2.2.1 a.2.2.2.2.2.2.2.1 a.2.2.2.2.2.2.2.2.1 a.2.2.2.2.2.2.2.2.2.1 a.2.2.2.2.2.2.2.2.2.2.1 x'.2.2 J K L M N O a.2.2.2.2.2.2.2.2.2.2.2 a.2.2.2.2.2.2.1 P Q)) 20 ((0:Int),a.2.2.2.1,aH) (ii 20 []) h ?_;rintro bD ⟨bE,bO,bP⟩ h;dsimp only at h;rw[ZaY.eq_2]at h;(conv=>whnf);left;refine bS h (fun h=>?_) fun h=>?_
     ·(conv=>whnf);left;(conv=>whnf);refine gX h fun h=>?_;(conv=>whnf);refine oB h fun bQ h=>?_;(conv=>whnf);refine cG [0,2,3,4,5,6,7,8,16,17] h ZcC fun bG h=>?_;(conv=>whnf);left;(conv=>whnf);refine gX h fun h=>?_;(conv=>whnf);refine oB h fun bR h=>?_;(conv=>whnf);refine cG [1,9,10,11,12,13,14,15,18,19] h ZcC fun bH h=>?_;(conv=>whnf);left;(conv=>whnf);refine aX ?_;(conv=>whnf);left;refine bS h (fun h=>?_) fun h=>?_
      ·cases h;cases k23;cases k20;cases k10;exact rfl
      exact rE (bD,(IntKind.wrap IntKind.i64 (bE+(1:Int))),bG.2.2,bH.2.2) (ii 20 []) h
     exact qE (ii 20 [])
    exact qE (ii 20 [])
   exact rE (b7,(IntKind.wrap IntKind.i64 (f+(1:Int))),S,U,V,X,Y,Z,a0,a1,a2,a3,a4,a5,a6,a7,a8,a9,aA,aB,aC,aD,aF,aG) (ii 20 []) h
  exact qE (ii 20 [])
 (conv=>whnf);left;(conv=>whnf);refine cG [0,2,3,4,5,6,7,8,16,17] h Zbi fun bU h=>?_;(conv=>whnf);refine cG [1,9,10,11,12,13,14,15,18,19] h Zbi fun bV h=>?_;(conv=>whnf);left;(conv=>whnf);refine cL h Zhk fun bW h=>?_;(conv=>whnf);refine bS h (fun h=>?_) fun h=>?_
 ·(conv=>whnf);refine cG [0,2,3,4,5,6,7,8,16,17] h ZeL fun bX h=>?_;(conv=>whnf);exact cG [1,9,10,11,12,13,14,15,18,19] h ZeL fun bY h=>qR
 exact qR
end Go.T
