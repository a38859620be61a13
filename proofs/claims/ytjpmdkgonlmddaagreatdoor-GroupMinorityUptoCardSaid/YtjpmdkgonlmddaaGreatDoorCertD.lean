import Derived.Test.YtjpmdkgonlmddaaGreatDoorCertC
set_option linter.unusedVariables false
set_option maxRecDepth 200000
set_option maxHeartbeats 4000000
namespace Go.T
open Go Go.Ab Go.Proofs
variable {ml:Gv}{F:Nat}
theorem Zhz{f to_ r}(h:Zfs F f to_=some r):FZ ml 126 [] [.agg (Zad.c f),.agg (Zad.c to_)] (.osw 0 1) (T43 r):=by
 refine fG Tryz.func126 ?_
 unfold Zfs at h
 (conv=>whnf);left;(conv=>whnf);left;(conv=>whnf);refine jN h fun l=>jM [(2,pp 0),(3,pp 1),(5,.osw 2 1),(21,.bool l)] (T39 f++[(1,rF (Zad.c to_)),(2,rT (cSl cB) [])]) 3 (fun h=>?_) fun h=>?_
 ·(conv=>whnf);left;refine bS h (fun h=>?_) fun h=>?_
  ·cases h;exact eE [(0,32),(1,64),(2,128)]
  cases h;exact eE [(0,32),(1,64),(2,128)]
 (conv=>whnf);refine jN h fun i=>jM [(2,pp 0),(3,pp 1),(5,.osw 2 1)] (T39 f++[(1,rF (Zad.c to_)),(2,rT (cSl cB) i)]) 3 (fun h=>?_) fun h=>?_
 ·(conv=>whnf);left;refine bS h (fun h=>?_) fun h=>?_
  ·(conv=>whnf);left;(conv=>whnf);refine cL h ZdK fun w h=>?_;(conv=>whnf);left;(conv=>whnf);refine cL h ZdK fun x h=>?_;(conv=>whnf);left;(conv=>whnf);left;obtain⟨y,hy,h⟩:=ZaE h;refine⟨_,_,(ZdE (cons2 rfl (cons2 (YI AV.sl rQ) rfl)) (Ze8 hy)),Or.inr ⟨[227],rfl,?_⟩⟩;(conv=>whnf);left;(conv=>whnf);refine aX ?_;(conv=>whnf);refine aX ?_;(conv=>whnf);refine gS h fun h=>?_;(conv=>whnf);refine aX ?_;cases h;exact eE [(0,0),(1,1),(2,323)]
  exact qE [(0,0),(1,1),(2,2)]
 (conv=>whnf);left;(conv=>whnf);refine jN h fun m=>jM [(3,pp 0),(5,.osw 1 1),(6,pp 2),(55,.bool m)] (T39 to_++[(1,rT (cSl cB) i),(2,rF (Zag.c f.Trail))]) 3 (fun h=>qE [(0,1),(1,2),(2,67)]) fun h=>?_;(conv=>whnf);refine jN h fun⟨g,a,d,b⟩=>jM [(3,pp 0),(5,.osw 1 1),(6,pp 2)] (T32 to_ g a d b) 3 (fun h=>?_) fun h=>?_
 ·(conv=>whnf);left;refine bS h (fun h=>?_) fun h=>?_
  ·(conv=>whnf);left;(conv=>whnf);refine cL h ZdK fun z h=>?_;(conv=>whnf);left;(conv=>whnf);refine cL h ZdK fun A h=>?_;(conv=>whnf);left;(conv=>whnf);refine cL h Zix fun B h=>?_;(conv=>whnf);left;(conv=>whnf);left;obtain⟨C,hy,h⟩:=ZaE h;refine⟨_,_,(ZdE (cons2 rfl (cons2 (YI AV.sl rQ) rfl)) (Ze8 hy)),Or.inr ⟨[387],rfl,?_⟩⟩;(conv=>whnf);left;(conv=>whnf);refine aX ?_;(conv=>whnf);refine aX ?_;(conv=>whnf);refine gS h fun h=>?_;(conv=>whnf);refine aX ?_;(conv=>whnf);left;(conv=>whnf);refine cR h ZhA fun D h=>?_;cases h;exact eE [(0,0),(1,483),(2,2)]
  exact qE [(0,0),(1,1),(2,2)]
 (conv=>whnf);refine jN h fun e=>jM [(3,pp 0),(5,.osw 1 1),(6,pp 2),(7,aI e)] (T32 to_ g a d b) 3 (fun h=>?_) fun h=>?_
 ·(conv=>whnf);left;(conv=>whnf);refine lI (fun n' x'=>Zdh F to_ b n' x') (fun x'=>[(3,pp 0),(5,.osw 1 1),(6,pp 2),(7,aI x')]) (fun x'=>(T32 to_ g a d b)) 3 (0:Int) [(0,0),(1,1),(2,2)] h ?_;rintro n j h;rw[Zdh.eq_2]at h;(conv=>whnf);refine jN h fun o=>jM [(3,pp 0),(5,.osw 1 1),(6,pp 2),(7,aI j),(106,.bool o)] (T32 to_ g a d b) 3 (fun h=>?_) fun h=>?_
  ·(conv=>whnf);left;refine bS h (fun h=>?_) fun h=>?_
   ·(conv=>whnf);refine bS h (fun h=>?_) fun h=>?_
    ·(conv=>whnf);refine gX h fun h=>?_;(conv=>whnf);refine oB h fun E h=>?_;(conv=>whnf);refine gX h fun h=>?_;(conv=>whnf);refine oB h fun G h=>?_;exact qE [(0,0),(1,1),(2,2)]
    exact qE [(0,0),(1,1),(2,2)]
   exact qE [(0,0),(1,1),(2,2)]
  (conv=>whnf);left;refine bS h (fun h=>?_) fun h=>?_
  ·(conv=>whnf);left;exact rE (n,(IntKind.wrap IntKind.i64 (j+(1:Int)))) [(0,0),(1,1),(2,2)] h
  exact qE [(0,0),(1,1),(2,2)]
 (conv=>whnf);refine aX ?_;(conv=>whnf);refine gX h fun h=>?_;(conv=>whnf);refine gS h fun h=>?_;(conv=>whnf);refine gS h fun h=>?_;(conv=>whnf);refine jN h fun k=>jM [(3,pp 0),(5,.osw 1 1),(6,pp 2),(7,aI e)] (T32 to_ k a d b) 3 (fun h=>?_) fun h=>?_
 ·(conv=>whnf);left;(conv=>whnf);refine lI (fun n' x'=>Zdg F to_ a e n' x'.1 x'.2) (fun x'=>[(3,pp 0),(5,.osw 1 1),(6,pp 2),(7,aI e),(113,sM Zab.c (List.drop (Int.toNat e) to_.Trail.Entries)),(114,aI (@Nat.cast Int instNatCastInt (List.length (@cut (@List AV) (some (Operand.tmp 112)) none (List.map Zab.c to_.Trail.Entries) (Int.toNat e) (List.length (List.map Zab.c to_.Trail.Entries)))))),(115,aI x'.1)]) (fun x'=>(T32 to_ x'.2 a d b)) 3 ((0:Int),g) [(0,0),(1,1),(2,2)] h ?_;rintro p ⟨q,s⟩ h;dsimp only at h;rw[Zdg.eq_2]at h;(conv=>whnf);left;refine bS h (fun h=>?_) fun h=>?_
  ·(conv=>whnf);left;(conv=>whnf);refine gX h fun h=>?_;(conv=>whnf);refine oB h fun H h=>?_;(conv=>whnf);left;(conv=>whnf);left;(conv=>whnf);refine cL h ZdK fun I h=>?_;(conv=>whnf);left;(conv=>whnf);refine cL h ZdK fun J h=>?_;(conv=>whnf);left;(conv=>whnf);refine cL h Zix fun K h=>?_;(conv=>whnf);left;(conv=>whnf);left;obtain⟨t,hy,h⟩:=ZaE h;refine⟨_,_,(ZdE (cons2 rfl (cons2 (YI AV.sl rQ) rfl)) (Ze8 hy)),Or.inr ⟨[707],rfl,?_⟩⟩;(conv=>whnf);left;(conv=>whnf);refine aX ?_;(conv=>whnf);refine aX ?_;(conv=>whnf);refine gS h fun h=>?_;(conv=>whnf);refine aX ?_;exact rE (p,(IntKind.wrap IntKind.i64 (q+(1:Int))),(s++(t::[]))) [(0,0),(1,803),(2,2)] h
  exact qE [(0,0),(1,1),(2,2)]
 (conv=>whnf);refine jN h fun u=>jM [(5,.osw 0 1),(6,pp 1),(7,aI e),(152,.bool u)] (T43 k++[(1,rF [aI a,aI d,sM Zab.c b])]) 2 (fun h=>qE [(0,1),(1,2)]) fun h=>?_;(conv=>whnf);refine jN h fun v=>jM [(5,.osw 0 1)] (T43 v) 1 (fun h=>?_) fun h=>?_
 ·(conv=>whnf);left;refine bS h (fun h=>?_) fun h=>?_
  ·(conv=>whnf);left;(conv=>whnf);refine cL h ZdK fun L h=>?_;(conv=>whnf);left;(conv=>whnf);left;obtain⟨M,hy,h⟩:=ZaE h;refine⟨_,_,(ZdE (cons2 rfl (cons2 (YI AV.sl rQ) rfl)) (Ze8 hy)),Or.inr ⟨[194],rfl,?_⟩⟩;(conv=>whnf);left;(conv=>whnf);refine aX ?_;(conv=>whnf);refine aX ?_;(conv=>whnf);refine gS h fun h=>?_;cases h;exact eE [(0,290)]
  exact qE [(0,0)]
 exact qG [(0,0)]
theorem ZhR{rec c a b d fs l r}(h:Zcd F rec c a b d fs l=some r):FZ ml 127 (T21 c a b d fs l) [pp 0,sM cB rec] (aI r.1) (T17 r.2.1 r.2.2.1 r.2.2.2.1 r.2.2.2.2.1 r.2.2.2.2.2.1 r.2.2.2.2.2.2):=by
 refine fG Tryz.func127 ?_
 unfold Zcd at h
 (conv=>whnf);left;(conv=>whnf);left;(conv=>whnf);left;(conv=>whnf);refine cR h Zit fun e h=>?_;(conv=>whnf);left;refine bS h (fun h=>qG [(0,0),(1,1),(2,2),(4,3)]) fun h=>?_;(conv=>whnf);exact cG [1,2,3] h Zfn fun f h=>qG (ii 4 [(4,931)])
theorem Zdz{r_ rf c m n o fs l r}(h:Zb7 F r_ rf c m n o fs l=some r):FZ ml 83 (T14 rf c m n o fs l) [pp 0,.agg (Zad.c r_)] (aI r.1) (T29 r.2.1 r.2.2.1 r.2.2.2.1 r.2.2.2.2.1 r.2.2.2.2.2.1 r.2.2.2.2.2.2.1 r.2.2.2.2.2.2.2):=by
 refine fG Tryz.func83 ?_
 unfold Zb7 at h
 (conv=>whnf);left;(conv=>whnf);refine jN h fun q=>jM [(0,pp 0),(3,pp 5),(41,.bool q)] (T14 rf c m n o fs l++[(5,rF (Zad.c r_))]) 6 (fun h=>?_) fun h=>?_
 ·(conv=>whnf);left;(conv=>whnf);left;(conv=>whnf);refine cL h ZbQ fun z h=>?_;(conv=>whnf);refine bS h (fun h=>qE (ii 5 [(5,32)])) fun h=>?_;(conv=>whnf);refine bS h (fun h=>qE (ii 5 [(5,32)])) fun h=>?_;(conv=>whnf);left;(conv=>whnf);exact cL h Zgp fun A h=>qE (ii 5 [(5,32)])
 (conv=>whnf);left;refine bS h (fun h=>qG (ii 4 [(5,4)])) fun h=>?_;(conv=>whnf);left;(conv=>whnf);refine cR h (fun h=>Zav (Zhz h) rfl) fun p h=>?_;(conv=>whnf);refine aX ?_;(conv=>whnf);refine jS h fun o1 ⟨s,t,u,v,w,x⟩=>jT [(0,pp 0),(3,pp 5)] (T36 rf s (t) (u) (v) w r_ x) 7 (fun h k1 e=>?_) fun h=>?_
 ·(conv=>whnf);left;(conv=>whnf);refine lI (fun n' ⟨a,d,f,g,i,j,k⟩=>Zbj F rf p n' a d f g i j k) (fun⟨a,d,f,g,i,j,k⟩=>[(0,pp 0),(3,pp 5),(47,sM (cSl cB) p),(48,aI (@Nat.cast Int instNatCastInt (List.length (List.map (cSl cB) p)))),(49,aI a)]) (fun⟨a,d,f,g,i,j,k⟩=>(T36 rf d f g i j r_ k)) 7 ((0:Int),c,m,n,o,fs,l) (ii 4 [(5,5),(6,4)]) h ?_;rintro y ⟨a,d,f,g,i,j,k⟩ h;dsimp only at h;rw[Zbj.eq_2]at h;(conv=>whnf);left;refine bS h (fun h=>?_) fun h=>?_
  ·(conv=>whnf);left;(conv=>whnf);refine gX h fun h=>?_;(conv=>whnf);refine oB h fun B h=>?_;(conv=>whnf);refine cG [1,2,3,6] h ZhR fun b h=>?_;(conv=>whnf);left;refine bS h (fun h=>?_) fun h=>?_
   ·cases h;cases k1;exact gI (ii 5 [(5,299)])
   exact rE (y,(IntKind.wrap IntKind.i64 (a+(1:Int))),b.2.1,b.2.2.1,b.2.2.2.1,b.2.2.2.2.1,b.2.2.2.2.2.1,b.2.2.2.2.2.2) (ii 6 [(6,299)]) h
  exact qE (ii 7 [])
 (conv=>whnf);left;(conv=>whnf);exact cR h Zbb fun C h=>qG (ii 5 [(5,6)])
theorem Zhp{a f c fs l r}(h:Zde F a f c fs l=some r):FZ ml 122 [(0,(AO.rows false [[(AV.mapo 1),(AV.osw 2 2),aI c]])),(1,(fS fs)),(2,(AO.rows true (List.map Zaa.c l)))] [(AV.ptr 0 0 0),aI a,aI f] (AV.tup []) [(0,(AO.rows false [[(AV.mapo 1),(AV.osw 3 2),aI r.1]])),(1,(fS r.2)),(2,(AO.rows true (List.map Zaa.c l))),(3,(AO.rows true []))]:=by
 refine Zqw (os:=[(0,(AO.rows false [[(AV.mapo 1),AV.esl,aI r.1]])),(1,(fS r.2)),(2,(AO.rows true (List.map Zaa.c l)))]) 0 0 1 2 ?_ (by show 3≤W;decide) rfl rfl rfl rfl (ZeP [(0,0),(1,1),(2,2),(3,32)] rfl rfl rfl)
 refine Zfr 2000 Tryz.func122 rfl (by kernel_rfl) mixed (by show 3≤80;decide) (by show 3≤W;decide) rfl ?_
 unfold Zde at h
 refine oL ?_
 conv=>whnf
 obtain⟨o4,h4,k4⟩:=ZaE h
 refine Or.inr (Zlw True [(0,(AV.ptr 0 0 0))] [(0,(AO.rows false [[(AV.mapo 1),(AV.osw 2 2),aI o4.1]])),(1,(fS o4.2)),(2,(AO.rows true (List.map Zaa.c l)))] 3 ?_ (fun _=>?_))
 ·refine oL ?_
  conv=>whnf
  refine Zio (α:=(Nat×Int×Int×(List ((List UInt8)×(List Int))))) (fun xq=>[(0,(AV.ptr 0 0 0)),(1,(aI (if((@Nat.cast Int instNatCastInt (List.length (List.map Zaa.c l)))<(if((0:Int)>a)then(0:Int)else a))then(@Nat.cast Int instNatCastInt (List.length (List.map Zaa.c l)))else(if((0:Int)>a)then(0:Int)else a)))),(2,aI f),(6,aI xq.2.1)]) (fun xq=>[(0,(AO.rows false [[(AV.mapo 1),(AV.osw 2 2),aI xq.2.2.1]])),(1,(fS xq.2.2.2)),(2,(AO.rows true (List.map Zaa.c l)))]) 3 (fun xq=>Zbd F a f l xq.1 xq.2.1 xq.2.2.1 xq.2.2.2=some o4) (fun xq=>xq.1) (F,(IntKind.wrap IntKind.i64 ((@Nat.cast Int instNatCastInt (List.length (List.map Zaa.c l)))-(1:Int))),c,fs) [(0,0),(1,1),(2,2)] h4 rfl rfl rfl ?_
  rintro⟨i,k,m,d⟩ h4
  replace h4:Zbd F a f l i k m d=some o4:=h4
  cases i with
  |zero=>rw[Zbd.eq_1]at h4;cases h4
  |succ i=>
   rw[Zbd.eq_2]at h4
   refine oL ?_
   conv=>whnf
   refine brn_i (fun hb=>?_) (fun hb=>?_)
   ·replace h4:=ZhM h4 (by first|exact hb|(simp;done)|simpa using hb|simpa[chunk]using hb|(simp[chunk]at hb⊢;omega))
    refine oL ?_
    obtain⟨hg,h4⟩:=grd_e h4
    refine⟨hg,?_⟩
    conv=>whnf
    obtain⟨n,hy,h4⟩:=ZaE h4
    refine oG hy ?_
    conv=>whnf
    obtain⟨e,hy,h4⟩:=ZaE h4
    refine oG hy ?_
    refine oL ?_
    conv=>whnf
    obtain⟨j,h8,k8⟩:=ZaE h4
    refine Or.inr (Zlw True [(0,(AV.ptr 0 0 0)),(1,(aI (if((@Nat.cast Int instNatCastInt (List.length (List.map Zaa.c l)))<(if((0:Int)>a)then(0:Int)else a))then(@Nat.cast Int instNatCastInt (List.length (List.map Zaa.c l)))else(if((0:Int)>a)then(0:Int)else a)))),(2,aI f),(6,aI k),(7,(AV.ptr 3 0 0)),(8,aI j)] [(0,(AO.rows false [[(AV.mapo 1),(AV.osw 2 2),aI m]])),(1,(fS d)),(2,(AO.rows true (List.map Zaa.c l))),(3,(AO.rows false [[AV.str e.name,aI e.size]]))] 4 ?_ (fun _=>?_))
    ·refine oL ?_
     conv=>whnf
     refine brn_i (fun hb=>?_) (fun hb=>?_)
     ·replace h8:=ZhM h8 (by first|exact hb|(simp;done)|simpa using hb|simpa[chunk]using hb|(simp[chunk]at hb⊢;omega))
      conv=>whnf
      cases h8;exact eI [(0,0),(1,1),(2,2),(3,323)]
     replace h8:=ZhN h8 (by first|exact hb|(simp;done)|simpa using hb|simpa[chunk]using hb|(simp[chunk]at hb⊢;omega))
     conv=>whnf
     cases h8;exact eI [(0,0),(1,1),(2,2),(3,323)]
    refine⟨by kernel_rfl,?_⟩
    conv=>whnf
    refine both (b:=(Option.isSome (mget e.name d))) (fun hb=>?_) (fun hb=>?_)
    ·replace k8:=ZhM k8 hb
     refine Zf3 (ek:=(fun(g:(@List UInt8))=>(AV.str g))) (en:=cB) d e.name rfl rfl (ZeI Tryz.underlying9) hb ?_
     refine⟨by kernel_rfl,?_⟩
     refine And.intro (ZaF.map (fun _=>rfl)) ?_
     conv=>whnf
     refine Or.inr ?_
     conv=>whnf
     refine⟨_,_,rfl,rfl,rfl,rfl,?_⟩
     obtain⟨hg,k8⟩:=grd_e k8
     refine And.intro (by first|exact hg|(simp;done)|simpa using hg|simpa[chunk]using hg|(simp[chunk]at hg⊢;omega)) ?_
     obtain⟨hg,k8⟩:=grd_e k8
     refine And.intro (by first|exact hg|(simp;done)|simpa using hg|simpa[chunk]using hg|(simp[chunk]at hg⊢;omega)) ?_
     refine⟨by kernel_rfl,?_⟩
     conv=>whnf
     obtain⟨hg,k8⟩:=grd_e k8
     refine Zkd (ek:=(fun(g:(@List UInt8))=>(AV.str g))) (en:=cB) d e.name (List.take (Int.toNat (IntKind.wrap IntKind.i64 ((@Nat.cast Int instNatCastInt (List.length (List.map cB (Option.getD (mget e.name d) []))))-j))) (Option.getD (mget e.name d) [])) 612 rfl rfl (ZeI Tryz.underlying9) (.inr ⟨by assumption,rfl⟩) hg rfl _ rfl (by first|(simp;done)|rfl|(rw[Yb];rfl)) (fun _=>rfl) rfl ?_
     refine⟨by kernel_rfl,?_⟩
     conv=>whnf
     exact ZhE (i,(IntKind.wrap IntKind.i64 (k-(1:Int))),(IntKind.wrap IntKind.i64 (m-j)),(mput e.name (List.take (Int.toNat (IntKind.wrap IntKind.i64 ((@Nat.cast Int instNatCastInt (List.length (List.map cB (Option.getD (mget e.name d) []))))-j))) (Option.getD (mget e.name d) [])) d)) [(0,0),(1,1),(2,2)] k8 (V0 _) rfl rfl rfl
    replace k8:=ZhN k8 hb
    refine Zf4 (ek:=(fun(g:(@List UInt8))=>(AV.str g))) (en:=cB) d e.name .esl rfl rfl (ZeI Tryz.underlying9) hb ⟨80,.esl,by kernel_rfl,by kernel_rfl,.refl _⟩ ?_
    refine⟨by kernel_rfl,?_⟩
    conv=>whnf
    cases k8
   replace h4:=ZhN h4 (by first|exact hb|(simp;done)|simpa using hb|simpa[chunk]using hb|(simp[chunk]at hb⊢;omega))
   conv=>whnf
   cases h4;exact eI [(0,0),(1,1),(2,2)]
 obtain⟨o,p⟩:=o4
 refine oL ?_
 conv=>whnf
 cases k4;exact gI [(0,0),(1,1),(2,2)]
theorem ZcX{f g rf c i j a fs l b d e r}(h:Zb3 F f g rf c i j a fs l b d e=some r):FZ ml 78 (T20 rf true c i j a fs l b d e) [pp 0,aI f,aI g] (.tup []) (T33 r.1 false r.2.1 r.2.2.1 r.2.2.2.1 a r.2.2.2.2 l b d e++[(6,.rows true [])]):=by
 refine fG Tryz.func78 ?_
 unfold Zb3 at h
 (conv=>whnf);refine cG [1,3,4] h Zhp fun k h=>?_;(conv=>whnf);left;cases h;exact gW (ii 6 [(6,227)])
theorem ZbM{rf c f g a fs l b d e r}(h:ZbL F rf c f g a fs l b d e=some r):FZ ml 84 (T20 rf true c f g a fs l b d e) [pp 0] (aI r.1) (T33 r.2.1 false r.2.2.1 r.2.2.2.1 r.2.2.2.2.1 a r.2.2.2.2.2 l b d e++[(6,.rows true [])]):=by
 refine fG Tryz.func84 ?_
 unfold ZbL at h
 (conv=>whnf);exact cG [0,1,2,3,4,5] h ZcX fun i h=>qG (ii 6 [(6,102)])
theorem Zis{c a b d fs l r}(h:Zdy F c a b d fs l=some r):FZ ml 128 (T21 c a b d fs l) [pp 0] (aI r.1) (T17 c a b r.2.1 fs r.2.2):=by
 refine fG Tryz.func128 ?_
 unfold Zdy at h
 (conv=>whnf);left;(conv=>whnf);left;(conv=>whnf);exact cG [1,2,3] h ZfI fun e h=>qG (ii 4 [(4,611)])
theorem ZdQ{rf c a b d fs l r}(h:Zce F rf c a b d fs l=some r):FZ ml 85 (T14 rf c a b d fs l) [pp 0] (aI r.1) (T29 rf c a b r.2.1 fs r.2.2):=by
 refine fG Tryz.func85 ?_
 unfold Zce at h
 (conv=>whnf);left;(conv=>whnf);left;(conv=>whnf);exact cG [1,2,3,4] h Zis fun e h=>qG (ii 5 [(5,484)])
theorem ZcF{n r}(h:Zc9 F n=some r):FZ ml 29 [] [aI n] (.agg (Zaf.c r)) []:=by
 refine fA Tryz.func29 ?_
 unfold Zc9 at h;exact qR
theorem ZiN{s r}(h:Zf1 F s=some r):FZ ml 30 [] [.str s] (.agg (Zaf.c r)) []:=by
 refine fA Tryz.func30 ?_
 unfold Zf1 at h;exact qR
theorem ZiO{m r}(h:ZgI F m=some r):FZ ml 10 [] [.agg (Zac.c m)] (.str r) []:=by
 refine fA Tryz.func10 ?_
 unfold ZgI at h
 (conv=>whnf);left;(conv=>whnf);left;refine bS h (fun h=>qR) fun h=>?_;(conv=>whnf);refine jN h fun a=>jM [(1,pp 0),(3,aI a)] [(0,rF (Zac.c m))] 1 (fun h=>qE [(0,32)]) fun h=>?_;(conv=>whnf);left;(conv=>whnf);refine cL h ZcF fun b h=>?_;(conv=>whnf);left;(conv=>whnf);refine cL h ZcF fun d h=>?_;(conv=>whnf);left;(conv=>whnf);refine cL h ZcF fun e h=>?_;(conv=>whnf);left;(conv=>whnf);refine cL h ZcF fun f h=>?_;(conv=>whnf);left;(conv=>whnf);refine cL h ZcF fun g h=>?_;(conv=>whnf);left;(conv=>whnf);refine cL h ZcF fun i h=>?_;(conv=>whnf);left;(conv=>whnf);refine cL h ZcF fun j h=>?_;(conv=>whnf);left;(conv=>whnf);refine cL h ZcF fun k h=>?_;(conv=>whnf);left;(conv=>whnf);refine cL h ZcF fun l h=>?_;(conv=>whnf);left;(conv=>whnf);refine aX ?_;(conv=>whnf);refine jN h fun n=>jM [(1,pp 0),(4,.osw 1 3)] [(0,rF (Zac.c m)),(1,rT Zaf.c n)] 2 (fun h=>?_) fun h=>?_
 ·(conv=>whnf);left;(conv=>whnf);refine lI (fun n' x'=>ZeC F m n' x'.1 x'.2) (fun x'=>[(1,pp 0),(4,.osw 1 3),(44,sM Zab.c m.Entries),(45,aI (@Nat.cast Int instNatCastInt (List.length (List.map Zab.c m.Entries)))),(46,aI x'.1)]) (fun x'=>[(0,rF (Zac.c m)),(1,rT Zaf.c x'.2)]) 2 ((0:Int),(b::(d::(e::(f::(g::(i::(j::(k::(l::[])))))))))) [(0,0),(1,865)] h ?_;rintro o ⟨p,q⟩ h;dsimp only at h;rw[ZeC.eq_2]at h;(conv=>whnf);left;refine bS h (fun h=>?_) fun h=>?_
  ·(conv=>whnf);left;(conv=>whnf);refine gX h fun h=>?_;(conv=>whnf);refine oB h fun u h=>?_;(conv=>whnf);left;(conv=>whnf);left;(conv=>whnf);refine cL h ZcF fun s h=>?_;(conv=>whnf);left;(conv=>whnf);refine cL h ZiN fun t h=>?_;(conv=>whnf);left;(conv=>whnf);refine And.intro (ZaF.cons rfl (ZaF.cons rfl ZaF.nil)) ?_;(conv=>whnf);refine aX ?_;(conv=>whnf);refine gS h fun h=>?_;(conv=>whnf);refine aX ?_;exact rE (o,(IntKind.wrap IntKind.i64 (p+(1:Int))),(q++(s::(t::[])))) [(0,0),(1,418)] h
  exact qE [(0,0),(1,1)]
 (conv=>whnf);left;(conv=>whnf);refine cL h ZiN fun v h=>?_;(conv=>whnf);left;(conv=>whnf);refine aX ?_;(conv=>whnf);refine aX ?_;(conv=>whnf);refine gS h fun h=>?_;(conv=>whnf);left;obtain⟨w,hy,h⟩:=ZaE h;refine⟨_,_,(ZdE (cons2 (YI AV.sl rQ) rfl) (Zav (Zfi hy) rfl)),Or.inr ⟨[162],rfl,?_⟩⟩;(conv=>whnf);left;refine bS h (fun h=>qR) fun h=>?_;(conv=>whnf);obtain⟨hg,h⟩:=Zm9 h;refine⟨_,Zko rQ hg,?_⟩;exact qR
theorem ZfO{p c l m r}(h:Zc6 F p c l m=some r):FZ ml 117 (T6 c l m) [pp 0,.agg (Zae.c p)] (.tup [aI r.1,aI r.2.1]) (T18 r.2.2.1 m r.2.2.2):=by
 refine fG Tryz.func117 ?_
 unfold Zc6 at h
 (conv=>whnf);left;(conv=>whnf);left;refine bS h (fun h=>qG [(0,0),(2,2),(3,1)]) fun h=>?_;(conv=>whnf);left;(conv=>whnf);refine aX ?_;(conv=>whnf);refine aX ?_;(conv=>whnf);refine gS h fun h=>?_;(conv=>whnf);left;(conv=>whnf);refine aX ?_;cases h;exact gE [(0,0),(1,1),(2,2),(3,992)]
theorem ZfH{a to_ b c l m r}(h:ZdD F a to_ b c l m=some r):FZ ml 103 (T6 c l m) [pp 0,aI a,aI to_,.str b] (.tup [aI r.1,aI r.2.1]) (T18 r.2.2.1 m r.2.2.2):=by
 refine fG Tryz.func103 ?_
 unfold ZdD at h
 (conv=>whnf);left;(conv=>whnf);left;refine bS h (fun h=>qG [(0,0),(2,2),(3,1)]) fun h=>?_;(conv=>whnf);left;(conv=>whnf);exact cG [0,1,2] h ZfO fun d h=>qG [(0,0),(1,1),(2,2),(3,483)]
theorem ZfL{sum tb l r}(h:ZcM F sum tb l=some r):FZ ml 155 [(0,(AO.rows true [(@crowB tb)])),(1,(AO.rows true (List.map cB l)))] [(AV.ptr 0 0 0),(AV.int IntKind.u32 sum),(AV.osw 1 1)] (AV.int IntKind.u32 r.1) [(0,(AO.rows true [(@crowB r.2)])),(1,(AO.rows true (List.map cB l)))]:=by
 unfold ZcM at h
 obtain⟨hg,h⟩:=grd_e h
 cases h;exact Zq7 tb sum l hg
theorem Zhb{u e c t gs gk j tb l k n o rf a b p m q d fs s f g i r}(h:ZcV F u e c t gs gk j tb l k n o rf a b p m q d fs s f g i=some r):FZ ml 156 (T4 c t gs gk j tb l k n o rf true a b p m q d fs s f g i) [pp 0,aI u,.agg (Zab.c e)] (.tup []) (T3 r.1 r.2.1 gs gk r.2.2.1 r.2.2.2.1 rf true a b m r.2.2.2.2.1 d fs f g i r.2.2.2.2.2.1 r.2.2.2.2.2.2.1 r.2.2.2.2.2.2.2.1 r.2.2.2.2.2.2.2.2.1 r.2.2.2.2.2.2.2.2.2.1 r.2.2.2.2.2.2.2.2.2.2):=by
 refine fG Tryz.func156 ?_
 unfold ZcV at h
 (conv=>whnf);left;(conv=>whnf);left;(conv=>whnf);left;refine bS h (fun h=>?_) fun h=>?_
 ·(conv=>whnf);refine jN h fun v=>jM [] (T4 c v gs gk j tb l k n o rf true a b p m q d fs s f g i) 16 (fun h=>?_) fun h=>?_
  ·(conv=>whnf);left;refine bS h (fun h=>qE (ii 16 [])) fun h=>?_;(conv=>whnf);refine gX h fun h=>?_;(conv=>whnf);refine oB h fun x h=>?_;(conv=>whnf);refine oB h fun y h=>?_;exact qE (ii 16 [])
  exact qG (ii 4 [(8,8),(10,10),(11,11),(12,12),(13,13),(15,15),(16,4),(17,5),(18,6),(19,7),(20,9),(21,14)])
 (conv=>whnf);left;refine bS h (fun h=>?_) fun h=>?_
 ·(conv=>whnf);refine And.intro (by omega) ?_;(conv=>whnf);refine oB h fun z h=>?_;(conv=>whnf);refine oB h fun A h=>?_;(conv=>whnf);refine jN h fun w=>jM [(0,pp 0),(5,pp 16),(6,aI (@Nat.cast Int instNatCastInt (List.length (List.map Zab.c l)))),(7,aI w)] (T4 c t gs gk j tb l k n o rf true a b p m q d fs s f g i++[(16,rF (Zab.c e))]) 17 (fun h=>qE (ii 16 [(16,32)])) fun h=>?_;(conv=>whnf);left;(conv=>whnf);refine aX ?_;(conv=>whnf);refine aX ?_;(conv=>whnf);refine gS h fun h=>?_;(iterate 5 ((conv=>whnf);first|refine oL ?_|refine aX ?_));(conv=>whnf);refine gS h fun h=>?_;(conv=>whnf);left;(conv=>whnf);refine And.intro (by omega) ?_;(conv=>whnf);refine oB h fun B h=>?_;(conv=>whnf);refine oB h fun C h=>?_;(conv=>whnf);refine gX h fun h=>?_;(conv=>whnf);refine cG [3,1297] h ZfL fun D h=>?_;(conv=>whnf);left;(conv=>whnf);refine aX ?_;(conv=>whnf);refine aX ?_;(conv=>whnf);refine gS h fun h=>?_;(conv=>whnf);left;(conv=>whnf);refine aX ?_;cases h;exact gE (ii 7 [(8,8),(10,10),(11,11),(12,12),(13,13),(15,15),(16,241),(17,593),(18,1393),(19,7),(20,9),(21,14)])
 exact qG (ii 4 [(8,8),(10,10),(11,11),(12,12),(13,13),(15,15),(16,4),(17,5),(18,6),(19,7),(20,9),(21,14)])
theorem Ze4{G c H rf I J gs gk x tb l y z A B b C m fs D d e f r}(h:ZbJ F G c H rf I J gs gk x tb l y z A B b C m fs D d e f=some r):FZ ml 104 (T9 c H rf true I J gs gk x tb l y z A B b C m fs D d e f) [pp 0,pp 1,aI G] (.tup []) (T13 r.1 r.2.1 r.2.2.1 true r.2.2.2.1 r.2.2.2.2.1 gs gk r.2.2.2.2.2.1 r.2.2.2.2.2.2.1 r.2.2.2.2.2.2.2.1 b m fs d e f r.2.2.2.2.2.2.2.2.1 r.2.2.2.2.2.2.2.2.2.1 r.2.2.2.2.2.2.2.2.2.2.1 r.2.2.2.2.2.2.2.2.2.2.2.1 r.2.2.2.2.2.2.2.2.2.2.2.2.1 r.2.2.2.2.2.2.2.2.2.2.2.2.2):=by
 refine fG Tryz.func104 ?_
 unfold ZbJ at h
 (conv=>whnf);left;(conv=>whnf);refine jN h fun⟨K,L,M,N⟩=>jM [(0,pp 0),(1,pp 1),(2,aI K),(6,pp 16)] (T9 c L rf true M N gs gk x tb l y z A B b C m fs D d e f++[(16,rF (Zag.c rf.Trail))]) 17 (fun h=>?_) fun h=>?_
 ·(conv=>whnf);left;refine bS h (fun h=>?_) fun h=>?_
  ·(conv=>whnf);left;(conv=>whnf);refine cL h ZcQ fun O h=>?_;(conv=>whnf);refine jN h fun Q=>jM [(0,pp 0),(1,pp 1),(2,aI rf.Trail.Base),(6,pp 16)] (T9 c Q rf true O.1 O.2 gs gk x tb l y z A B b C m fs D d e f++[(16,rF (Zag.c rf.Trail))]) 17 (fun h=>?_) fun h=>?_
   ·(conv=>whnf);left;refine bS h (fun h=>qE (ii 16 [(16,192)])) fun h=>?_;(conv=>whnf);refine bS h (fun h=>qE (ii 16 [(16,192)])) fun h=>?_;(conv=>whnf);refine gX h fun h=>?_;(conv=>whnf);refine oB h fun a8 h=>?_;(conv=>whnf);refine oB h fun a9 h=>?_;(conv=>whnf);refine bS h (fun h=>qE (ii 16 [(16,192)])) fun h=>?_;(conv=>whnf);refine gX h fun h=>?_;(conv=>whnf);refine oB h fun aA h=>?_;(conv=>whnf);refine oB h fun aB h=>?_;exact qE (ii 16 [(16,192)])
   exact qE (ii 17 [])
  exact qE (ii 16 [(16,192)])
 (conv=>whnf);refine jN h fun⟨R,S,T,U,V,X,Y,Z,a0,a1,a2,a3,a4⟩=>jM [] (T13 R S rf true T U gs gk V X Y b m fs d e f Z a0 a1 a2 a3 a4) 22 (fun h=>?_) fun h=>?_
 ·(conv=>whnf);left;(conv=>whnf);refine lI (β:=Int×(List Int)×Bool×Int×Int×Int×Bool×Int×(List Zab)×(List Int)×(List Int)×(List Zai)×(List Zae)×(List Zaa)) (fun n' ⟨g,i,j,E,k,n,o,p,q,s,t,u,v,w⟩=>ZaP F rf gs gk b m fs d e f n' g i j E k n o p q s t u v w) (fun⟨g,i,j,E,k,n,o,p,q,s,t,u,v,w⟩=>[(0,pp 0),(1,pp 1),(6,pp 16),(7,aI g)]) (fun⟨g,i,j,E,k,n,o,p,q,s,t,u,v,w⟩=>[(0,rF [sM cJ i,.mapo 2,pp 3,pp 4,.osw 17 2,.osw 18 1,.osw 19 1,.osw 20 2,.bool j]),(1,rF ([pp 9,pp 10]++Zad.c rf++[.bool true,aI E,AV.int IntKind.u32 k])),(2,AO.gmap (eG gs) (some ((Option.getD (@mix Int group_node Int.instDecidableEq gk gs) 0),1))),(3,rF [.osw 21 4,aI n,.mapo 12]),(4,.rows true [(@crowB o)]),(9,rF [.mapo 13,.osw 22 2,aI p]),(10,rF ([pp 15]++Zad.c b)),(12,mP m),(13,fS fs),(15,rF [pp 9,.str d,aI e,aI f]),(16,rF (Zag.c rf.Trail)),(17,rT Zab.c q),(18,rT cJ s),(19,rT cU t),(20,rT Zai.c u),(21,rT Zae.c v),(22,rT Zaa.c w)]) 23 ((IntKind.wrap IntKind.i64 (K+(1:Int))),c,L,M,N,x,tb,B,l,y,z,A,C,D) (ii 5 [(9,9),(10,10),(12,12),(13,13),(15,15),(16,16),(17,5),(18,6),(19,7),(20,8),(21,11),(22,14)]) h ?_;rintro a5 ⟨g,i,j,E,k,n,o,p,q,s,t,u,v,w⟩ h;dsimp only at h;rw[ZaP.eq_2]at h;(conv=>whnf);left;refine bS h (fun h=>?_) fun h=>?_
  ·(conv=>whnf);left;(conv=>whnf);refine gX h fun h=>?_;(conv=>whnf);refine oB h fun a6 h=>?_;(conv=>whnf);left;(conv=>whnf);refine jN h fun P=>jM [(0,pp 0),(1,pp 1),(6,pp 16),(7,aI g),(8,pp 17)] [(0,rF [sM cJ i,.mapo 2,pp 3,pp 4,.osw 18 2,.osw 19 1,.osw 20 1,.osw 21 2,.bool j]),(1,rF ([pp 9,pp 10]++Zad.c rf++[.bool true,aI P,AV.int IntKind.u32 k])),(2,AO.gmap (eG gs) (some ((Option.getD (@mix Int group_node Int.instDecidableEq gk gs) 0),1))),(3,rF [.osw 22 4,aI n,.mapo 12]),(4,.rows true [(@crowB o)]),(9,rF [.mapo 13,.osw 23 2,aI p]),(10,rF ([pp 15]++Zad.c b)),(12,mP m),(13,fS fs),(15,rF [pp 9,.str d,aI e,aI f]),(16,rF (Zag.c rf.Trail)),(17,rF (Zab.c a6)),(18,rT Zab.c q),(19,rT cJ s),(20,rT cU t),(21,rT Zai.c u),(22,rT Zae.c v),(23,rT Zaa.c w)] 24 (fun h=>qE (ii 17 [(17,535),(18,17),(19,18),(20,19),(21,20),(22,21),(23,22)])) fun h=>?_;(conv=>whnf);refine gX h fun h=>?_;(conv=>whnf);refine cG [4,376] h ZfL fun a7 h=>?_;(conv=>whnf);refine aX ?_;(conv=>whnf);refine cG [0,2,3,4,18,19,20,21,1,22,12,9,10,13,23,15] h Zhb fun a h=>?_;exact rE (a5,(IntKind.wrap IntKind.i64 (g+(1:Int))),a.1,a.2.1,P,a7.1,a.2.2.1,a.2.2.2.1,a.2.2.2.2.1,a.2.2.2.2.2.1,a.2.2.2.2.2.2.1,a.2.2.2.2.2.2.2.1,a.2.2.2.2.2.2.2.2.1,a.2.2.2.2.2.2.2.2.2.1,a.2.2.2.2.2.2.2.2.2.2) (ii 17 [(17,648),(18,649),(19,650),(20,651),(21,652),(22,653)]) h
  exact qE (ii 16 [(16,17),(17,18),(18,19),(19,20),(20,21),(21,22)])
 exact qG (ii 22 [])
theorem ZeL{s v r}(h:Zbp F s v=some r):FZ ml 157 [] [sM Zai.c s,.agg (Zai.c v)] (aI r) []:=by
 refine fA Tryz.func157 ?_
 unfold Zbp at h
 (conv=>whnf);left;(conv=>whnf);refine jS h fun o0 vu=>jT [] [] 0 (fun h k0 e=>?_) fun h=>?_
 ·(conv=>whnf);left;(conv=>whnf);refine lI (fun n' x'=>ZaD F s v n' x') (fun x'=>[(0,sM Zai.c s),(3,pp 0),(7,aI (@Nat.cast Int instNatCastInt (List.length (List.map Zai.c s)))),(8,aI x')]) (fun x'=>[(0,rF (Zai.c v))]) 1 (0:Int) [(0,32)] h ?_;rintro a b h;rw[ZaD.eq_2]at h;(conv=>whnf);left;refine bS h (fun h=>?_) fun h=>?_
  ·(conv=>whnf);left;(conv=>whnf);refine gX h fun h=>?_;(conv=>whnf);refine oB h fun d h=>?_;(conv=>whnf);refine aX ?_;(conv=>whnf);refine aX ?_;(conv=>whnf);left;refine bS h (fun h=>?_) fun h=>?_
   ·cases h;cases k0;exact rfl
   exact rE (a,(IntKind.wrap IntKind.i64 (b+(1:Int)))) [(0,0)] h
  exact qE []
 exact qR
theorem Zcp{s v r}(h:ZaQ F s v=some r):FZ ml 105 [] [sM Zai.c s,.agg (Zai.c v)] (.bool r) []:=by
 refine fA Tryz.func105 ?_
 unfold ZaQ at h
 (conv=>whnf);left;(conv=>whnf);left;(conv=>whnf);exact cL h ZeL fun a h=>qR
theorem Zh8{c a b d fs l r}(h:ZeT F c a b d fs l=some r):FZ ml 158 (T21 c a b d fs l) [pp 0] (aI r) (T21 c a b d fs l):=by
 refine fG Tryz.func158 ?_
 unfold ZeT at h;exact qG (ii 4 [])
theorem Ze3{rf c a b d fs l r}(h:Zdp F rf c a b d fs l=some r):FZ ml 106 (T14 rf c a b d fs l) [pp 0] (aI r) (T14 rf c a b d fs l):=by
 refine fG Tryz.func106 ?_
 unfold Zdp at h
 (conv=>whnf);left;(conv=>whnf);exact cH [1,2,3,4] h Zh8 fun e h=>qG (ii 5 [])
theorem ZdR{rf c a b d fs l r}(h:Zcf F rf c a b d fs l=some r):FZ ml 86 (T14 rf c a b d fs l) [pp 0] (aI r.1) (T29 rf r.2.1 r.2.2.1 r.2.2.2.1 r.2.2.2.2.1 r.2.2.2.2.2.1 r.2.2.2.2.2.2):=by
 refine fG Tryz.func86 ?_
 unfold Zcf at h
 (conv=>whnf);left;(conv=>whnf);left;(conv=>whnf);left;(conv=>whnf);left;(conv=>whnf);refine cR h (fun h=>aW (Zav (Zhz h) rfl)) fun e h=>?_;(conv=>whnf);exact cG [1,2,3,4] h ZeK fun f h=>qG (ii 5 [(5,676)])
theorem ZdW{id r_ out a c j gs gk t tb l k n o rf p q u m v w fs x y z A r}(h:Zbk F id r_ out a c j gs gk t tb l k n o rf p q u m v w fs x y z A=some (Sum.inl r)):FZ ml 72 (T4 c j gs gk t tb l k n o rf true p q u m v w fs x y z A) [pp 0,aI id,.agg (Zad.c r_),sM Zac.c out,.agg (Zau.c a)] (aI r.1) (T28 r.2.1 r.2.2.1 r.2.2.2.1 r.2.2.2.2.1 r.2.2.2.2.2.1 m++[(12,rF ([pp 15]++Zad.c r.2.2.2.2.2.2.1)),(15,rF [pp 11,.str r.2.2.2.2.2.2.2.1,aI r.2.2.2.2.2.2.2.2.1,aI r.2.2.2.2.2.2.2.2.2.1]),(16,rT Zab.c r.2.2.2.2.2.2.2.2.2.2.1),(17,rT cJ r.2.2.2.2.2.2.2.2.2.2.2.1),(18,rT cU r.2.2.2.2.2.2.2.2.2.2.2.2.1),(19,rT Zai.c r.2.2.2.2.2.2.2.2.2.2.2.2.2.1),(20,rT Zae.c r.2.2.2.2.2.2.2.2.2.2.2.2.2.2)]):=by
 refine fG Tryz.func72 ?_
 unfold Zbk at h
 (conv=>whnf);left;(conv=>whnf);left;(conv=>whnf);refine aX ?_;(conv=>whnf);obtain⟨hg,h⟩:=isS_e h;refine Zh3 (ek:=(fun(D:Int)=>(AV.int IntKind.i64 D))) (gN:=group_node.g) gs id gk rfl rfl (ZcC Tryz.underlying3) hg ?_;(conv=>whnf);refine cG [12,15,11,13,14] h Zdz fun d h=>?_;(conv=>whnf);refine aX ?_;(conv=>whnf);left;refine bS h (fun h=>?_) fun h=>?_
 ·(conv=>whnf);refine cG [8,11,12,13,517,15] h ZbM fun e h=>?_;(conv=>whnf);obtain⟨hg,h⟩:=isS_e h;cases h;refine gF 1 8 gs gk (@Sum.inl group_nodeD group_nodeU (group_nodeD.mk e.2.2.2.2.2 [] e.2.2.2.2.1 e.2.1 e.2.2.1 e.2.2.2.1)) [8,11,13,614] ?_;exact gI (ii 4 [(8,8),(10,10),(11,11),(12,12),(13,13),(14,14),(15,15),(16,4),(17,5),(18,6),(19,7),(20,9)])
 (conv=>whnf);left;refine bS h (fun h=>?_) fun h=>?_
 ·(conv=>whnf);refine cG [8,11,12,13,517,15] h ZcX fun f h=>?_;(conv=>whnf);obtain⟨hg,h⟩:=isS_e h;cases h;refine gF 1 8 gs gk (@Sum.inl group_nodeD group_nodeU (group_nodeD.mk f.2.2.2.2 [] f.2.2.2.1 f.1 f.2.1 f.2.2.1)) [8,11,13,806] ?_;exact gI (ii 4 [(8,8),(10,10),(11,11),(12,12),(13,13),(14,14),(15,15),(16,4),(17,5),(18,6),(19,7),(20,9)])
 (conv=>whnf);refine cG [12,15,11,13,517] h ZdQ fun s h=>?_;(conv=>whnf);refine jN h fun⟨E,G⟩=>jM [(0,pp 0),(1,aI id),(7,pp 16),(11,pp 8),(12,aI rf.Commit)] (T2 c j gs gk E tb r_ true p q m s.2.1 d.2.1 d.2.2.2.2.2.2.1 d.2.2.1 d.2.2.2.1 d.2.2.2.2.1++[(16,rF (Zad.c r_)),(17,rT Zab.c l),(18,rT cJ k),(19,rT cU n),(20,rT Zai.c o),(21,rT Zae.c G),(22,rT Zaa.c s.2.2)]) 23 (fun h=>?_) fun h=>?_
 ·(conv=>whnf);left;(conv=>whnf);refine lI (fun n' x'=>ZaZ F out m n' x'.1 x'.2.1 x'.2.2) (fun x'=>[(0,pp 0),(1,aI id),(7,pp 16),(11,pp 8),(12,aI rf.Commit),(53,sM Zac.c out),(54,aI (@Nat.cast Int instNatCastInt (List.length (List.map Zac.c out)))),(55,aI x'.1)]) (fun x'=>(T2 c j gs gk x'.2.1 tb r_ true p q m s.2.1 d.2.1 d.2.2.2.2.2.2.1 d.2.2.1 d.2.2.2.1 d.2.2.2.2.1++[(16,rF (Zad.c r_)),(17,rT Zab.c l),(18,rT cJ k),(19,rT cU n),(20,rT Zai.c o),(21,rT Zae.c x'.2.2),(22,rT Zaa.c s.2.2)])) 23 ((0:Int),t,u) (ii 4 [(8,8),(10,10),(11,11),(12,12),(13,13),(14,14),(15,15),(16,32),(17,4),(18,5),(19,6),(20,7),(21,9),(22,773)]) h ?_;rintro H ⟨I,R,S⟩ h;dsimp only at h;rw[ZaZ.eq_2]at h;(conv=>whnf);left;refine bS h (fun h=>?_) fun h=>?_
  ·(conv=>whnf);left;(conv=>whnf);refine gX h fun h=>?_;(conv=>whnf);refine oB h fun T h=>?_;(conv=>whnf);left;(conv=>whnf);left;(conv=>whnf);refine cL h ZiO fun U h=>?_;(conv=>whnf);refine cG [2,21,10] h ZfH fun B h=>?_;(conv=>whnf);refine aX ?_;exact rE (H,(IntKind.wrap IntKind.i64 (I+(1:Int))),B.2.2.1,B.2.2.2) (ii 21 [(21,506),(22,22)]) h
  exact qE (ii 23 [])
 (conv=>whnf);refine cG [0,8,1,2,3,17,18,19,20,11,12,21,10,13,22,15] h Ze4 fun b h=>?_;(conv=>whnf);left;(conv=>whnf);left;(conv=>whnf);refine jN h fun J=>jM [(0,pp 0),(11,pp 8),(15,pp 16),(90,.bool J)] (T2 b.1 b.2.1 gs gk b.2.2.2.2.2.1 b.2.2.2.2.2.2.1 b.2.2.1 true b.2.2.2.1 b.2.2.2.2.1 m b.2.2.2.2.2.2.2.1 d.2.1 d.2.2.2.2.2.2.1 d.2.2.1 d.2.2.2.1 d.2.2.2.2.1++[(16,rF [aI id,aI r_.Term]),(17,rT Zab.c b.2.2.2.2.2.2.2.2.1),(18,rT cJ b.2.2.2.2.2.2.2.2.2.1),(19,rT cU b.2.2.2.2.2.2.2.2.2.2.1),(20,rT Zai.c b.2.2.2.2.2.2.2.2.2.2.2.1),(21,rT Zae.c b.2.2.2.2.2.2.2.2.2.2.2.2.1),(22,rT Zaa.c b.2.2.2.2.2.2.2.2.2.2.2.2.2)]) 23 (fun h=>?_) fun h=>?_
 ·(conv=>whnf);left;refine bS h (fun h=>?_) fun h=>?_
  ·(conv=>whnf);left;(conv=>whnf);exact cL h Zcp fun V h=>qE (ii 16 [(16,279),(17,135),(18,136),(19,137),(20,138),(21,139),(22,140)])
  exact qE (ii 16 [(16,279),(17,135),(18,136),(19,137),(20,138),(21,139),(22,140)])
 (conv=>whnf);refine jN h fun C=>jM [(11,pp 8)] (T3 b.1 b.2.1 gs gk b.2.2.2.2.2.1 b.2.2.2.2.2.2.1 b.2.2.1 true b.2.2.2.1 b.2.2.2.2.1 m b.2.2.2.2.2.2.2.1 d.2.1 d.2.2.2.2.2.2.1 d.2.2.1 d.2.2.2.1 d.2.2.2.2.1 b.2.2.2.2.2.2.2.2.1 b.2.2.2.2.2.2.2.2.2.1 b.2.2.2.2.2.2.2.2.2.2.1 C b.2.2.2.2.2.2.2.2.2.2.2.2.1 b.2.2.2.2.2.2.2.2.2.2.2.2.2) 22 (fun h=>?_) fun h=>?_
 ·(conv=>whnf);left;refine bS h (fun h=>?_) fun h=>?_
  ·(conv=>whnf);left;(conv=>whnf);refine aX ?_;(conv=>whnf);refine aX ?_;(conv=>whnf);refine gS h fun h=>?_;(conv=>whnf);left;(conv=>whnf);refine aX ?_;cases h;exact eE (ii 16 [(16,17),(17,18),(18,19),(19,247),(20,21),(21,22)])
  exact qE (ii 16 [(16,17),(17,18),(18,19),(19,20),(20,21),(21,22)])
 (conv=>whnf);refine jN h fun⟨K,L,M,N,O,P,Q⟩=>jM [(11,pp 8),(114,.bool K)] (T3 b.1 b.2.1 gs gk b.2.2.2.2.2.1 b.2.2.2.2.2.2.1 b.2.2.1 true b.2.2.2.1 b.2.2.2.2.1 m L d.2.1 M N O P b.2.2.2.2.2.2.2.2.1 b.2.2.2.2.2.2.2.2.2.1 b.2.2.2.2.2.2.2.2.2.2.1 C b.2.2.2.2.2.2.2.2.2.2.2.2.1 Q) 22 (fun h=>?_) fun h=>?_
 ·(conv=>whnf);left;(conv=>whnf);refine cH [12,15,11,13,21] h Ze3 fun X h=>?_;(conv=>whnf);refine bS h (fun h=>?_) fun h=>?_
  ·(conv=>whnf);exact cG [12,15,11,13,21] h ZdR fun Y h=>qE (ii 21 [(21,379)])
  exact qE (ii 22 [])
 (conv=>whnf);left;refine bS h (fun h=>?_) fun h=>?_
 ·(conv=>whnf);refine cG [8,11,12,13,21,15] h ZbM fun i h=>?_;(conv=>whnf);obtain⟨hg,h⟩:=isS_e h;cases h;refine gF 1 8 gs gk (@Sum.inl group_nodeD group_nodeU (group_nodeD.mk i.2.2.2.2.2 [] i.2.2.2.2.1 i.2.1 i.2.2.1 i.2.2.2.1)) [8,11,13,60] ?_;exact gI (ii 21 [])
 (conv=>whnf);obtain⟨hg,h⟩:=isS_e h;cases h
theorem ZdV{id r_ out a c e gs gk p tb l f i j rf k n q m s t fs u v w x r}(h:Zbk F id r_ out a c e gs gk p tb l f i j rf k n q m s t fs u v w x=some (Sum.inr r)):FZ ml 72 (T4 c e gs gk p tb l f i j rf true k n q m s t fs u v w x) [pp 0,aI id,.agg (Zad.c r_),sM Zac.c out,.agg (Zau.c a)] (aI r.1) (T28 r.2.1 r.2.2.1 r.2.2.2.1 r.2.2.2.2.1 r.2.2.2.2.2.1 m++[(16,rT Zab.c r.2.2.2.2.2.2.1),(17,rT cJ r.2.2.2.2.2.2.2.1),(18,rT cU r.2.2.2.2.2.2.2.2.1),(19,rT Zai.c r.2.2.2.2.2.2.2.2.2.1),(20,rT Zae.c r.2.2.2.2.2.2.2.2.2.2)]):=by
 refine fG Tryz.func72 ?_
 unfold Zbk at h
 (conv=>whnf);left;(conv=>whnf);left;(conv=>whnf);refine aX ?_;(conv=>whnf);obtain⟨hg,h⟩:=isS_e h;refine Zh3 (ek:=(fun(H:Int)=>(AV.int IntKind.i64 H))) (gN:=group_node.g) gs id gk rfl rfl (ZcC Tryz.underlying3) hg ?_;(conv=>whnf);refine cG [12,15,11,13,14] h Zdz fun d h=>?_;(conv=>whnf);refine aX ?_;(conv=>whnf);left;refine bS h (fun h=>?_) fun h=>?_
 ·(conv=>whnf);refine cG [8,11,12,13,517,15] h ZbM fun O h=>?_;(conv=>whnf);obtain⟨hg,h⟩:=isS_e h;cases h
 (conv=>whnf);left;refine bS h (fun h=>?_) fun h=>?_
 ·(conv=>whnf);refine cG [8,11,12,13,517,15] h ZcX fun P h=>?_;(conv=>whnf);obtain⟨hg,h⟩:=isS_e h;cases h
 (conv=>whnf);refine cG [12,15,11,13,517] h ZdQ fun o h=>?_;(conv=>whnf);refine jN h fun⟨I,J⟩=>jM [(0,pp 0),(1,aI id),(7,pp 16),(11,pp 8),(12,aI rf.Commit)] (T2 c e gs gk I tb r_ true k n m o.2.1 d.2.1 d.2.2.2.2.2.2.1 d.2.2.1 d.2.2.2.1 d.2.2.2.2.1++[(16,rF (Zad.c r_)),(17,rT Zab.c l),(18,rT cJ f),(19,rT cU i),(20,rT Zai.c j),(21,rT Zae.c J),(22,rT Zaa.c o.2.2)]) 23 (fun h=>?_) fun h=>?_
 ·(conv=>whnf);left;(conv=>whnf);refine lI (fun n' x'=>ZaZ F out m n' x'.1 x'.2.1 x'.2.2) (fun x'=>[(0,pp 0),(1,aI id),(7,pp 16),(11,pp 8),(12,aI rf.Commit),(53,sM Zac.c out),(54,aI (@Nat.cast Int instNatCastInt (List.length (List.map Zac.c out)))),(55,aI x'.1)]) (fun x'=>(T2 c e gs gk x'.2.1 tb r_ true k n m o.2.1 d.2.1 d.2.2.2.2.2.2.1 d.2.2.1 d.2.2.2.1 d.2.2.2.2.1++[(16,rF (Zad.c r_)),(17,rT Zab.c l),(18,rT cJ f),(19,rT cU i),(20,rT Zai.c j),(21,rT Zae.c x'.2.2),(22,rT Zaa.c o.2.2)])) 23 ((0:Int),p,q) (ii 4 [(8,8),(10,10),(11,11),(12,12),(13,13),(14,14),(15,15),(16,32),(17,4),(18,5),(19,6),(20,7),(21,9),(22,773)]) h ?_;rintro K ⟨L,Q,R⟩ h;dsimp only at h;rw[ZaZ.eq_2]at h;(conv=>whnf);left;refine bS h (fun h=>?_) fun h=>?_
  ·(conv=>whnf);left;(conv=>whnf);refine gX h fun h=>?_;(conv=>whnf);refine oB h fun S h=>?_;(conv=>whnf);left;(conv=>whnf);left;(conv=>whnf);refine cL h ZiO fun T h=>?_;(conv=>whnf);refine cG [2,21,10] h ZfH fun y h=>?_;(conv=>whnf);refine aX ?_;exact rE (K,(IntKind.wrap IntKind.i64 (L+(1:Int))),y.2.2.1,y.2.2.2) (ii 21 [(21,506),(22,22)]) h
  exact qE (ii 23 [])
 (conv=>whnf);refine cG [0,8,1,2,3,17,18,19,20,11,12,21,10,13,22,15] h Ze4 fun b h=>?_;(conv=>whnf);left;(conv=>whnf);left;(conv=>whnf);refine jN h fun M=>jM [(0,pp 0),(11,pp 8),(15,pp 16),(90,.bool M)] (T2 b.1 b.2.1 gs gk b.2.2.2.2.2.1 b.2.2.2.2.2.2.1 b.2.2.1 true b.2.2.2.1 b.2.2.2.2.1 m b.2.2.2.2.2.2.2.1 d.2.1 d.2.2.2.2.2.2.1 d.2.2.1 d.2.2.2.1 d.2.2.2.2.1++[(16,rF [aI id,aI r_.Term]),(17,rT Zab.c b.2.2.2.2.2.2.2.2.1),(18,rT cJ b.2.2.2.2.2.2.2.2.2.1),(19,rT cU b.2.2.2.2.2.2.2.2.2.2.1),(20,rT Zai.c b.2.2.2.2.2.2.2.2.2.2.2.1),(21,rT Zae.c b.2.2.2.2.2.2.2.2.2.2.2.2.1),(22,rT Zaa.c b.2.2.2.2.2.2.2.2.2.2.2.2.2)]) 23 (fun h=>?_) fun h=>?_
 ·(conv=>whnf);left;refine bS h (fun h=>?_) fun h=>?_
  ·(conv=>whnf);left;(conv=>whnf);exact cL h Zcp fun U h=>qE (ii 16 [(16,279),(17,135),(18,136),(19,137),(20,138),(21,139),(22,140)])
  exact qE (ii 16 [(16,279),(17,135),(18,136),(19,137),(20,138),(21,139),(22,140)])
 (conv=>whnf);refine jN h fun z=>jM [(11,pp 8)] (T3 b.1 b.2.1 gs gk b.2.2.2.2.2.1 b.2.2.2.2.2.2.1 b.2.2.1 true b.2.2.2.1 b.2.2.2.2.1 m b.2.2.2.2.2.2.2.1 d.2.1 d.2.2.2.2.2.2.1 d.2.2.1 d.2.2.2.1 d.2.2.2.2.1 b.2.2.2.2.2.2.2.2.1 b.2.2.2.2.2.2.2.2.2.1 b.2.2.2.2.2.2.2.2.2.2.1 z b.2.2.2.2.2.2.2.2.2.2.2.2.1 b.2.2.2.2.2.2.2.2.2.2.2.2.2) 22 (fun h=>?_) fun h=>?_
 ·(conv=>whnf);left;refine bS h (fun h=>?_) fun h=>?_
  ·(conv=>whnf);left;(conv=>whnf);refine aX ?_;(conv=>whnf);refine aX ?_;(conv=>whnf);refine gS h fun h=>?_;(conv=>whnf);left;(conv=>whnf);refine aX ?_;cases h;exact eE (ii 16 [(16,17),(17,18),(18,19),(19,247),(20,21),(21,22)])
  exact qE (ii 16 [(16,17),(17,18),(18,19),(19,20),(20,21),(21,22)])
 (conv=>whnf);refine jN h fun⟨N,A,B,C,D,E,G⟩=>jM [(11,pp 8),(114,.bool N)] (T3 b.1 b.2.1 gs gk b.2.2.2.2.2.1 b.2.2.2.2.2.2.1 b.2.2.1 true b.2.2.2.1 b.2.2.2.2.1 m A d.2.1 B C D E b.2.2.2.2.2.2.2.2.1 b.2.2.2.2.2.2.2.2.2.1 b.2.2.2.2.2.2.2.2.2.2.1 z b.2.2.2.2.2.2.2.2.2.2.2.2.1 G) 22 (fun h=>?_) fun h=>?_
 ·(conv=>whnf);left;(conv=>whnf);refine cH [12,15,11,13,21] h Ze3 fun V h=>?_;(conv=>whnf);refine bS h (fun h=>?_) fun h=>?_
  ·(conv=>whnf);exact cG [12,15,11,13,21] h ZdR fun X h=>qE (ii 21 [(21,379)])
  exact qE (ii 22 [])
 (conv=>whnf);left;refine bS h (fun h=>?_) fun h=>?_
 ·(conv=>whnf);refine cG [8,11,12,13,21,15] h ZbM fun Y h=>?_;(conv=>whnf);obtain⟨hg,h⟩:=isS_e h;cases h
 (conv=>whnf);obtain⟨hg,h⟩:=isS_e h;cases h;refine gF 1 8 gs gk (@Sum.inr group_nodeD group_nodeU (group_nodeU.mk B G A C D E d.2.1 b.2.2.1 b.2.2.2.1 b.2.2.2.2.1)) [8,11,13,21,12,15] ?_;exact gI (ii 21 [])
theorem Zg9{a c e gs f tb l g i j k m r}(h:ZcT F a c e gs f tb l g i j k m=some r):FZ ml 54 (T0 c e gs f tb l g i j k m) [pp 0,.agg (Zau.c a)] (aI r.1) (T11 r.2.1 r.2.2.1 r.2.2.2.1 r.2.2.2.2.1 r.2.2.2.2.2.1 m r.2.2.2.2.2.2.1 r.2.2.2.2.2.2.2.1 r.2.2.2.2.2.2.2.2.1 r.2.2.2.2.2.2.2.2.2.1 r.2.2.2.2.2.2.2.2.2.2):=by
 refine fG Tryz.func54 ?_
 unfold ZcT at h
 (conv=>whnf);left;obtain⟨b,hy,h⟩:=ZaE h;rcases b with b|b
 ·replace h:=Zeg h;(conv=>whnf);refine cg [0,1,2,3,4,5,6,7,8,9] (ZbG hy) ?_;exact qG (ii 4 [(9,9),(10,4),(11,5),(12,6),(13,7),(14,8)])
 replace h:=Zef h;(conv=>whnf);refine cg [0,1,2,3,4,5,6,7,8,9] (ZbF hy) ?_;(conv=>whnf);left;refine bS h (fun h=>?_) fun h=>?_
 ·(conv=>whnf);obtain⟨hg,h⟩:=isS_e h;cases h;refine gF 1 202 b.2.1 b.2.2.1 (@Sum.inr group_nodeD group_nodeU (group_nodeU.mk b.2.2.2.2.2.2.2.2.1 b.2.2.2.2.2.2.2.2.2.1 b.2.2.2.2.2.2.1 b.2.2.2.2.2.2.2.2.2.2.1 b.2.2.2.2.2.2.2.2.2.2.2.1 b.2.2.2.2.2.2.2.2.2.2.2.2 b.2.2.2.2.2.2.2.1 b.2.2.2.1 b.2.2.2.2.1 b.2.2.2.2.2.1)) [202,203,205,206,204,207] ?_;exact gI (ii 4 [(9,9),(10,4),(11,5),(12,6),(13,7),(14,8)])
 (conv=>whnf);left;(conv=>whnf);refine cR h (fun h=>Zav (Zlm h) rfl) fun n h=>?_;(conv=>whnf);left;(conv=>whnf);refine aX ?_;obtain⟨d,hy,h⟩:=ZaE h;rcases d with d|d
 ·replace h:=Zeg h;(conv=>whnf);refine cg [0,1,2,3,4,5,6,7,202,8,9,203,204,205,206,207] (ZdW hy) ?_;exact qG (ii 10 [(10,1072),(11,1073),(12,1074),(13,1075),(14,1076)])
 replace h:=Zef h;(conv=>whnf);refine cg [0,1,2,3,4,5,6,7,202,8,9,203,204,205,206,207] (ZdV hy) ?_;exact qG (ii 10 [(10,1072),(11,1073),(12,1074),(13,1075),(14,1076)])
theorem Zhn{p a1 r}(h:ZdS F p a1=some r):FZ ml 160 [] [.agg (Zae.c p),AV.rp (cInt IntKind.i64 a1) 0] (.bool r) []:=by
 refine fA Tryz.func160 ?_
 unfold ZdS at h;exact qR
theorem ZdG{s f0 r}(h:ZaX F s f0=some r):FZ ml 159 [] [sM Zae.c s,AV.fn 160 ((AV.rp (cInt IntKind.i64 f0) 0)::[])] (aI r) []:=by
 refine fA Tryz.func159 ?_
 unfold ZaX at h
 (conv=>whnf);refine jS h fun o0 vu=>jT [] [] 0 (fun h k0 e=>?_) fun h=>?_
 ·(conv=>whnf);left;(conv=>whnf);refine lI (fun n' x'=>Zas F s f0 n' x') (fun x'=>[(0,sM Zae.c s),(1,AV.fn 160 ((AV.rp ((AV.int IntKind.i64 f0)::[]) 0)::[])),(7,aI (@Nat.cast Int instNatCastInt (List.length (List.map Zae.c s)))),(8,aI x')]) (fun x'=>[]) 0 (0:Int) [] h ?_;rintro a b h;rw[Zas.eq_2]at h;(conv=>whnf);left;refine bS h (fun h=>?_) fun h=>?_
  ·(conv=>whnf);left;(conv=>whnf);refine gX h fun h=>?_;(conv=>whnf);refine oB h fun d h=>?_;(conv=>whnf);left;(conv=>whnf);refine cL h Zhn fun f h=>?_;(conv=>whnf);left;refine bS h (fun h=>?_) fun h=>?_
   ·cases h;cases k0;exact rfl
   exact rE (a,(IntKind.wrap IntKind.i64 (b+(1:Int)))) [] h
  exact qE []
 exact qR
theorem Zer{id c l m r}(h:Zcj F id c l m=some r):FZ ml 107 (T6 c l m) [pp 0,aI id] (aI r) (T6 c l m):=by
 refine fG Tryz.func107 ?_
 unfold Zcj at h
 (conv=>whnf);left;(conv=>whnf);left;(conv=>whnf);left;(conv=>whnf);exact cL h ZdG fun a h=>qG [(0,0),(1,1),(2,2)]
theorem Zi9{a b r}(h:ZgZ F a b=some r):FZ ml 123 [] [aI a,aI b] (.agg (mesh_pair.c r)) []:=by
 refine fA Tryz.func123 ?_
 unfold ZgZ at h;exact qR
theorem ZhU{p c l m r}(h:ZeE F p c l m=some r):FZ ml 108 (T6 c l m) [pp 0,.agg (Zae.c p)] (.bool r) (T6 c l m):=by
 refine fG Tryz.func108 ?_
 unfold ZeE at h
 (conv=>whnf);left;(conv=>whnf);left;(conv=>whnf);refine cL h Zi9 fun e h=>?_;(conv=>whnf);refine aX ?_;(conv=>whnf);refine Or.inr (Zsp (ek:=(fun(d:mesh_pair)=>(AV.agg (mesh_pair.c d)))) (en:=(fun(d:Int)=>(AV.int IntKind.i64 d))) m e (0:Int) rfl rfl (fun a b=>(Zlv Tryz.underlying218 _ _ _ _ _ _).trans (by cases a;cases b;simp)) ⟨3,.int IntKind.i64 0,by kernel_rfl,by kernel_rfl,(Wk.refl _)⟩ ?_);exact qG [(0,0),(1,1),(2,2)]
theorem Zdt{i j l r}(h:ZaY F i j l=some r):FZ ml 161 [(0,(AO.rows true (List.map Zae.c l)))] [(AV.osw 0 4),aI i,aI j] (AV.osw 1 4) [(1,(AO.rows true (List.map Zae.c r)))]:=by
 unfold ZaY at h
 obtain⟨hg,h⟩:=grd_e h
 cases h
 obtain⟨g1,rfl,g3⟩:=hg
 have hF:=Zqx (G:=GM ml) (s:=List.map Zae.c l) (p:=true) (i:=Int.toNat i) Zot (by decide) (fun r hr=>by obtain⟨y,_,rfl⟩:=YK.1 hr;rfl) (by simpa using g3)
 rw[Int.toNat_of_nonneg g1]at hF
 have e:List.map Zae.c (List.take (Int.toNat i) l++List.drop (Int.toNat i+1) l)=List.take (Int.toNat i) (List.map Zae.c l)++List.drop (Int.toNat i+1) (List.map Zae.c l):=by rw[Yb,List.map_take,List.map_drop]
 rw[e];exact hF
theorem ZfG{i c l m r}(h:ZcK F i c l m=some r):FZ ml 109 (T6 c l m) [pp 0,aI i] (.agg (Zae.c r.1)) (T18 r.2.1 m r.2.2):=by
 refine fG Tryz.func109 ?_
 unfold ZcK at h
 (conv=>whnf);left;(conv=>whnf);refine gX h fun h=>?_;(conv=>whnf);refine oB h fun a h=>?_;(conv=>whnf);refine oB h fun b h=>?_;(conv=>whnf);left;(conv=>whnf);exact cG [1] h Zdt fun d h=>qG [(0,0),(1,1),(2,2),(3,609)]
end Go.T
