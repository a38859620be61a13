import Derived.Test.YtjpmdkgonlmddaaGreatDoorCertD
set_option linter.unusedVariables false
set_option maxRecDepth 200000
set_option maxHeartbeats 4000000
namespace Go.T
open Go Go.Ab Go.Proofs
variable {ml:Gv}{F:Nat}
theorem ZgO{id c l m r}(h:Zcz F id c l m=some r):FZ ml 73 (T6 c l m) [pp 0,aI id] (.tup [.agg (Zae.c r.1),.bool r.2.1]) (T18 r.2.2.1 m r.2.2.2):=by
 refine fG Tryz.func73 ?_
 unfold Zcz at h
 (conv=>whnf);left;(conv=>whnf);refine cH [0,1,2] h Zer fun a h=>?_;(conv=>whnf);refine jN h fun b=>jM [(0,pp 0),(4,pp 3),(6,aI a),(23,.bool b)] (T6 c l m++[(3,rF zr1)]) 4 (fun h=>?_) fun h=>?_
 ·(conv=>whnf);left;refine bS h (fun h=>qE [(0,0),(1,1),(2,2),(3,32)]) fun h=>?_;(conv=>whnf);refine gX h fun h=>?_;(conv=>whnf);refine oB h fun d h=>?_;(conv=>whnf);refine oB h fun e h=>?_;(conv=>whnf);exact cH [0,1,2] h ZhU fun f h=>qE [(0,0),(1,1),(2,2),(3,32)]
 (conv=>whnf);left;refine bS h (fun h=>qG [(0,0),(2,2),(3,1)]) fun h=>?_;(conv=>whnf);exact cG [0,1,2] h ZfG fun g h=>qG [(0,0),(1,1),(2,2),(3,71)]
theorem ZjB{a r}(h:Zfg F a=some r):FZ ml 32 [] [.str a] (.tup [aI r.1,.bool r.2]) []:=by
 refine fA Tryz.func32 ?_
 unfold Zfg at h
 (conv=>whnf);refine jS h fun o4 vu=>jT [] [] 0 (fun h k4 e=>?_) fun h=>?_
 ·(conv=>whnf);left;(conv=>whnf);refine lI (fun n' x'=>Zc4 F a n' x'.1 x'.2) (fun x'=>[(0,.str a),(4,aI x'.1),(5,aI x'.2)]) (fun x'=>[]) 0 ((0:Int),(9:Int)) [] h ?_;rintro d ⟨b,j⟩ h;dsimp only at h;rw[Zc4.eq_2]at h;(conv=>whnf);left;refine bS h (fun h=>?_) fun h=>?_
  ·(conv=>whnf);left;(conv=>whnf);refine gX h fun h=>?_;obtain⟨f,hy,h⟩:=ZaE h;refine opt_i f hy ?_;(conv=>whnf);refine jN h fun c=>jM [(0,.str a),(4,aI b),(5,aI c)] [] 0 (fun h=>qE []) fun h=>?_;(conv=>whnf);left;refine bS h (fun h=>?_) fun h=>?_
   ·(conv=>whnf);left;(conv=>whnf);refine gX h fun h=>?_;obtain⟨g,hy,h⟩:=ZaE h;refine opt_i g hy ?_;(conv=>whnf);refine bS h (fun h=>?_) fun h=>?_
    ·(conv=>whnf);refine gX h fun h=>?_;obtain⟨i,hy,h⟩:=ZaE h;refine opt_i i hy ?_;(conv=>whnf);refine aX ?_;cases h;cases k4;exact rfl
    (conv=>whnf);refine aX ?_;cases h;cases k4;exact rfl
   exact rE (d,(IntKind.wrap IntKind.i64 (b+(1:Int))),c) [] h
  exact qE []
 exact qR
theorem Zjd{f n r}(h:ZfT F f n=some r):FZ ml 34 [] [sM Zaf.c f,aI n] (.agg [aI r.1,aI r.2.1,aI r.2.2.1,aI r.2.2.2.1,aI r.2.2.2.2.1,aI r.2.2.2.2.2.1,aI r.2.2.2.2.2.2.1,.bool r.2.2.2.2.2.2.2.1,.osw 0 2,.str r.2.2.2.2.2.2.2.2.1]) [(0,rT Zab.c r.2.2.2.2.2.2.2.2.2)]:=by
 refine fG Tryz.func34 ?_
 unfold ZfT at h
 (conv=>whnf);refine Or.inr (Zn0 8 2 _ rfl rfl ?_);(conv=>whnf);refine aX ?_;(conv=>whnf);refine oB h fun a h=>?_;(conv=>whnf);refine aX ?_;(conv=>whnf);refine oB h fun b h=>?_;(conv=>whnf);refine aX ?_;(conv=>whnf);refine oB h fun d h=>?_;(conv=>whnf);refine aX ?_;(conv=>whnf);refine oB h fun e h=>?_;(conv=>whnf);refine aX ?_;(conv=>whnf);refine oB h fun g h=>?_;(conv=>whnf);refine aX ?_;(conv=>whnf);refine oB h fun i h=>?_;(conv=>whnf);refine aX ?_;(conv=>whnf);refine oB h fun j h=>?_;(conv=>whnf);refine aX ?_;(conv=>whnf);refine oB h fun k h=>?_;(conv=>whnf);refine gS h fun h=>?_;(conv=>whnf);refine oB h fun l h=>?_;(conv=>whnf);refine Or.inr (ZiZ 8 2 _ rfl rfl ?_);(conv=>whnf);refine Or.inr (Zn0 8 2 _ rfl rfl ?_);(conv=>whnf);refine aX ?_;(conv=>whnf);refine jN h fun m=>jM [(4,pp 0),(5,pp 1)] [(0,rF [aI 0,aI 0,aI 0,aI 0,aI 0,aI 0,aI 0,.bool false,.osw 2 2,.str []]),(1,rF [aI a.N,aI b.N,aI d.N,aI e.N,aI g.N,aI i.N,aI j.N,.bool (k.N==(1:Int)),.osw 3 2,.str l.S]),(2,rT Zab.c []),(3,rT Zab.c m)] 4 (fun h=>?_) fun h=>?_
 ·(conv=>whnf);left;(conv=>whnf);refine lI (fun n' x'=>Zc3 F f n n' x'.1 x'.2) (fun x'=>[(0,sM Zaf.c f),(4,pp 0),(5,pp 1),(48,aI n),(49,aI x'.1)]) (fun x'=>[(0,rF [aI 0,aI 0,aI 0,aI 0,aI 0,aI 0,aI 0,.bool false,.osw 2 2,.str []]),(1,rF [aI a.N,aI b.N,aI d.N,aI e.N,aI g.N,aI i.N,aI j.N,.bool (k.N==(1:Int)),.osw 3 2,.str l.S]),(2,rT Zab.c []),(3,rT Zab.c x'.2)]) 4 ((0:Int),[]) [(0,32),(1,1376),(2,33),(3,1344)] h ?_;rintro o ⟨p,q⟩ h;dsimp only at h;rw[Zc3.eq_2]at h;(conv=>whnf);left;refine bS h (fun h=>?_) fun h=>?_
  ·(conv=>whnf);left;(conv=>whnf);refine gX h fun h=>?_;(conv=>whnf);refine oB h fun s h=>?_;(conv=>whnf);refine gX h fun h=>?_;(conv=>whnf);refine oB h fun t h=>?_;(conv=>whnf);left;(conv=>whnf);left;(conv=>whnf);refine aX ?_;(conv=>whnf);refine aX ?_;(conv=>whnf);refine gS h fun h=>?_;(conv=>whnf);left;(conv=>whnf);refine aX ?_;exact rE (o,(IntKind.wrap IntKind.i64 (p+(1:Int))),(q++((Zab.mk s.N t.S)::[]))) [(0,0),(1,1),(2,2),(3,676)] h
  exact qE (ii 4 [])
 exact qG [(0,3)]
theorem Zkb{b r}(h:ZfE F b=some r):FZ ml 11 [] [.str b] (.tup [.agg (Zac.c r.1),aI r.2]) []:=by
 refine fK Tryz.func11 ?_
 unfold ZfE at h
 (conv=>whnf);left;(conv=>whnf);left;(conv=>whnf);left;(conv=>whnf);refine cL h ZjB fun a h=>?_;(conv=>whnf);left;refine bS h (fun h=>qK) fun h=>?_;(conv=>whnf);refine jN h fun d=>jM [(0,.str b),(2,pp 0),(4,.osw 1 1),(5,aI a.1)] [(0,rF [aI 0,aI 0,aI 0,aI 0,aI 0,aI 0,aI 0,.bool false,.esl,.str []]),(1,rT cJ d)] 2 (fun h=>?_) fun h=>?_
 ·(conv=>whnf);left;(conv=>whnf);refine lI (fun n' x'=>Zdw F a n' x'.1 x'.2) (fun x'=>[(0,.str b),(2,pp 0),(4,.osw 1 1),(5,aI a.1),(18,aI a.1),(19,aI x'.1)]) (fun x'=>[(0,rF [aI 0,aI 0,aI 0,aI 0,aI 0,aI 0,aI 0,.bool false,.esl,.str []]),(1,rT cJ x'.2)]) 2 ((0:Int),((1:Int)::((1:Int)::((1:Int)::((1:Int)::((1:Int)::((1:Int)::((1:Int)::((1:Int)::((1:Int)::[])))))))))) [(0,32),(1,96)] h ?_;rintro e ⟨f,g⟩ h;dsimp only at h;rw[Zdw.eq_2]at h;(conv=>whnf);left;refine bS h (fun h=>?_) fun h=>?_
  ·(conv=>whnf);left;(conv=>whnf);left;(conv=>whnf);refine And.intro (ZaF.cons rfl (ZaF.cons rfl ZaF.nil)) ?_;(conv=>whnf);refine aX ?_;(conv=>whnf);refine gS h fun h=>?_;exact rE (e,(IntKind.wrap IntKind.i64 (f+(1:Int))),(g++((1:Int)::((3:Int)::[])))) [(0,0),(1,98)] h
  exact qE [(0,0),(1,1)]
 (conv=>whnf);left;(conv=>whnf);refine aX ?_;(conv=>whnf);refine aX ?_;(conv=>whnf);refine gS h fun h=>?_;(conv=>whnf);refine gX h fun h=>?_;(conv=>whnf);left;obtain⟨i,hy,h⟩:=ZaE h;refine⟨_,_,(ZdE (cons2 (YI AV.sl rQ) (cons2 (YI AV.sl rQ) rfl)) (Zav (Zfj hy) rfl)),Or.inr ⟨[66,130],rfl,?_⟩⟩;(conv=>whnf);refine jN h fun j=>jM [(2,pp 0),(5,aI a.1),(7,sM Zaf.c i.2),(42,.bool j)] [(0,rF [aI 0,aI 0,aI 0,aI 0,aI 0,aI 0,aI 0,.bool false,.esl,.str []])] 1 (fun h=>?_) fun h=>?_
 ·(conv=>whnf);left;refine bS h (fun h=>qE [(0,0)]) fun h=>?_;(conv=>whnf);refine aX ?_;(conv=>whnf);refine oB h fun k h=>?_;exact qE [(0,0)]
 (conv=>whnf);left;refine bS h (fun h=>qK) fun h=>?_;(conv=>whnf);left;(conv=>whnf);exact cR h (fun h=>Zav (Zjd h) rfl) fun l h=>qK
theorem Zhh{m rf l a b d r}(h:Zdb F m rf l a b d=some r):FZ ml 110 (T1 rf l a b d) [pp 0,.agg (Zac.c m)] (.bool r) (T1 rf l a b d):=by
 refine fG Tryz.func110 ?_
 unfold Zdb at h
 (conv=>whnf);left;(conv=>whnf);refine jN h fun i=>jM [(3,pp 5),(56,.bool i)] (T1 rf l a b d++[(5,rF (Zac.c m))]) 6 (fun h=>?_) fun h=>?_
 ·(conv=>whnf);left;refine bS h (fun h=>qE (ii 5 [(5,32)])) fun h=>?_;(conv=>whnf);refine bS h (fun h=>qE (ii 5 [(5,32)])) fun h=>?_;(conv=>whnf);refine bS h (fun h=>qE (ii 5 [(5,32)])) fun h=>?_;(conv=>whnf);refine bS h (fun h=>qE (ii 5 [(5,32)])) fun h=>?_;(conv=>whnf);left;(conv=>whnf);exact cL h ZaJ fun o h=>qE (ii 5 [(5,32)])
 (conv=>whnf);left;refine bS h (fun h=>qG (ii 5 [])) fun h=>?_;(conv=>whnf);refine jN h fun j=>jM [(3,pp 5),(98,.bool j)] (T1 rf l a b d++[(5,rF (Zac.c m))]) 6 (fun h=>qE (ii 6 [])) fun h=>?_;(conv=>whnf);left;refine bS h (fun h=>qG (ii 5 [])) fun h=>?_;(conv=>whnf);refine jS h fun o6 vu=>jT [] (T1 rf l a b d) 5 (fun h k6 e=>?_) fun h=>?_
 ·(conv=>whnf);left;(conv=>whnf);refine lI (fun n' x'=>Zbv F m n' x'.1 x'.2) (fun x'=>[(3,pp 5),(5,aI x'.1),(102,sM Zab.c m.Entries),(103,aI (@Nat.cast Int instNatCastInt (List.length (List.map Zab.c m.Entries)))),(104,aI x'.2)]) (fun x'=>(T1 rf l a b d++[(5,rF (Zac.c m))])) 6 (m.LogTerm,(0:Int)) (ii 6 []) h ?_;rintro k ⟨p,f⟩ h;dsimp only at h;rw[Zbv.eq_2]at h;(conv=>whnf);left;refine bS h (fun h=>?_) fun h=>?_
  ·(conv=>whnf);left;(conv=>whnf);refine gX h fun h=>?_;(conv=>whnf);refine oB h fun g h=>?_;(conv=>whnf);left;(conv=>whnf);refine jN h fun n=>jM [(3,pp 5),(7,pp 6),(102,sM Zab.c m.Entries),(103,aI (@Nat.cast Int instNatCastInt (List.length (List.map Zab.c m.Entries)))),(104,aI f),(125,.bool n)] (T1 rf l a b d++[(5,rF (Zac.c m)),(6,rF (Zab.c g))]) 7 (fun h=>qE (ii 6 [(6,102)])) fun h=>?_;(conv=>whnf);left;refine bS h (fun h=>?_) fun h=>?_
   ·cases h;cases k6;exact gI (ii 5 [])
   exact rE (k,g.Term,(IntKind.wrap IntKind.i64 (f+(1:Int)))) (ii 6 []) h
  exact qE (ii 5 [])
 exact qG (ii 5 [])
theorem ZhT{m rf l a b d r}(h:ZdC F m rf l a b d=some r):FZ ml 111 (T1 rf l a b d) [pp 0,.agg (Zac.c m)] (.tup []) (T19 r.1 r.2.1 r.2.2.1 r.2.2.2.1 r.2.2.2.2):=by
 refine fG Tryz.func111 ?_
 unfold ZdC at h
 (conv=>whnf);left;(conv=>whnf);left;(conv=>whnf);left;refine bS h (fun h=>?_) fun h=>?_
 ·(conv=>whnf);left;obtain⟨f,hy,h⟩:=ZaE h;refine cW [0,1,2,3,4] (ZaH hy) ?_;exact qG [(0,0),(4,4),(5,1),(6,2),(7,3),(8,325)]
 (conv=>whnf);refine jN h fun e=>jM [(0,pp 0),(3,pp 5),(13,.bool e)] (T1 rf l a b d++[(5,rF (Zac.c m))]) 6 (fun h=>qE (ii 5 [(5,32)])) fun h=>?_;(conv=>whnf);left;refine bS h (fun h=>?_) fun h=>?_
 ·(conv=>whnf);left;obtain⟨g,hy,h⟩:=ZaE h;refine cW [0,1,2,3,4] (ZaH hy) ?_;exact qG [(0,0),(4,4),(5,1),(6,2),(7,3),(8,139)]
 exact qG [(0,0),(5,1),(6,2),(7,3),(8,4)]
theorem Zid{t n of r}(h:ZeW F t n of=some r):FZ ml 162 [] [.agg (Zag.c t),aI n,aI of] (.bool r) []:=by
 refine fA Tryz.func162 ?_
 unfold ZeW at h
 (conv=>whnf);left;(conv=>whnf);left;(conv=>whnf);refine cL h ZcE fun a h=>?_;(conv=>whnf);left;refine bS h (fun h=>qR) fun h=>?_;(conv=>whnf);left;(conv=>whnf);exact cL h ZdO fun b h=>qR
theorem Zh9{m rf l a b d r}(h:Zd4 F m rf l a b d=some r):FZ ml 112 (T1 rf l a b d) [pp 0,.agg (Zac.c m)] (.tup []) (T37 r.1 l a b r.2):=by
 refine fG Tryz.func112 ?_
 unfold Zd4 at h
 (conv=>whnf);left;(conv=>whnf);refine jN h fun e=>jM [(0,pp 0),(3,pp 5),(4,.bool e)] (T1 rf l a b d++[(5,rF (Zac.c m))]) 6 (fun h=>?_) fun h=>?_
 ·(conv=>whnf);left;refine bS h (fun h=>?_) fun h=>?_
  ·(conv=>whnf);refine bS h (fun h=>?_) fun h=>?_
   ·(conv=>whnf);left;(conv=>whnf);exact cL h Zid fun g h=>qE (ii 5 [(5,32)])
   exact qE (ii 5 [(5,32)])
  (conv=>whnf);refine bS h (fun h=>?_) fun h=>?_
  ·(conv=>whnf);refine bS h (fun h=>?_) fun h=>?_
   ·(conv=>whnf);left;(conv=>whnf);exact cL h Zid fun i h=>qE (ii 5 [(5,32)])
   exact qE (ii 5 [(5,32)])
  exact qE (ii 5 [(5,32)])
 (conv=>whnf);refine jN h fun f=>jM [(0,pp 0),(3,pp 5),(4,.bool e)] (T1 f l a b d++[(5,rF (Zac.c m))]) 6 (fun h=>qE (ii 6 [])) fun h=>?_;(conv=>whnf);left;obtain⟨j,hy,h⟩:=ZaE h;refine cW [0,1,2,3,4] (ZaH hy) ?_;exact qG (ii 5 [(5,171)])
theorem Zhm{m rf l a b d r}(h:Zb1 F m rf l a b d=some (Sum.inl r)):FZ ml 113 (T1 rf l a b d) [pp 0,.agg (Zac.c m)] (.tup []) (T19 r.1 r.2.1 r.2.2.1 r.2.2.2.1 r.2.2.2.2):=by
 refine fG Tryz.func113 ?_
 unfold Zb1 at h
 (conv=>whnf);left;(conv=>whnf);refine jN h fun e=>jM [(0,pp 0),(3,pp 5),(24,.bool e)] (T1 rf l a b d++[(5,rF (Zac.c m))]) 6 (fun h=>?_) fun h=>?_
 ·(conv=>whnf);left;refine bS h (fun h=>qE (ii 5 [(5,32)])) fun h=>?_;(conv=>whnf);refine bS h (fun h=>qE (ii 5 [(5,32)])) fun h=>?_;(conv=>whnf);left;(conv=>whnf);exact cL h ZaJ fun f h=>qE (ii 5 [(5,32)])
 (conv=>whnf);left;refine bS h (fun h=>qG [(0,0),(5,1),(6,2),(7,3),(8,4)]) fun h=>?_;(conv=>whnf);left;(conv=>whnf);refine aX ?_;(conv=>whnf);refine aX ?_;(conv=>whnf);refine gS h fun h=>?_;(conv=>whnf);left;(conv=>whnf);refine aX ?_;(conv=>whnf);left;(conv=>whnf);refine cL h (fun h=>aE (Zd9 h)) fun g h=>?_;(conv=>whnf);refine aX ?_;(conv=>whnf);left;refine bS h (fun h=>?_) fun h=>?_
 ·(conv=>whnf);refine cG [0,294,2,3,4] h Zct fun i h=>?_;cases h
 cases h;exact gE [(0,0),(1,1),(5,294),(6,2),(7,3),(8,4)]
theorem Zhl{m rf l a b d r}(h:Zb1 F m rf l a b d=some (Sum.inr r)):FZ ml 113 (T1 rf l a b d) [pp 0,.agg (Zac.c m)] (.tup []) [(0,rF (Zah.c r.1++[.osw 5 1,.osw 6 1,.osw 7 1,.osw 8 10])),(2,rT cJ r.2.1),(3,rT cJ r.2.2.1),(5,rT cJ r.2.2.2.1),(6,rT cJ r.2.2.2.2.1),(7,rT cJ r.2.2.2.2.2.1),(8,rT Zac.c r.2.2.2.2.2.2)]:=by
 refine fG Tryz.func113 ?_
 unfold Zb1 at h
 (conv=>whnf);left;(conv=>whnf);refine jN h fun e=>jM [(0,pp 0),(3,pp 5),(24,.bool e)] (T1 rf l a b d++[(5,rF (Zac.c m))]) 6 (fun h=>?_) fun h=>?_
 ·(conv=>whnf);left;refine bS h (fun h=>qE (ii 5 [(5,32)])) fun h=>?_;(conv=>whnf);refine bS h (fun h=>qE (ii 5 [(5,32)])) fun h=>?_;(conv=>whnf);left;(conv=>whnf);exact cL h ZaJ fun f h=>qE (ii 5 [(5,32)])
 (conv=>whnf);left;refine bS h (fun h=>?_) fun h=>?_
 ·cases h
 (conv=>whnf);left;(conv=>whnf);refine aX ?_;(conv=>whnf);refine aX ?_;(conv=>whnf);refine gS h fun h=>?_;(conv=>whnf);left;(conv=>whnf);refine aX ?_;(conv=>whnf);left;(conv=>whnf);refine cL h (fun h=>aE (Zd9 h)) fun g h=>?_;(conv=>whnf);refine aX ?_;(conv=>whnf);left;refine bS h (fun h=>?_) fun h=>?_
 ·(conv=>whnf);exact cG [0,294,2,3,4] h Zct fun i h=>qG (ii 5 [(5,843),(6,844),(7,845),(8,846)])
 cases h
theorem Zia{m rf l a b d r}(h:Zd5 F m rf l a b d=some r):FZ ml 114 (T1 rf l a b d) [pp 0,.agg (Zac.c m)] (.tup []) (T19 r.1 r.2.1 r.2.2.1 r.2.2.2.1 r.2.2.2.2):=by
 refine fG Tryz.func114 ?_
 unfold Zd5 at h
 (conv=>whnf);left;(conv=>whnf);refine jN h fun e=>jM [(0,pp 0),(3,pp 5),(17,.bool e)] (T1 rf l a b d++[(5,rF (Zac.c m))]) 6 (fun h=>?_) fun h=>?_
 ·(conv=>whnf);left;refine bS h (fun h=>qE (ii 5 [(5,32)])) fun h=>?_;(conv=>whnf);exact cH [0,1,2,3,4] h Zbc fun f h=>qE (ii 5 [(5,32)])
 (conv=>whnf);left;refine bS h (fun h=>qG [(0,0),(5,1),(6,2),(7,3),(8,4)]) fun h=>?_;(conv=>whnf);left;(conv=>whnf);refine cL h ZcZ fun g h=>?_;(conv=>whnf);refine aX ?_;(conv=>whnf);left;refine bS h (fun h=>?_) fun h=>?_
 ·(conv=>whnf);refine gX h fun h=>?_;(conv=>whnf);refine oB h fun i h=>?_;(conv=>whnf);refine oB h fun j h=>?_;(conv=>whnf);refine gX h fun h=>?_;(conv=>whnf);refine oB h fun k h=>?_;(conv=>whnf);refine oB h fun n h=>?_;(conv=>whnf);refine gX h fun h=>?_;(conv=>whnf);refine oB h fun o h=>?_;(conv=>whnf);refine oB h fun p h=>?_;(conv=>whnf);refine aX ?_;(conv=>whnf);exact cG [0,1,2,3,4] h Zeq fun q h=>qG [(0,0),(4,4),(5,1),(6,2),(7,3),(8,1451)]
 (conv=>whnf);refine gX h fun h=>?_;(conv=>whnf);refine oB h fun s h=>?_;(conv=>whnf);refine oB h fun t h=>?_;(conv=>whnf);refine gX h fun h=>?_;(conv=>whnf);refine oB h fun u h=>?_;(conv=>whnf);refine oB h fun v h=>?_;(conv=>whnf);refine aX ?_;(conv=>whnf);refine gX h fun h=>?_;(conv=>whnf);refine oB (c:=cInt IntKind.i64) h fun w h=>?_;(conv=>whnf);refine oB (c:=cInt IntKind.i64) h fun x h=>?_;(conv=>whnf);refine gX h fun h=>?_;(conv=>whnf);refine oB h fun y h=>?_;(conv=>whnf);refine oB h fun z h=>?_;(conv=>whnf);refine aX ?_;(conv=>whnf);refine cG [0,1,2,3,4] h Zed fun A h=>?_;(conv=>whnf);refine gX h fun h=>?_;(conv=>whnf);refine oB h fun B h=>?_;(conv=>whnf);refine oB h fun C h=>?_;(conv=>whnf);refine cH [0,1,2,3,4] h Zbc fun D h=>?_;(conv=>whnf);refine aX ?_;(conv=>whnf);left;refine bS h (fun h=>?_) fun h=>?_
 ·(conv=>whnf);exact cG [0,1,2,3,4] h Zeq fun E h=>qG [(0,0),(4,4),(5,1),(6,2),(7,3),(8,2027)]
 exact qG [(0,0),(5,1),(6,2),(7,3),(8,4)]
theorem Zfm{m rf l a b d r}(h:Zci F m rf l a b d=some r):FZ ml 164 (T1 rf l a b d) [pp 0,.agg (Zac.c m)] (.tup []) [(0,rF (Zah.c r++[.osw 5 1,.osw 2 1,.osw 3 1,.osw 4 10])),(1,rT cJ l),(2,rT cJ a),(3,rT cJ b),(4,rT Zac.c d),(5,.rows true [])]:=by
 refine fG Tryz.func164 ?_
 unfold Zci at h
 (conv=>whnf);left;(conv=>whnf);refine Or.inr (stV_i 1 _ _ rfl rfl rfl ?_);exact qG (ii 5 [(5,640)])
theorem ZlR{t a of b fixed r}(h:Zhu F t a of b fixed=some r):FZ ml 165 [] [.agg (Zag.c t),aI a,aI of,sM Zab.c b,aI fixed] (.tup [.agg (Zag.c r.1),.bool r.2]) []:=by
 refine fK Tryz.func165 ?_
 unfold Zhu at h
 (conv=>whnf);left;(conv=>whnf);left;(conv=>whnf);refine jN h fun j=>jM [(1,aI a),(2,aI of),(3,sM Zab.c b),(4,aI fixed),(5,pp 0),(10,pp 1),(32,.bool j)] (T40 t 0 0) 2 (fun h=>?_) fun h=>?_
 ·(conv=>whnf);left;(conv=>whnf);left;(conv=>whnf);refine cL h ZcE fun q h=>?_;(conv=>whnf);refine bS h (fun h=>qE [(0,32),(1,64)]) fun h=>?_;(conv=>whnf);refine bS h (fun h=>qE [(0,32),(1,64)]) fun h=>?_;(conv=>whnf);refine bS h (fun h=>qE [(0,32),(1,64)]) fun h=>?_;(conv=>whnf);left;(conv=>whnf);exact cL h Zf6 fun s h=>qE [(0,32),(1,64)]
 (conv=>whnf);left;refine bS h (fun h=>qK) fun h=>?_;(conv=>whnf);refine jS h fun o1 ⟨d,k,f⟩=>jT [(1,aI (d)),(2,aI (k)),(3,sM Zab.c f),(4,aI fixed),(5,pp 0),(10,pp 1)] (T40 t 0 0) 2 (fun h k1 e=>?_) fun h=>?_
 ·(conv=>whnf);left;refine bS h (fun h=>?_) fun h=>?_
  ·(conv=>whnf);left;refine bS h (fun h=>?_) fun h=>?_
   ·(conv=>whnf);left;(conv=>whnf);refine cR h (fun h=>aW (ZfQ h)) fun u h=>?_;cases h;cases k1;exact kV
   (conv=>whnf);refine gX h fun h=>?_;(conv=>whnf);refine oB h fun v h=>?_;(conv=>whnf);refine aX ?_;(conv=>whnf);left;refine bS h (fun h=>?_) fun h=>?_
   ·(conv=>whnf);left;cases h;cases k1;exact kV
   (conv=>whnf);refine aX ?_;(conv=>whnf);refine gX h fun h=>?_;(conv=>whnf);refine gS h fun h=>?_;(conv=>whnf);refine gS h fun h=>?_;(conv=>whnf);refine aX ?_;cases h;cases e;exact eV [(0,0),(1,1)]
  exact qE [(0,0),(1,1)]
 (conv=>whnf);left;(conv=>whnf);refine cL h Zeu fun w h=>?_;(conv=>whnf);refine jN h fun l=>jM [(1,aI d),(3,sM Zab.c f),(4,aI fixed),(5,pp 0),(10,pp 1),(80,.bool l)] (T40 t 0 0) 2 (fun h=>qE [(0,0),(1,1)]) fun h=>?_;(conv=>whnf);left;refine bS h (fun h=>qK) fun h=>?_;(conv=>whnf);refine jN h fun⟨m,n⟩=>jM [(3,sM Zab.c m),(4,aI fixed),(5,pp 0),(10,pp 1),(15,aI n)] (T40 t 0 0) 2 (fun h=>?_) fun h=>?_
 ·(conv=>whnf);left;(conv=>whnf);refine lI (fun n' x'=>ZeZ F t n' x'.1 x'.2) (fun x'=>[(3,sM Zab.c x'.1),(4,aI fixed),(5,pp 0),(10,pp 1),(15,aI x'.2)]) (fun x'=>(T40 t 0 0)) 2 (f,(IntKind.wrap IntKind.i64 (d-t.Base))) [(0,0),(1,1)] h ?_;rintro o ⟨g,i⟩ h;dsimp only at h;rw[ZeZ.eq_2]at h;(conv=>whnf);refine jN h fun p=>jM [(3,sM Zab.c g),(4,aI fixed),(5,pp 0),(10,pp 1),(15,aI i),(108,.bool p)] (T40 t 0 0) 2 (fun h=>?_) fun h=>?_
  ·(conv=>whnf);left;refine bS h (fun h=>?_) fun h=>?_
   ·(conv=>whnf);refine bS h (fun h=>?_) fun h=>?_
    ·(conv=>whnf);refine gX h fun h=>?_;(conv=>whnf);refine oB h fun x h=>?_;(conv=>whnf);refine aX ?_;(conv=>whnf);refine oB h fun y h=>?_;exact qE [(0,0),(1,1)]
    exact qE [(0,0),(1,1)]
   exact qE [(0,0),(1,1)]
  (conv=>whnf);left;refine bS h (fun h=>?_) fun h=>?_
  ·(conv=>whnf);left;(conv=>whnf);refine aX ?_;(conv=>whnf);refine aX ?_;(conv=>whnf);refine gS h fun h=>?_;(conv=>whnf);refine gS h fun h=>?_;(conv=>whnf);refine aX ?_;exact rV (o,(List.drop (Int.toNat (1:Int)) g),(IntKind.wrap IntKind.i64 (i+(1:Int)))) [(0,0),(1,1)] h
  exact qE [(0,0),(1,1)]
 (conv=>whnf);left;refine bS h (fun h=>?_) fun h=>?_
 ·(conv=>whnf);left;(conv=>whnf);exact cR h (fun h=>aW (ZfQ h)) fun z h=>qK
 (conv=>whnf);left;refine bS h (fun h=>qK) fun h=>?_;(conv=>whnf);left;(conv=>whnf);exact cR h ZfQ fun A h=>qK
theorem ZhS{m rf l a b d r}(h:ZdA F m rf l a b d=some r):FZ ml 115 (T1 rf l a b d) [pp 0,.agg (Zac.c m)] (.tup []) [(0,rF (Zah.c r.1++[.osw 5 1,.osw 2 1,.osw 3 1,.osw 6 10])),(1,rT cJ l),(2,rT cJ a),(3,rT cJ b),(5,.rows true []),(6,rT Zac.c r.2)]:=by
 refine fG Tryz.func115 ?_
 unfold ZdA at h
 (conv=>whnf);left;(conv=>whnf);refine cG [0,1,2,3,4] h Zfm fun e h=>?_;(conv=>whnf);left;(conv=>whnf);refine cR h ZlR fun f h=>?_;(conv=>whnf);left;(conv=>whnf);refine aX ?_;(conv=>whnf);left;refine bS h (fun h=>?_) fun h=>?_
 ·(conv=>whnf);refine cH [0,133,2,3,4] h Zbc fun g h=>?_;(conv=>whnf);left;obtain⟨i,hy,h⟩:=ZaE h;refine cW [0,133,2,3,4] (ZaH hy) ?_;exact qG (ii 5 [(5,133),(6,1317)])
 (conv=>whnf);refine cH [0,133,2,3,4] h Zbc fun j h=>?_;(conv=>whnf);refine aX ?_;(conv=>whnf);left;obtain⟨k,hy,h⟩:=ZaE h;refine cW [0,133,2,3,4] (ZaH hy) ?_;exact qG (ii 5 [(5,133),(6,2309)])
theorem Zg6{m rf l a b d r}(h:ZcS F m rf l a b d=some r):FZ ml 116 (T1 rf l a b d) [pp 0,.agg (Zac.c m)] (.tup []) [(0,rF (Zah.c r.1++[.osw 5 1,.osw 2 1,.osw 3 1,.osw 6 10])),(1,rT cJ l),(2,rT cJ a),(3,rT cJ b),(5,.rows true []),(6,rT Zac.c r.2)]:=by
 refine fG Tryz.func116 ?_
 unfold ZcS at h
 (conv=>whnf);left;(conv=>whnf);refine cG [0,1,2,3,4] h Zfm fun e h=>?_;(conv=>whnf);refine aX ?_;(conv=>whnf);refine jN h fun f=>jM [(0,pp 0),(3,pp 5)] [(0,rF (Zah.c f++[.osw 6 1,.osw 2 1,.osw 3 1,.osw 4 10])),(1,rT cJ l),(2,rT cJ a),(3,rT cJ b),(4,rT Zac.c d),(5,rF (Zac.c m)),(6,rT cJ [])] 7 (fun h=>?_) fun h=>?_
 ·(conv=>whnf);left;refine bS h (fun h=>?_) fun h=>?_
  ·(conv=>whnf);left;(conv=>whnf);left;(conv=>whnf);left;(conv=>whnf);refine cL h Zeu fun n h=>?_;(conv=>whnf);refine aX ?_;(conv=>whnf);refine jN h fun g=>jM [(0,pp 0),(3,pp 5),(4,pp 6),(40,.bool g)] [(0,rF (Zah.c e++[.osw 7 1,.osw 2 1,.osw 3 1,.osw 4 10])),(1,rT cJ l),(2,rT cJ a),(3,rT cJ b),(4,rT Zac.c d),(5,rF (Zac.c m)),(6,rF [aI m.Index,aI m.LogTerm,.esl]),(7,rT cJ [])] 8 (fun h=>?_) fun h=>?_
   ·(conv=>whnf);left;refine bS h (fun h=>?_) fun h=>?_
    ·cases h;exact eE (ii 5 [(5,32),(6,576),(7,133)])
    cases h;exact eE (ii 5 [(5,32),(6,576),(7,133)])
   (conv=>whnf);refine jN h fun⟨i,j,k⟩=>jM [(0,pp 0),(3,pp 5),(4,pp 6)] [(0,rF (Zah.c e++[.osw 7 1,.osw 2 1,.osw 3 1,.osw 4 10])),(1,rT cJ l),(2,rT cJ a),(3,rT cJ b),(4,rT Zac.c d),(5,rF (Zac.c m)),(6,rF [aI i,aI j,sM Zab.c k]),(7,rT cJ [])] 8 (fun h=>?_) fun h=>?_
   ·(conv=>whnf);left;refine bS h (fun h=>?_) fun h=>?_
    ·(conv=>whnf);left;(conv=>whnf);exact cR h Zhv fun o h=>qE (ii 8 [])
    cases h;exact eW (ii 8 [])
   exact qE (ii 6 [(6,7)])
  cases h;exact eE (ii 5 [(5,32),(6,133)])
 (conv=>whnf);left;obtain⟨p,hy,h⟩:=ZaE h;refine cW [0,6,2,3,4] (ZaH hy) ?_;exact qG (ii 5 [(5,6),(6,300)])
theorem ZjU{r_ m r}(h:Zgc F r_ m=some r):FZ ml 74 [] [.agg (Zad.c r_),.agg (Zac.c m)] (.tup [.agg [aI r.1,sM cJ r.2.1,aI r.2.2.1,aI r.2.2.2.1,aI r.2.2.2.2.1,aI r.2.2.2.2.2.1,aI r.2.2.2.2.2.2.1,aI r.2.2.2.2.2.2.2.1,sM Zab.c r.2.2.2.2.2.2.2.2.1,.str r.2.2.2.2.2.2.2.2.2.1,aI r.2.2.2.2.2.2.2.2.2.2.1,aI r.2.2.2.2.2.2.2.2.2.2.2.1,aI r.2.2.2.2.2.2.2.2.2.2.2.2.1,.osw 0 1,.osw 1 1,.osw 2 1],.osw 3 10]) (T41 r.2.2.2.2.2.2.2.2.2.2.2.2.2.1 r.2.2.2.2.2.2.2.2.2.2.2.2.2.2.1 r.2.2.2.2.2.2.2.2.2.2.2.2.2.2.2.1++[(3,rT Zac.c r.2.2.2.2.2.2.2.2.2.2.2.2.2.2.2.2)]):=by
 refine fG Tryz.func74 ?_
 unfold Zgc at h
 (conv=>whnf);left;(conv=>whnf);left;(conv=>whnf);left;(conv=>whnf);left;(conv=>whnf);refine cR h Zfy fun a h=>?_;(conv=>whnf);refine jN h fun d=>jM [(3,pp 0),(4,pp 1),(6,pp 2),(17,.bool d)] (T42 m a.1 a.2.1 a.2.2.1 a.2.2.2.1 a.2.2.2.2) 7 (fun h=>?_) fun h=>?_
 ·(conv=>whnf);left;(conv=>whnf);left;(conv=>whnf);refine cL h ZbQ fun p h=>?_;(conv=>whnf);refine bS h (fun h=>qE [(0,64),(1,96),(2,192),(3,193),(4,194),(5,195),(6,196)]) fun h=>?_;(conv=>whnf);exact cH [192,193,194,195,196] h Zhh fun q h=>qE [(0,64),(1,96),(2,192),(3,193),(4,194),(5,195),(6,196)]
 (conv=>whnf);left;refine bS h (fun h=>?_) fun h=>?_
 ·cases h;exact gE [(0,3),(1,4),(2,5),(3,167)]
 (conv=>whnf);refine aX ?_;(conv=>whnf);refine jN h fun⟨e,f,g,i⟩=>jM [(3,pp 0),(4,pp 1),(6,pp 2)] (T42 m e f g i a.2.2.2.2) 7 (fun h=>?_) fun h=>?_
 ·(conv=>whnf);left;refine bS h (fun h=>?_) fun h=>?_
  ·(conv=>whnf);refine Or.inr (stV_i 1 _ _ rfl rfl rfl ?_);(conv=>whnf);refine Or.inr (stV_i 1 _ _ rfl rfl rfl ?_);(conv=>whnf);refine Or.inr (stV_i 1 _ _ rfl rfl rfl ?_);cases h;exact eE [(0,0),(1,1),(2,2),(3,1159),(4,1287),(5,1415),(6,6)]
  exact qE (ii 7 [])
 (conv=>whnf);refine aX ?_;(conv=>whnf);left;refine bS h (fun h=>?_) fun h=>?_
 ·(conv=>whnf);exact cG [2,3,4,5,6] h ZhT fun s h=>qG [(0,332),(1,333),(2,334),(3,335)]
 (conv=>whnf);refine jN h fun⟨j,k,l,n,o⟩=>jM [(4,pp 0),(6,pp 1)] (T24 j k l n o) 6 (fun h=>?_) fun h=>?_
 ·(conv=>whnf);left;(conv=>whnf);left;refine bS h (fun h=>?_) fun h=>?_
  ·(conv=>whnf);exact cG [2,3,4,5,6] h Zh9 fun t h=>qE [(0,1),(1,2),(2,3),(3,4),(4,5),(5,460)]
  (conv=>whnf);left;refine bS h (fun h=>?_) fun h=>?_
  ·obtain⟨b,hy,h⟩:=ZaE h;rcases b with b|b
   ·replace h:=Zeg h;(conv=>whnf);refine cg [2,3,4,5,6] (Zhm hy) ?_;exact qE [(0,1),(1,2),(2,588),(3,589),(4,590),(5,591)]
   replace h:=Zef h;(conv=>whnf);refine cg [2,3,4,5,6] (Zhl hy) ?_;exact qE [(0,1),(1,2),(2,588),(3,589),(4,590),(5,591)]
  (conv=>whnf);left;refine bS h (fun h=>?_) fun h=>?_
  ·(conv=>whnf);exact cG [2,3,4,5,6] h Zia fun u h=>qE [(0,1),(1,2),(2,716),(3,717),(4,718),(5,719)]
  (conv=>whnf);left;refine bS h (fun h=>qE [(0,1),(1,2),(2,3),(3,4),(4,5),(5,6)]) fun h=>?_;(conv=>whnf);left;refine bS h (fun h=>?_) fun h=>?_
  ·(conv=>whnf);refine cG [2,3,4,5,6] h ZhS fun v h=>?_;cases h;exact eE [(0,1),(1,2),(2,1068),(3,4),(4,5),(5,1069)]
  (conv=>whnf);left;refine bS h (fun h=>?_) fun h=>?_
  ·(conv=>whnf);refine cG [2,3,4,5,6] h Zg6 fun w h=>?_;cases h;exact eE [(0,1),(1,2),(2,1196),(3,4),(4,5),(5,1197)]
  exact qE [(0,1),(1,2),(2,3),(3,4),(4,5),(5,6)]
 exact qG [(0,2),(1,3),(2,4),(3,5)]
theorem Zgs{a c e gs k tb l f g i n m r}(h:ZbN F a c e gs k tb l f g i n m=some r):FZ ml 55 (T0 c e gs k tb l f g i n m) [pp 0,.agg (Zau.c a)] (aI r.1) (T11 r.2.1 r.2.2.1 r.2.2.2.1 r.2.2.2.2.1 r.2.2.2.2.2.1 m r.2.2.2.2.2.2.1 r.2.2.2.2.2.2.2.1 r.2.2.2.2.2.2.2.2.1 r.2.2.2.2.2.2.2.2.2.1 r.2.2.2.2.2.2.2.2.2.2):=by
 refine fG Tryz.func55 ?_
 unfold ZbN at h
 (conv=>whnf);left;(conv=>whnf);refine cG [2,8,9] h ZgO fun d h=>?_;(conv=>whnf);left;(conv=>whnf);refine aX ?_;(conv=>whnf);left;refine bS h (fun h=>qG (ii 4 [(8,8),(9,9),(10,4),(11,5),(12,6),(13,7),(14,291)])) fun h=>?_;(conv=>whnf);left;(conv=>whnf);refine cR h Zkb fun o h=>?_;(conv=>whnf);left;obtain⟨b,hy,h⟩:=ZaE h;rcases b with b|b
 ·replace h:=Zeg h;(conv=>whnf);refine cg [0,1,2,3,4,5,6,7,291,9] (ZbG hy) ?_;(conv=>whnf);exact jN h fun p=>jM [(0,pp 0),(3,pp 10),(5,pp 11),(7,pp 12),(9,AV.con (Value.pointer none)),(43,.bool p)] (T45 c e++[(1,AO.gmap (eG b.2) none),(2,rF [.osw 13 4,aI d.2.2.1,.mapo 9]),(3,.rows true [(@crowB tb)]),(4,rT Zab.c l),(5,rT cJ f),(6,rT cU g),(7,rT Zai.c i),(9,mP m),(10,rF (Zau.c a)),(11,rF (Zae.c d.1)),(12,rF (Zac.c o.1)),(13,rT Zae.c d.2.2.2)]) 14 (fun h=>qE (ii 10 [(10,32),(11,416),(12,768),(13,291)])) fun h=>qG (ii 4 [(8,8),(9,9),(10,4),(11,5),(12,6),(13,7),(14,13)])
 replace h:=Zef h;(conv=>whnf);refine cg [0,1,2,3,4,5,6,7,291,9] (ZbF hy) ?_;(conv=>whnf);refine jN h fun q=>jM [(0,pp 0),(3,pp 10),(5,pp 11),(7,pp 12),(9,pp 13),(43,.bool q)] (T45 c e++[(1,AO.gmap (eG b.2.1) (some ((Option.getD (@mix Int group_node Int.instDecidableEq b.2.2.1 b.2.1) 0),13))),(2,rF [.osw 14 4,aI d.2.2.1,.mapo 9]),(3,.rows true [(@crowB tb)]),(4,rT Zab.c l),(5,rT cJ f),(6,rT cU g),(7,rT Zai.c i),(9,mP m),(10,rF (Zau.c a)),(11,rF (Zae.c d.1)),(12,rF (Zac.c o.1)),(13,rF ([pp 15,pp 16]++Zad.c b.2.2.2.1++[.bool true,aI b.2.2.2.2.1,AV.int IntKind.u32 b.2.2.2.2.2.1])),(14,rT Zae.c d.2.2.2),(15,rF [.mapo 17,.osw 18 2,aI b.2.2.2.2.2.2.1]),(16,rF ([pp 19]++Zad.c b.2.2.2.2.2.2.2.1)),(17,fS b.2.2.2.2.2.2.2.2.1),(18,rT Zaa.c b.2.2.2.2.2.2.2.2.2.1),(19,rF [pp 15,.str b.2.2.2.2.2.2.2.2.2.2.1,aI b.2.2.2.2.2.2.2.2.2.2.2.1,aI b.2.2.2.2.2.2.2.2.2.2.2.2])]) 20 (fun h=>qE (ii 10 [(10,32),(11,416),(12,768),(13,970),(14,291),(15,971),(16,972),(17,973),(18,974),(19,975)])) fun h=>?_;(conv=>whnf);left;refine bS h (fun h=>?_) fun h=>?_
 ·(conv=>whnf);obtain⟨hg,h⟩:=isS_e h;cases h;refine gF 1 13 b.2.1 b.2.2.1 (@Sum.inr group_nodeD group_nodeU (group_nodeU.mk b.2.2.2.2.2.2.2.2.1 b.2.2.2.2.2.2.2.2.2.1 b.2.2.2.2.2.2.1 b.2.2.2.2.2.2.2.2.2.2.1 b.2.2.2.2.2.2.2.2.2.2.2.1 b.2.2.2.2.2.2.2.2.2.2.2.2 b.2.2.2.2.2.2.2.1 b.2.2.2.1 b.2.2.2.2.1 b.2.2.2.2.2.1)) [13,15,17,18,16,19] ?_;exact gI (ii 4 [(8,8),(9,9),(10,4),(11,5),(12,6),(13,7),(14,14)])
 (conv=>whnf);left;(conv=>whnf);refine cR h (fun h=>Zav (ZjU h) rfl) fun s h=>?_;(conv=>whnf);left;(conv=>whnf);refine aX ?_;obtain⟨j,hy,h⟩:=ZaE h;rcases j with j|j
 ·replace h:=Zeg h;(conv=>whnf);refine cg [0,1,2,3,4,5,6,7,13,14,9,15,16,17,18,19] (ZdW hy) ?_;exact qG (ii 10 [(10,612),(11,613),(12,614),(13,615),(14,616)])
 replace h:=Zef h;(conv=>whnf);refine cg [0,1,2,3,4,5,6,7,13,14,9,15,16,17,18,19] (ZdV hy) ?_;exact qG (ii 10 [(10,612),(11,613),(12,614),(13,615),(14,616)])
theorem ZhW{id c l m r}(h:ZeG F id c l m=some r):FZ ml 75 (T6 c l m) [pp 0,aI id] (.bool r.1) (T18 r.2.1 m r.2.2):=by
 refine fG Tryz.func75 ?_
 unfold ZeG at h
 (conv=>whnf);refine cH [0,1,2] h Zer fun a h=>?_;(conv=>whnf);left;refine bS h (fun h=>qG [(0,0),(2,2),(3,1)]) fun h=>?_;(conv=>whnf);exact cG [0,1,2] h ZfG fun b h=>qG [(0,0),(1,1),(2,2),(3,323)]
theorem Zhd{a c b gs g tb l d e f i m r}(h:ZcW F a c b gs g tb l d e f i m=some r):FZ ml 56 (T0 c b gs g tb l d e f i m) [pp 0,.agg (Zau.c a)] (aI r.1) (T26 c b gs r.2.1 tb l d e f m r.2.2):=by
 refine fG Tryz.func56 ?_
 unfold ZcW at h
 (conv=>whnf);left;(conv=>whnf);exact cG [2,8,9] h ZhW fun j h=>qG (ii 10 [(10,291)])
theorem Zg8{id c l m r}(h:ZdU F id c l m=some r):FZ ml 76 (T6 c l m) [pp 0,aI id] (.tup [aI r.1,aI r.2.1]) (T18 r.2.2.1 m r.2.2.2):=by
 refine fG Tryz.func76 ?_
 unfold ZdU at h
 (conv=>whnf);refine cH [0,1,2] h Zer fun a h=>?_;(conv=>whnf);left;refine bS h (fun h=>qG [(0,0),(2,2),(3,1)]) fun h=>?_;(conv=>whnf);refine gX h fun h=>?_;(conv=>whnf);refine oB h fun b h=>?_;(conv=>whnf);refine oB h fun d h=>?_;(conv=>whnf);exact cG [0,1,2] h ZfO fun e h=>qG [(0,0),(1,1),(2,2),(3,547)]
theorem ZgA{a c b gs g tb l d e f i m r}(h:Zcu F a c b gs g tb l d e f i m=some r):FZ ml 57 (T0 c b gs g tb l d e f i m) [pp 0,.agg (Zau.c a)] (aI r.1) (T26 c b gs r.2.1 tb l d e f m r.2.2):=by
 refine fG Tryz.func57 ?_
 unfold Zcu at h
 (conv=>whnf);left;(conv=>whnf);exact cG [2,8,9] h Zg8 fun j h=>qG (ii 10 [(10,291)])
theorem Zjx{r_ b r}(h:ZfB F r_ b=some r):FZ ml 77 [] [.agg (Zad.c r_),.str b] (.tup [.agg [aI r.1,sM cJ r.2.1,aI r.2.2.1,aI r.2.2.2.1,aI r.2.2.2.2.1,aI r.2.2.2.2.2.1,aI r.2.2.2.2.2.2.1,aI r.2.2.2.2.2.2.2.1,sM Zab.c r.2.2.2.2.2.2.2.2.1,.str r.2.2.2.2.2.2.2.2.2.1,aI r.2.2.2.2.2.2.2.2.2.2.1,aI r.2.2.2.2.2.2.2.2.2.2.2.1,aI r.2.2.2.2.2.2.2.2.2.2.2.2.1,.osw 0 1,.osw 1 1,.osw 2 1],.osw 3 10,aI r.2.2.2.2.2.2.2.2.2.2.2.2.2.1,aI r.2.2.2.2.2.2.2.2.2.2.2.2.2.2.1]) (T41 r.2.2.2.2.2.2.2.2.2.2.2.2.2.2.2.1 r.2.2.2.2.2.2.2.2.2.2.2.2.2.2.2.2.1 r.2.2.2.2.2.2.2.2.2.2.2.2.2.2.2.2.2.1++[(3,rT Zac.c r.2.2.2.2.2.2.2.2.2.2.2.2.2.2.2.2.2.2)]):=by
 refine fG Tryz.func77 ?_
 unfold ZfB at h
 (conv=>whnf);left;(conv=>whnf);left;(conv=>whnf);left;(conv=>whnf);refine cR h Zfy fun a h=>?_;(conv=>whnf);left;(conv=>whnf);refine jN h fun d=>jM [(1,.str b),(4,pp 0),(8,pp 1),(13,.bool d)] (T24 a.1 a.2.1 a.2.2.1 a.2.2.2.1 a.2.2.2.2) 6 (fun h=>?_) fun h=>?_
 ·(conv=>whnf);left;(conv=>whnf);left;(conv=>whnf);exact cL h ZbQ fun f h=>qE [(0,64),(1,224),(2,225),(3,226),(4,227),(5,228)]
 (conv=>whnf);left;refine bS h (fun h=>?_) fun h=>?_
 ·cases h;exact gE [(0,2),(1,3),(2,4),(3,166)]
 (conv=>whnf);refine jN h fun e=>jM [(1,.str b),(4,pp 0),(8,pp 1),(26,.bool e)] (T24 a.1 a.2.1 a.2.2.1 a.2.2.2.1 a.2.2.2.2) 6 (fun h=>qE (ii 6 [])) fun h=>?_;(conv=>whnf);left;refine bS h (fun h=>?_) fun h=>?_
 ·cases h;exact gE [(0,2),(1,3),(2,4),(3,166)]
 (conv=>whnf);left;(conv=>whnf);left;(conv=>whnf);refine cR h Zhw fun g h=>?_;(conv=>whnf);left;(conv=>whnf);refine aX ?_;(conv=>whnf);left;refine bS h (fun h=>?_) fun h=>?_
 ·cases h;exact gE [(0,2),(1,3),(2,4),(3,838)]
 (conv=>whnf);refine cG [1,2,3,4,5] h Zfl fun i h=>?_;(conv=>whnf);refine cG [1,2,3,4,5] h Zed fun j h=>?_;(conv=>whnf);refine cG [1,2,3,4,5] h ZdB fun k h=>?_;(conv=>whnf);exact cH [1,1035,1036,1037,1038] h Zbc fun l h=>qG [(0,1035),(1,1036),(2,1037),(3,1038)]
theorem Zgr{a c e gs f tb l g i j k m r}(h:Zcb F a c e gs f tb l g i j k m=some r):FZ ml 58 (T0 c e gs f tb l g i j k m) [pp 0,.agg (Zau.c a)] (aI r.1) (T11 r.2.1 r.2.2.1 r.2.2.2.1 r.2.2.2.2.1 r.2.2.2.2.2.1 m r.2.2.2.2.2.2.1 r.2.2.2.2.2.2.2.1 r.2.2.2.2.2.2.2.2.1 r.2.2.2.2.2.2.2.2.2.1 r.2.2.2.2.2.2.2.2.2.2):=by
 refine fG Tryz.func58 ?_
 unfold Zcb at h
 (conv=>whnf);left;obtain⟨b,hy,h⟩:=ZaE h;rcases b with b|b
 ·replace h:=Zeg h;(conv=>whnf);refine cg [0,1,2,3,4,5,6,7,8,9] (ZbG hy) ?_;exact qG (ii 4 [(9,9),(10,4),(11,5),(12,6),(13,7),(14,8)])
 replace h:=Zef h;(conv=>whnf);refine cg [0,1,2,3,4,5,6,7,8,9] (ZbF hy) ?_;(conv=>whnf);left;refine bS h (fun h=>?_) fun h=>?_
 ·(conv=>whnf);obtain⟨hg,h⟩:=isS_e h;cases h;refine gF 1 202 b.2.1 b.2.2.1 (@Sum.inr group_nodeD group_nodeU (group_nodeU.mk b.2.2.2.2.2.2.2.2.1 b.2.2.2.2.2.2.2.2.2.1 b.2.2.2.2.2.2.1 b.2.2.2.2.2.2.2.2.2.2.1 b.2.2.2.2.2.2.2.2.2.2.2.1 b.2.2.2.2.2.2.2.2.2.2.2.2 b.2.2.2.2.2.2.2.1 b.2.2.2.1 b.2.2.2.2.1 b.2.2.2.2.2.1)) [202,203,205,206,204,207] ?_;exact gI (ii 4 [(9,9),(10,4),(11,5),(12,6),(13,7),(14,8)])
 (conv=>whnf);left;(conv=>whnf);refine cR h (fun h=>Zav (Zjx h) rfl) fun n h=>?_;(conv=>whnf);left;(conv=>whnf);refine aX ?_;(conv=>whnf);left;refine bS h (fun h=>?_) fun h=>?_
 ·(conv=>whnf);obtain⟨hg,h⟩:=isS_e h;cases h;refine gF 1 202 b.2.1 b.2.2.1 (@Sum.inr group_nodeD group_nodeU (group_nodeU.mk b.2.2.2.2.2.2.2.2.1 b.2.2.2.2.2.2.2.2.2.1 b.2.2.2.2.2.2.1 b.2.2.2.2.2.2.2.2.2.2.1 b.2.2.2.2.2.2.2.2.2.2.2.1 b.2.2.2.2.2.2.2.2.2.2.2.2 b.2.2.2.2.2.2.2.1 b.2.2.2.1 b.2.2.2.2.1 b.2.2.2.2.2.1)) [202,203,205,206,204,207] ?_;exact gI (ii 4 [(9,9),(10,4),(11,5),(12,6),(13,7),(14,8)])
 obtain⟨d,hy,h⟩:=ZaE h;rcases d with d|d
 ·replace h:=Zeg h;(conv=>whnf);refine cg [0,1,2,3,4,5,6,7,202,8,9,203,204,205,206,207] (ZdW hy) ?_;exact qG (ii 10 [(10,1264),(11,1265),(12,1266),(13,1267),(14,1268)])
 replace h:=Zef h;(conv=>whnf);refine cg [0,1,2,3,4,5,6,7,202,8,9,203,204,205,206,207] (ZdV hy) ?_;exact qG (ii 10 [(10,1264),(11,1265),(12,1266),(13,1267),(14,1268)])
theorem ZgP{a b r}(h:Zes F a b=some r):FZ ml 78 [] [AV.con (Value.pointer none),aI a,aI b] (.tup []) []:=by
 refine fA Tryz.func78 ?_
 unfold Zes at h;cases h
theorem ZgQ{a c e gs f tb l g i j k m r}(h:ZcA F a c e gs f tb l g i j k m=some r):FZ ml 59 (T0 c e gs f tb l g i j k m) [pp 0,.agg (Zau.c a)] (aI r.1) (T0 c e r.2 f tb l g i j k m):=by
 refine fG Tryz.func59 ?_
 unfold ZcA at h
 (conv=>whnf);left;obtain⟨b,hy,h⟩:=ZaE h;rcases b with b|b
 ·replace h:=Zeg h;(conv=>whnf);refine cg [0,1,2,3,4,5,6,7,8,9] (ZbG hy) ?_;(conv=>whnf);refine jN h fun o0=>jM [(6,aI b.1)] (T0 c e b.2 f tb l g i j k m) 10 (fun h=>?_) fun h=>?_
  ·(conv=>whnf);left;refine bS h (fun h=>?_) fun h=>?_
   ·(conv=>whnf);left;(conv=>whnf);exact cL h ZgP fun n h=>qE (ii 10 [])
   exact qE (ii 10 [])
  exact qG (ii 10 [])
 replace h:=Zef h;(conv=>whnf);refine cg [0,1,2,3,4,5,6,7,8,9] (ZbF hy) ?_;(conv=>whnf);left;refine bS h (fun h=>?_) fun h=>?_
 ·(conv=>whnf);refine cG [202,203,204,205,206,207] h ZcX fun d h=>?_;(conv=>whnf);obtain⟨hg,h⟩:=isS_e h;cases h;refine gF 1 202 b.2.1 b.2.2.1 (@Sum.inl group_nodeD group_nodeU (group_nodeD.mk d.2.2.2.2 [] d.2.2.2.1 d.1 d.2.1 d.2.2.1)) [202,203,205,614] ?_;exact gI (ii 10 [])
 (conv=>whnf);obtain⟨hg,h⟩:=isS_e h;cases h;refine gF 1 202 b.2.1 b.2.2.1 (@Sum.inr group_nodeD group_nodeU (group_nodeU.mk b.2.2.2.2.2.2.2.2.1 b.2.2.2.2.2.2.2.2.2.1 b.2.2.2.2.2.2.1 b.2.2.2.2.2.2.2.2.2.2.1 b.2.2.2.2.2.2.2.2.2.2.2.1 b.2.2.2.2.2.2.2.2.2.2.2.2 b.2.2.2.2.2.2.2.1 b.2.2.2.1 b.2.2.2.2.1 b.2.2.2.2.2.1)) [202,203,205,206,204,207] ?_;exact gI (ii 10 [])
theorem Zgo{id c e rf b d gs gk f tb l g i j n k m fs o r}(h:Za3 F id c e rf b d gs gk f tb l g i j n k m fs o=some r):FZ ml 42 (T15 c e rf false b d gs gk f tb l g i j n k m fs o) [pp 0,aI id,pp 1] (aI r.1) (T25 c e r.2 f tb l g i j k m):=by
 refine fG Tryz.func42 ?_
 unfold Za3 at h
 obtain⟨a,hy,h⟩:=ZaE h;rcases a with a|a
 ·replace h:=Zeg h;(conv=>whnf);refine cg [9,12,13] (Zig hy) ?_;(conv=>whnf);left;(conv=>whnf);refine aX ?_;(conv=>whnf);left;refine bS h (fun h=>?_) fun h=>?_
  ·(conv=>whnf);obtain⟨hg,h⟩:=isS_e h;cases h;refine gF 2 1 gs gk (@Sum.inl group_nodeD group_nodeU (group_nodeD.mk a.2.2.2.1 a.2.2.2.2 a.2.2.1 rf b d)) [1,9,12,355] ?_;exact gI (ii 14 [])
  (conv=>whnf);refine aX ?_;(conv=>whnf);left;(conv=>whnf);refine cL h ZcQ fun q h=>?_;cases h
 replace h:=Zef h;rcases a with a|a
 ·replace h:=Zeg h;(conv=>whnf);refine cg [9,12,13] (Zif hy) ?_;(conv=>whnf);left;(conv=>whnf);refine aX ?_;(conv=>whnf);left;refine bS h (fun h=>?_) fun h=>?_
  ·(conv=>whnf);obtain⟨hg,h⟩:=isS_e h;cases h;refine gF 2 1 gs gk (@Sum.inl group_nodeD group_nodeU (group_nodeD.mk a.2.2.2.1 a.2.2.2.2.2 a.2.2.1 rf b d)) [1,9,12,356] ?_;exact gI (ii 14 [])
  (conv=>whnf);refine aX ?_;(conv=>whnf);left;(conv=>whnf);refine cL h ZcQ fun s h=>?_;cases h
 replace h:=Zef h;(conv=>whnf);refine cg [9,12,13] (Zie hy) ?_;(conv=>whnf);left;(conv=>whnf);refine aX ?_;(conv=>whnf);left;refine bS h (fun h=>?_) fun h=>?_
 ·(conv=>whnf);obtain⟨hg,h⟩:=isS_e h;cases h;refine gF 2 1 gs gk (@Sum.inl group_nodeD group_nodeU (group_nodeD.mk a.2.2.2.1 a.2.2.2.2.2.1 a.2.2.1 rf b d)) [1,9,12,356] ?_;exact gI (ii 14 [])
 (conv=>whnf);refine aX ?_;(conv=>whnf);left;(conv=>whnf);refine cL h ZcQ fun p h=>?_;(conv=>whnf);obtain⟨hg,h⟩:=isS_e h;cases h;refine gF 2 1 gs gk (@Sum.inr group_nodeD group_nodeU (group_nodeU.mk a.2.2.2.1 a.2.2.2.2.2.1 a.2.2.1 a.2.2.2.2.2.2.1 a.2.2.2.2.2.2.2.1 a.2.2.2.2.2.2.2.2 a.2.2.2.2.1 a.1 p.1 p.2)) [1,9,12,356,355,357] ?_;exact gI (ii 14 [])
theorem Zgq{a c d gs e tb l f i j k m r}(h:Zca F a c d gs e tb l f i j k m=some r):FZ ml 60 (T0 c d gs e tb l f i j k m) [pp 0,.agg (Zau.c a)] (aI r.1) (T0 c d r.2 e tb l f i j k m):=by
 refine fG Tryz.func60 ?_
 unfold Zca at h
 (conv=>whnf);left;(conv=>whnf);refine aX ?_;(conv=>whnf);refine gl3 h (fun hm h=>?_) (fun o hm h=>?_) (fun n hm h=>?_)
 ·refine Zh4 (ek:=(fun(b:Int)=>(AV.int IntKind.i64 b))) (gN:=group_node.g) gs a.Node (.con (.pointer none)) rfl rfl (ZcC Tryz.underlying3) hm ⟨96,_,by kernel_rfl,by kernel_rfl,.refl _⟩ ?_;exact qG (ii 10 [])
 ·refine Ze1 (ek:=(fun(b:Int)=>(AV.int IntKind.i64 b))) (gN:=group_node.g) gs a.Node _ rfl rfl (ZcC Tryz.underlying3) hm _ rfl rfl ?_;(conv=>whnf);refine aX ?_;(conv=>whnf);left;(conv=>whnf);left;(conv=>whnf);left;(conv=>whnf);exact cG [0,288,1,2,3,4,5,6,7,289,8,9,290,291] h Zgo fun p h=>qG (ii 10 [])
 refine Ze1 (ek:=(fun(b:Int)=>(AV.int IntKind.i64 b))) (gN:=group_node.g) gs a.Node _ rfl rfl (ZcC Tryz.underlying3) hm _ rfl rfl ?_;(conv=>whnf);refine aX ?_;(conv=>whnf);left;(conv=>whnf);left;(conv=>whnf);left;(conv=>whnf);obtain⟨hg,h⟩:=isS_e h;cases h;refine gF 1 288 gs a.Node (@Sum.inr group_nodeD group_nodeU n) [288,289,290,291,292,293] ?_;exact gI (ii 10 [])
theorem Zib{a b c l m r}(h:Zd6 F a b c l m=some r):FZ ml 79 (T6 c l m) [pp 0,aI a,aI b] (.tup []) (T6 c l r):=by
 refine fG Tryz.func79 ?_
 unfold Zd6 at h
 (conv=>whnf);left;(conv=>whnf);left;(conv=>whnf);refine cL h Zi9 fun e h=>?_;(conv=>whnf);refine aX ?_;(conv=>whnf);obtain⟨hg,h⟩:=grd_e h;refine Or.inr (Zs6 (ek:=(fun(d:mesh_pair)=>(AV.agg (mesh_pair.c d)))) (en:=(fun(d:Int)=>(AV.int IntKind.i64 d))) m e (1:Int) rfl rfl (.refl _) rfl (fun a b=>(Zlv Tryz.underlying218 _ _ _ _ _ _).trans (by cases a;cases b;simp)) hg ?_);exact qG [(0,0),(1,1),(2,2)]
theorem Zho{a c b gs d tb l e f g i m r}(h:Zdc F a c b gs d tb l e f g i m=some r):FZ ml 61 (T0 c b gs d tb l e f g i m) [pp 0,.agg (Zau.c a)] (aI r.1) (T0 c b gs d tb l e f g i r.2):=by
 refine fG Tryz.func61 ?_
 unfold Zdc at h
 (conv=>whnf);left;(conv=>whnf);exact cG [2,8,9] h Zib fun j h=>qG (ii 10 [])
theorem ZhV{a b c l m r}(h:ZeF F a b c l m=some r):FZ ml 80 (T6 c l m) [pp 0,aI a,aI b] (.tup []) (T6 c l r):=by
 refine fG Tryz.func80 ?_
 unfold ZeF at h
 (conv=>whnf);left;(conv=>whnf);left;(conv=>whnf);refine cL h Zi9 fun e h=>?_;(conv=>whnf);refine aX ?_;(conv=>whnf);refine Ztb (ek:=(fun(d:mesh_pair)=>(AV.agg (mesh_pair.c d)))) (en:=(fun(d:Int)=>(AV.int IntKind.i64 d))) m e rfl rfl (fun a b=>(Zlv Tryz.underlying218 _ _ _ _ _ _).trans (by cases a;cases b;simp)) ?_;exact qG [(0,0),(1,1),(2,2)]
theorem Zhc{a c b gs d tb l e f g i m r}(h:ZdX F a c b gs d tb l e f g i m=some r):FZ ml 62 (T0 c b gs d tb l e f g i m) [pp 0,.agg (Zau.c a)] (aI r.1) (T0 c b gs d tb l e f g i r.2):=by
 refine fG Tryz.func62 ?_
 unfold ZdX at h
 (conv=>whnf);left;(conv=>whnf);exact cG [2,8,9] h ZhV fun j h=>qG (ii 10 [])
theorem ZkA{rf c a b d fs l e f g r}(h:ZgH F rf c a b d fs l e f g=some r):FZ ml 82 (T20 rf true c a b d fs l e f g) [pp 0] (.str r) (T20 rf true c a b d fs l e f g):=by
 refine fG Tryz.func82 ?_
 unfold ZgH at h
 (conv=>whnf);left;(conv=>whnf);left;(conv=>whnf);left;(conv=>whnf);left;obtain⟨i,hy,h⟩:=ZaE h;refine⟨_,_,(ZdE (cons2 (YI AV.sl rQ) rfl) (Zav (Zfi hy) rfl)),Or.inr ⟨[416],rfl,?_⟩⟩;(conv=>whnf);refine aX ?_;(conv=>whnf);obtain⟨hg,h⟩:=Zm9 h;refine⟨_,Zko rQ hg,?_⟩;exact qG (ii 6 [])
theorem Zjy{r_ to_ b r}(h:ZfC F r_ to_ b=some r):FZ ml 81 [] [.agg (Zad.c r_),aI to_,.str b] (.tup [.agg [aI r.1,sM cJ r.2.1,aI r.2.2.1,aI r.2.2.2.1,aI r.2.2.2.2.1,aI r.2.2.2.2.2.1,aI r.2.2.2.2.2.2.1,aI r.2.2.2.2.2.2.2.1,sM Zab.c r.2.2.2.2.2.2.2.2.1,.str r.2.2.2.2.2.2.2.2.2.1,aI r.2.2.2.2.2.2.2.2.2.2.1,aI r.2.2.2.2.2.2.2.2.2.2.2.1,aI r.2.2.2.2.2.2.2.2.2.2.2.2.1,.osw 0 1,.osw 1 1,.osw 2 1],aI r.2.2.2.2.2.2.2.2.2.2.2.2.2.1]) (T41 r.2.2.2.2.2.2.2.2.2.2.2.2.2.2.1 r.2.2.2.2.2.2.2.2.2.2.2.2.2.2.2.1 r.2.2.2.2.2.2.2.2.2.2.2.2.2.2.2.2):=by
 refine fG Tryz.func81 ?_
 unfold ZfC at h
 (conv=>whnf);left;(conv=>whnf);left;(conv=>whnf);left;(conv=>whnf);refine cR h Zfy fun a h=>?_;(conv=>whnf);left;(conv=>whnf);refine cL h ZbQ fun e h=>?_;(conv=>whnf);left;refine bS h (fun h=>qG [(0,161),(1,162),(2,163)]) fun h=>?_;(conv=>whnf);refine jN h fun d=>jM [(1,aI to_),(2,.str b),(6,pp 0),(8,pp 1),(39,.bool d)] (T24 a.1 a.2.1 a.2.2.1 a.2.2.2.1 a.2.2.2.2) 6 (fun h=>qE [(0,64),(1,160),(2,161),(3,162),(4,163),(5,164)]) fun h=>?_;(conv=>whnf);left;refine bS h (fun h=>qG [(0,2),(1,3),(2,4)]) fun h=>?_;(conv=>whnf);left;(conv=>whnf);exact cR h Zhv fun f h=>qG [(0,2),(1,3),(2,4)]
end Go.T
