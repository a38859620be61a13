import Derived.Test.YtjpmdkgonlmddaaGreatDoorCertB
set_option linter.unusedVariables false
set_option maxRecDepth 200000
set_option maxHeartbeats 4000000
namespace Go.T
open Go Go.Ab Go.Proofs
variable {ml:Gv}{F:Nat}
theorem Ze5{id c e rf b d gs gk f tb l g i j n k m fs o r}(h:Zdq F id c e rf b d gs gk f tb l g i j n k m fs o=some r):FZ ml 42 (T15 c e rf false b d gs gk f tb l g i j n k m fs o) [pp 0,aI id,pp 1] (aI r.1) (T25 c e r.2 f tb l g i j k m):=by
 refine fG Tryz.func42 ?_
 unfold Zdq at h
 obtain⟨a,hy,h⟩:=ZaE h;rcases a with a|a
 ·replace h:=Zeg h;(conv=>whnf);refine cg [9,12,13] (Zig hy) ?_;(conv=>whnf);left;(conv=>whnf);refine aX ?_;(conv=>whnf);left;refine bS h (fun h=>?_) fun h=>?_
  ·(conv=>whnf);obtain⟨hg,h⟩:=isS_e h;cases h;refine gF 2 1 gs gk (@Sum.inl group_nodeD group_nodeU (group_nodeD.mk a.2.2.2.1 a.2.2.2.2 a.2.2.1 rf b d)) [1,9,12,355] ?_;exact gI (ii 14 [])
  (conv=>whnf);refine aX ?_;(conv=>whnf);left;(conv=>whnf);refine cL h ZcQ fun q h=>?_;cases h
 replace h:=Zef h;rcases a with a|a
 ·replace h:=Zeg h;(conv=>whnf);refine cg [9,12,13] (Zif hy) ?_;(conv=>whnf);left;(conv=>whnf);refine aX ?_;(conv=>whnf);left;refine bS h (fun h=>?_) fun h=>?_
  ·(conv=>whnf);obtain⟨hg,h⟩:=isS_e h;cases h;refine gF 2 1 gs gk (@Sum.inl group_nodeD group_nodeU (group_nodeD.mk a.2.2.2.1 a.2.2.2.2.2 a.2.2.1 rf b d)) [1,9,12,356] ?_;exact gI (ii 14 [])
  (conv=>whnf);refine aX ?_;(conv=>whnf);left;(conv=>whnf);refine cL h ZcQ fun s h=>?_;cases h
 replace h:=Zef h;(conv=>whnf);refine cg [9,12,13] (Zie hy) ?_;(conv=>whnf);left;(conv=>whnf);refine aX ?_;(conv=>whnf);left;refine bS h (fun h=>?_) fun h=>?_
 ·(conv=>whnf);obtain⟨hg,h⟩:=isS_e h;cases h;refine gF 2 1 gs gk (@Sum.inl group_nodeD group_nodeU (group_nodeD.mk a.2.2.2.1 a.2.2.2.2.2.1 a.2.2.1 rf b d)) [1,9,12,356] ?_;exact gI (ii 14 [])
 (conv=>whnf);refine aX ?_;(conv=>whnf);left;(conv=>whnf);refine cL h ZcQ fun p h=>?_;(conv=>whnf);obtain⟨hg,h⟩:=isS_e h;cases h;refine gF 2 1 gs gk (@Sum.inr group_nodeD group_nodeU (group_nodeU.mk a.2.2.2.1 a.2.2.2.2.2.1 a.2.2.1 a.2.2.2.2.2.2.1 a.2.2.2.2.2.2.2.1 a.2.2.2.2.2.2.2.2 a.2.2.2.2.1 a.1 p.1 p.2)) [1,9,12,356,355,357] ?_;exact gI (ii 14 [])
theorem ZfV{b r}(h:ZeN F b=some (Sum.inl r)):FZ ml 15 [] [sM cJ b] (.tup [AV.con (Value.pointer none),aI r]) []:=by
 refine fG Tryz.func15 ?_
 unfold ZeN at h
 (conv=>whnf);left;(conv=>whnf);refine cL h Zek fun n h=>?_;(conv=>whnf);left;refine bS h (fun h=>qG []) fun h=>?_;(conv=>whnf);left;(conv=>whnf);refine cR h (fun h=>Zav (ZaV h) rfl) fun c h=>?_;(conv=>whnf);refine Or.inr ?_;(conv=>whnf);refine⟨Or.inr ?_⟩;(conv=>whnf);left;(conv=>whnf);refine cR h Zjo fun a h=>?_;(conv=>whnf);left;(conv=>whnf);refine cR h Zkl fun d h=>?_;(conv=>whnf);left;(conv=>whnf);left;(conv=>whnf);refine Or.inr (ZiZ 4 2 _ rfl rfl ?_);(conv=>whnf);refine Or.inr (ZrR 7 2 _ rfl rfl ?_);(conv=>whnf);refine jN h fun e=>jM [(4,pp 0)] (T0 c false e a.1 d [] ((0:Int)::[]) ((0:Int)::[]) [] a.2.1 a.2.2) 10 (fun h=>?_) fun h=>?_
 ·(conv=>whnf);left;(conv=>whnf);refine lI (fun n' x'=>Zda F b c a d n' x'.1 x'.2) (fun x'=>[(4,pp 0),(20,sM cJ b),(21,aI (@Nat.cast Int instNatCastInt (List.length (List.map cJ b)))),(22,aI x'.1)]) (fun x'=>(T0 c false x'.2 a.1 d [] ((0:Int)::[]) ((0:Int)::[]) [] a.2.1 a.2.2)) 10 ((0:Int),[]) [(0,448),(1,256),(2,288),(3,320),(4,416),(5,352),(6,384),(7,449),(8,289),(9,290)] h ?_;rintro f ⟨i,j⟩ h;dsimp only at h;rw[Zda.eq_2]at h;(conv=>whnf);left;refine bS h (fun h=>?_) fun h=>?_
  ·(conv=>whnf);left;(conv=>whnf);refine gX h fun h=>?_;(conv=>whnf);refine oB h fun k h=>?_;(conv=>whnf);left;(conv=>whnf);refine cR h Zjr fun o h=>?_;(conv=>whnf);left;(conv=>whnf);left;(conv=>whnf);refine aX ?_;(conv=>whnf);obtain⟨hg,h⟩:=isS_e h;refine ZrJ (ek:=(fun(l:Int)=>(AV.int IntKind.i64 l))) (gN:=group_node.g) j k (Sum.inl default) 202 rfl rfl (ZcC Tryz.underlying3) hg rfl ?_;obtain⟨m,hy,h⟩:=ZaE h;refine cW [0,202,1,2,3,4,5,6,7,138,8,9,139,140] (Ze5 hy) ?_;exact rE (f,(IntKind.wrap IntKind.i64 (i+(1:Int))),m.2) (ii 10 []) h
  exact qE (ii 10 [])
 cases h
theorem ZfU{b r}(h:ZeN F b=some (Sum.inr r)):FZ ml 15 [] [sM cJ b] (.tup [pp 0,aI r.1]) (T0 r.2.1 r.2.2.1 r.2.2.2.1 r.2.2.2.2.1 r.2.2.2.2.2.1 r.2.2.2.2.2.2.1 r.2.2.2.2.2.2.2.1 r.2.2.2.2.2.2.2.2.1 r.2.2.2.2.2.2.2.2.2.1 r.2.2.2.2.2.2.2.2.2.2.1 r.2.2.2.2.2.2.2.2.2.2.2):=by
 refine fG Tryz.func15 ?_
 unfold ZeN at h
 (conv=>whnf);left;(conv=>whnf);refine cL h Zek fun n h=>?_;(conv=>whnf);left;refine bS h (fun h=>?_) fun h=>?_
 ·cases h
 (conv=>whnf);left;(conv=>whnf);refine cR h (fun h=>Zav (ZaV h) rfl) fun c h=>?_;(conv=>whnf);refine Or.inr ?_;(conv=>whnf);refine⟨Or.inr ?_⟩;(conv=>whnf);left;(conv=>whnf);refine cR h Zjo fun a h=>?_;(conv=>whnf);left;(conv=>whnf);refine cR h Zkl fun d h=>?_;(conv=>whnf);left;(conv=>whnf);left;(conv=>whnf);refine Or.inr (ZiZ 4 2 _ rfl rfl ?_);(conv=>whnf);refine Or.inr (ZrR 7 2 _ rfl rfl ?_);(conv=>whnf);refine jN h fun e=>jM [(4,pp 0)] (T0 c false e a.1 d [] ((0:Int)::[]) ((0:Int)::[]) [] a.2.1 a.2.2) 10 (fun h=>?_) fun h=>?_
 ·(conv=>whnf);left;(conv=>whnf);refine lI (fun n' x'=>Zda F b c a d n' x'.1 x'.2) (fun x'=>[(4,pp 0),(20,sM cJ b),(21,aI (@Nat.cast Int instNatCastInt (List.length (List.map cJ b)))),(22,aI x'.1)]) (fun x'=>(T0 c false x'.2 a.1 d [] ((0:Int)::[]) ((0:Int)::[]) [] a.2.1 a.2.2)) 10 ((0:Int),[]) [(0,448),(1,256),(2,288),(3,320),(4,416),(5,352),(6,384),(7,449),(8,289),(9,290)] h ?_;rintro f ⟨i,j⟩ h;dsimp only at h;rw[Zda.eq_2]at h;(conv=>whnf);left;refine bS h (fun h=>?_) fun h=>?_
  ·(conv=>whnf);left;(conv=>whnf);refine gX h fun h=>?_;(conv=>whnf);refine oB h fun k h=>?_;(conv=>whnf);left;(conv=>whnf);refine cR h Zjr fun o h=>?_;(conv=>whnf);left;(conv=>whnf);left;(conv=>whnf);refine aX ?_;(conv=>whnf);obtain⟨hg,h⟩:=isS_e h;refine ZrJ (ek:=(fun(l:Int)=>(AV.int IntKind.i64 l))) (gN:=group_node.g) j k (Sum.inl default) 202 rfl rfl (ZcC Tryz.underlying3) hg rfl ?_;obtain⟨m,hy,h⟩:=ZaE h;refine cW [0,202,1,2,3,4,5,6,7,138,8,9,139,140] (Ze5 hy) ?_;exact rE (f,(IntKind.wrap IntKind.i64 (i+(1:Int))),m.2) (ii 10 []) h
  exact qE (ii 10 [])
 exact qG (ii 10 [])
theorem ZkB{r}(h:Zfu F=some r):FZ ml 43 [] [] (AV.mapo 0) [(0,.mapo true [(aI r.1,AV.fn 54 []),(aI r.2.1,AV.fn 55 []),(aI r.2.2.1,AV.fn 56 []),(aI r.2.2.2.1,AV.fn 57 []),(aI r.2.2.2.2.1,AV.fn 58 []),(aI r.2.2.2.2.2.1,AV.fn 59 []),(aI r.2.2.2.2.2.2.1,AV.fn 60 []),(aI r.2.2.2.2.2.2.2.1,AV.fn 61 []),(aI r.2.2.2.2.2.2.2.2.1,AV.fn 62 []),(aI r.2.2.2.2.2.2.2.2.2,AV.fn 63 [])])]:=by
 refine fG Tryz.func43 ?_
 unfold Zfu at h;exact qG [(0,64)]
theorem ZbG{id c b gs d tb l e f i j m r}(h:Zay F id c b gs d tb l e f i j m=some (Sum.inl r)):FZ ml 70 (T0 c b gs d tb l e f i j m) [pp 0,aI id] (.tup [AV.con (Value.pointer none),aI r.1]) (T0 c b r.2 d tb l e f i j m):=by
 refine fG Tryz.func70 ?_
 unfold Zay at h
 (conv=>whnf);refine aX ?_;(conv=>whnf);refine gl3 h (fun hm h=>?_) (fun k hm h=>?_) (fun n hm h=>?_)
 ·refine Zh4 (ek:=(fun(a:Int)=>(AV.int IntKind.i64 a))) (gN:=group_node.g) gs id (.con (.pointer none)) rfl rfl (ZcC Tryz.underlying3) hm ⟨96,_,by kernel_rfl,by kernel_rfl,.refl _⟩ ?_;exact qG (ii 10 [])
 ·refine Ze1 (ek:=(fun(a:Int)=>(AV.int IntKind.i64 a))) (gN:=group_node.g) gs id _ rfl rfl (ZcC Tryz.underlying3) hm _ rfl rfl ?_;(conv=>whnf);left;(conv=>whnf);left;(conv=>whnf);left;(conv=>whnf);obtain⟨hg,h⟩:=isS_e h;cases h;refine gF 1 256 gs id (@Sum.inl group_nodeD group_nodeU k) [256,257,258,259] ?_;exact gI (ii 10 [])
 refine Ze1 (ek:=(fun(a:Int)=>(AV.int IntKind.i64 a))) (gN:=group_node.g) gs id _ rfl rfl (ZcC Tryz.underlying3) hm _ rfl rfl ?_;(conv=>whnf);left;(conv=>whnf);left;(conv=>whnf);left;cases h
theorem ZbF{id c b gs d tb l e f i j m r}(h:Zay F id c b gs d tb l e f i j m=some (Sum.inr r)):FZ ml 70 (T0 c b gs d tb l e f i j m) [pp 0,aI id] (.tup [pp 10,aI r.1]) (T45 c b++[(1,AO.gmap (eG r.2.1) (some ((Option.getD (@mix Int group_node Int.instDecidableEq r.2.2.1 r.2.1) 0),10))),(2,rF [.osw 8 4,aI d,.mapo 9]),(3,.rows true [(@crowB tb)]),(4,rT Zab.c l),(5,rT cJ e),(6,rT cU f),(7,rT Zai.c i),(8,rT Zae.c j),(9,mP m),(10,rF ([pp 11,pp 12]++Zad.c r.2.2.2.1++[.bool true,aI r.2.2.2.2.1,AV.int IntKind.u32 r.2.2.2.2.2.1])),(11,rF [.mapo 13,.osw 14 2,aI r.2.2.2.2.2.2.1]),(12,rF ([pp 15]++Zad.c r.2.2.2.2.2.2.2.1)),(13,fS r.2.2.2.2.2.2.2.2.1),(14,rT Zaa.c r.2.2.2.2.2.2.2.2.2.1),(15,rF [pp 11,.str r.2.2.2.2.2.2.2.2.2.2.1,aI r.2.2.2.2.2.2.2.2.2.2.2.1,aI r.2.2.2.2.2.2.2.2.2.2.2.2])]):=by
 refine fG Tryz.func70 ?_
 unfold Zay at h
 (conv=>whnf);refine aX ?_;(conv=>whnf);refine gl3 h (fun hm h=>?_) (fun k hm h=>?_) (fun n hm h=>?_)
 ·refine Zh4 (ek:=(fun(a:Int)=>(AV.int IntKind.i64 a))) (gN:=group_node.g) gs id (.con (.pointer none)) rfl rfl (ZcC Tryz.underlying3) hm ⟨96,_,by kernel_rfl,by kernel_rfl,.refl _⟩ ?_;(conv=>whnf);left;(conv=>whnf);left;cases h
 ·refine Ze1 (ek:=(fun(a:Int)=>(AV.int IntKind.i64 a))) (gN:=group_node.g) gs id _ rfl rfl (ZcC Tryz.underlying3) hm _ rfl rfl ?_;(conv=>whnf);left;(conv=>whnf);left;(conv=>whnf);left;(conv=>whnf);obtain⟨hg,h⟩:=isS_e h;cases h
 refine Ze1 (ek:=(fun(a:Int)=>(AV.int IntKind.i64 a))) (gN:=group_node.g) gs id _ rfl rfl (ZcC Tryz.underlying3) hm _ rfl rfl ?_;exact qG (ii 10 [(10,256),(11,257),(12,260),(13,258),(14,259),(15,261)])
theorem Ziz{r_ r}(h:Zfz F r_=some r):FZ ml 99 [] [.agg (Zad.c r_)] (.agg [aI r.1,sM cJ r.2.1,aI r.2.2.1,aI r.2.2.2.1,aI r.2.2.2.2.1,aI r.2.2.2.2.2.1,aI r.2.2.2.2.2.2.1,aI r.2.2.2.2.2.2.2.1,sM Zab.c r.2.2.2.2.2.2.2.2.1,.str r.2.2.2.2.2.2.2.2.2.1,aI r.2.2.2.2.2.2.2.2.2.2.1,aI r.2.2.2.2.2.2.2.2.2.2.2.1,aI r.2.2.2.2.2.2.2.2.2.2.2.2.1,.osw 0 1,.osw 1 1,.osw 2 1]) (T41 r.2.2.2.2.2.2.2.2.2.2.2.2.2.1 r.2.2.2.2.2.2.2.2.2.2.2.2.2.2.1 r.2.2.2.2.2.2.2.2.2.2.2.2.2.2.2):=by
 refine fG Tryz.func99 ?_
 unfold Zfz at h
 (conv=>whnf);left;(conv=>whnf);left;(conv=>whnf);left;(conv=>whnf);refine cR h (fun h=>Zav (ZaV h) rfl) fun a h=>?_;(conv=>whnf);left;(conv=>whnf);refine cR h ZaV fun b h=>?_;(conv=>whnf);left;(conv=>whnf);refine cR h ZbA fun d h=>?_;(conv=>whnf);left;(conv=>whnf);refine cR h ZbA fun e h=>?_;(conv=>whnf);left;(conv=>whnf);left;(conv=>whnf);left;(conv=>whnf);refine aX ?_;(conv=>whnf);left;(conv=>whnf);exact cR h (fun h=>Zav (Zan h) rfl) fun f h=>qG [(0,256),(1,352),(2,448)]
theorem Zfy{r_ r}(h:Ze0 F r_=some r):FZ ml 100 [] [.agg (Zad.c r_)] (pp 0) (T1 r.1 r.2.1 r.2.2.1 r.2.2.2.1 r.2.2.2.2):=by
 refine fG Tryz.func100 ?_
 unfold Ze0 at h
 (conv=>whnf);left;(conv=>whnf);left;(conv=>whnf);refine cR h Ziz fun a h=>?_;(conv=>whnf);refine Or.inr (ZiZ 16 10 _ rfl rfl ?_);(conv=>whnf);left;cases h;exact gE [(0,192),(1,128),(2,129),(3,130),(4,160)]
theorem ZaH{m rf l a b d r}(h:ZaU F m rf l a b d=some r):FZ ml 154 (T1 rf l a b d) [pp 0,.agg (Zac.c m)] (.tup []) (T37 r.1 l a b r.2):=by
 refine fG Tryz.func154 ?_
 unfold ZaU at h
 (iterate 5 ((conv=>whnf);first|refine oL ?_|refine aX ?_));(conv=>whnf);refine gS h fun h=>?_;(conv=>whnf);left;(conv=>whnf);refine aX ?_;cases h;exact gE (ii 5 [(5,736)])
theorem Zkx{t a b r}(h:Zf7 F t a b=some r):FZ ml 195 [] [.agg (Zag.c t),aI a,aI b] (sM Zab.c r) []:=by
 refine fA Tryz.func195 ?_
 unfold Zf7 at h
 (conv=>whnf);left;(conv=>whnf);refine jN h fun d=>jM [(1,aI a),(2,aI b),(3,pp 0),(20,.bool d)] [(0,rF (Zag.c t))] 1 (fun h=>?_) fun h=>?_
 ·(conv=>whnf);left;(conv=>whnf);left;(conv=>whnf);refine cL h ZcE fun e h=>?_;(conv=>whnf);refine bS h (fun h=>qE [(0,32)]) fun h=>?_;(conv=>whnf);left;(conv=>whnf);exact cL h Zet fun f h=>qE [(0,32)]
 (conv=>whnf);left;refine bS h (fun h=>qR) fun h=>?_;(conv=>whnf);refine aX ?_;(conv=>whnf);refine gX h fun h=>?_;(conv=>whnf);refine gS h fun h=>?_;(conv=>whnf);refine gS h fun h=>?_;(conv=>whnf);refine aX ?_;(conv=>whnf);refine gS h fun h=>?_;(conv=>whnf);refine gS h fun h=>?_;(conv=>whnf);refine gS h fun h=>?_;(conv=>whnf);left;(conv=>whnf);obtain⟨g,hy,h⟩:=ZaE h;refine⟨_,_,(ZdE (cons2 (YI AV.sl rQ) rfl) (Zav (Zan hy) rfl)),Or.inr ⟨[],rfl,?_⟩⟩;exact qR
theorem Zeq{i rf l a b c r}(h:Zcg F i rf l a b c=some r):FZ ml 151 (T1 rf l a b c) [pp 0,aI i] (.tup []) (T37 r.1 l a b r.2):=by
 refine fG Tryz.func151 ?_
 unfold Zcg at h
 (conv=>whnf);refine gX h fun h=>?_;(conv=>whnf);refine oB h fun d h=>?_;(conv=>whnf);refine oB h fun e h=>?_;(conv=>whnf);left;refine bS h (fun h=>?_) fun h=>?_
 ·(conv=>whnf);refine gX h fun h=>?_;(conv=>whnf);refine oB h fun f h=>?_;(conv=>whnf);left;obtain⟨g,hy,h⟩:=ZaE h;refine cW [0,1,2,3,4] (ZaH hy) ?_;exact qG (ii 5 [(5,1445)])
 (conv=>whnf);left;(conv=>whnf);refine cL h Zeu fun j h=>?_;(conv=>whnf);refine gX h fun h=>?_;(conv=>whnf);refine oB h fun k h=>?_;(conv=>whnf);left;(conv=>whnf);refine cR h Zkx fun m h=>?_;(conv=>whnf);left;(conv=>whnf);exact cG [0,1,2,3,4] h ZaH fun n h=>qG (ii 5 [(5,1797)])
theorem ZdB{rf l a b c r}(h:ZbI F rf l a b c=some r):FZ ml 101 (T1 rf l a b c) [pp 0] (.tup []) (T19 r.1 r.2.1 r.2.2.1 r.2.2.2.1 r.2.2.2.2):=by
 refine fG Tryz.func101 ?_
 unfold ZbI at h
 (conv=>whnf);refine jN h fun⟨g,i⟩=>jM [] (T19 g l a b i) 9 (fun h=>?_) fun h=>?_
 ·(conv=>whnf);left;(conv=>whnf);refine lI (fun n' x'=>ZbC F rf l a b n' x'.1 x'.2.1 x'.2.2) (fun x'=>[(0,pp 0),(8,sM cJ rf.Conf),(9,aI (@Nat.cast Int instNatCastInt (List.length (List.map cJ rf.Conf)))),(10,aI x'.1)]) (fun x'=>(T19 x'.2.1 l a b x'.2.2)) 9 ((0:Int),rf,c) [(0,0),(5,1),(6,2),(7,3),(8,4)] h ?_;rintro j ⟨d,k,m⟩ h;dsimp only at h;rw[ZbC.eq_2]at h;(conv=>whnf);left;refine bS h (fun h=>?_) fun h=>?_
  ·(conv=>whnf);refine jN h fun⟨e,f⟩=>jM [(0,pp 0),(8,sM cJ rf.Conf),(9,aI (@Nat.cast Int instNatCastInt (List.length (List.map cJ rf.Conf)))),(10,aI d)] (T19 e l a b f) 9 (fun h=>?_) fun h=>?_
   ·(conv=>whnf);left;(conv=>whnf);refine gX h fun h=>?_;(conv=>whnf);refine oB h fun n h=>?_;(conv=>whnf);left;refine bS h (fun h=>?_) fun h=>?_
    ·(conv=>whnf);exact cG [0,5,6,7,8] h Zeq fun o h=>qE (ii 8 [(8,494)])
    exact qE (ii 9 [])
   exact rE (j,(IntKind.wrap IntKind.i64 (d+(1:Int))),e,f) (ii 9 []) h
  exact qE (ii 9 [])
 exact qG (ii 9 [])
theorem Zbc{rf l a b c r}(h:Za2 F rf l a b c=some r):FZ ml 121 (T1 rf l a b c) [pp 0] (aI r) (T1 rf l a b c):=by
 refine fG Tryz.func121 ?_
 unfold Za2 at h
 (conv=>whnf);left;(conv=>whnf);exact cL h ZdO fun d h=>qG (ii 5 [])
theorem ZiI{x y r}(h:Zgf F x y=some r):FZ ml 244 [] [AV.int IntKind.u64 x,AV.int IntKind.u64 y] (.tup [.int IntKind.u64 r.1,.int IntKind.u64 r.2]) []:=by
 refine fA Tryz.func244 ?_
 unfold Zgf at h;exact qR
theorem Zjz{x y r}(h:Zg0 F x y=some r):FZ ml 227 [] [AV.int IntKind.u64 x,AV.int IntKind.u64 y] (.tup [.int IntKind.u64 r.1,.int IntKind.u64 r.2]) []:=by
 refine fA Tryz.func227 ?_
 unfold Zg0 at h
 (conv=>whnf);left;(conv=>whnf);left;(conv=>whnf);exact cL h ZiI fun a h=>qR
theorem Zfp{x count r}(h:Zaq F x count=some r):FZ ml 196 [] [sM cJ x,aI count] (.osw 0 1) (T27 r):=by
 refine fG Tryz.func196 ?_
 unfold Zaq at h
 (conv=>whnf);left;refine bT h fun h=>?_;(conv=>whnf);left;(conv=>whnf);refine cL h Zjz fun c h=>?_;(conv=>whnf);refine jN h fun d=>jM [(0,sM cJ x),(6,AV.int IntKind.u64 c.2),(26,.bool d)] [] 0 (fun h=>qE []) fun h=>?_;(conv=>whnf);left;refine bT h fun h=>?_;(conv=>whnf);refine gX h fun h=>?_;(conv=>whnf);refine gX h fun h=>?_;(conv=>whnf);refine gX h fun h=>?_;(conv=>whnf);refine And.intro (ZaF.replicate rfl) ?_;(conv=>whnf);refine aX ?_;(conv=>whnf);refine jN h fun e=>jM [(7,.osw 0 1)] (T27 e) 1 (fun h=>?_) fun h=>?_
 ·(conv=>whnf);left;(conv=>whnf);refine lI (fun n' x'=>Zbz F n' x'.1 x'.2) (fun x'=>[(7,.osw 0 1),(8,aI x'.1)]) (fun x'=>(T27 x'.2)) 1 ((@Nat.cast Int instNatCastInt (min (List.length (List.replicate (Int.toNat (IntKind.wrap IntKind.i64 c.2)) ((AV.int IntKind.i64 (0:Int))::[]))) (List.length (List.map cJ x)))),((List.take 0 (List.replicate (Int.toNat (IntKind.wrap IntKind.i64 c.2)) (0:Int)))++((List.take (min (List.length (List.replicate (Int.toNat (IntKind.wrap IntKind.i64 c.2)) ((AV.int IntKind.i64 (0:Int))::[]))) (List.length (List.map cJ x))) x)++(List.drop (0+(min (List.length (List.replicate (Int.toNat (IntKind.wrap IntKind.i64 c.2)) ((AV.int IntKind.i64 (0:Int))::[]))) (List.length (List.map cJ x)))) (List.replicate (Int.toNat (IntKind.wrap IntKind.i64 c.2)) (0:Int)))))) [(0,64)] h ?_;rintro f ⟨a,b⟩ h;dsimp only at h;rw[Zbz.eq_2]at h;(conv=>whnf);left;refine bS h (fun h=>?_) fun h=>?_
  ·(conv=>whnf);left;(conv=>whnf);refine aX ?_;(conv=>whnf);left;(conv=>whnf);refine gX h fun h=>?_;(conv=>whnf);refine gS h fun h=>?_;(conv=>whnf);refine gS h fun h=>?_;(conv=>whnf);refine aX ?_;(conv=>whnf);left;(conv=>whnf);refine gX h fun h=>?_;(conv=>whnf);refine gX h fun h=>?_;(conv=>whnf);refine gS h fun h=>?_;(conv=>whnf);refine aX ?_;(conv=>whnf);refine And.intro (ZaF.take (ZaF.drop (ZaF.map (fun _=>rfl)))) ?_;(conv=>whnf);refine gS h fun h=>?_;(conv=>whnf);refine aX ?_;exact rE (f,(IntKind.wrap IntKind.i64 (a+(@Nat.cast Int instNatCastInt (min ((List.length (List.map cJ b))-(Int.toNat a)) (List.length (List.take ((Int.toNat a)-0) (List.drop 0 (List.map cJ b)))))))),((List.take (Int.toNat a) b)++((List.take (min ((List.length (List.map cJ b))-(Int.toNat a)) (List.length (List.take ((Int.toNat a)-0) (List.drop 0 (List.map cJ b))))) (List.take ((Int.toNat a)-0) (List.drop 0 b)))++(List.drop ((Int.toNat a)+(min ((List.length (List.map cJ b))-(Int.toNat a)) (List.length (List.take ((Int.toNat a)-0) (List.drop 0 (List.map cJ b)))))) b)))) [(0,0)] h
  exact qE [(0,0)]
 exact qG [(0,0)]
theorem ZfQ{t a more r}(h:Zc1 F t a more=some r):FZ ml 166 [] [.agg (Zag.c t),aI a,sM Zab.c more] (.tup [.agg (Zag.c r.1),.bool r.2]) []:=by
 refine fK Tryz.func166 ?_
 unfold Zc1 at h
 (conv=>whnf);left;(conv=>whnf);left;(conv=>whnf);left;(conv=>whnf);left;(conv=>whnf);refine aX ?_;(conv=>whnf);refine gX h fun h=>?_;(conv=>whnf);refine gX h fun h=>?_;(conv=>whnf);refine gS h fun h=>?_;(conv=>whnf);refine And.intro (ZaF.take (ZaF.map (fun _=>rfl))) ?_;(conv=>whnf);refine gX h fun h=>?_;(conv=>whnf);refine aX ?_;(conv=>whnf);refine And.intro (ZaF.take (ZaF.map (fun _=>rfl))) ?_;(conv=>whnf);refine gS h fun h=>?_;(conv=>whnf);left;(conv=>whnf);refine aX ?_;(conv=>whnf);left;(conv=>whnf);exact cL h (fun h=>aE (ZcE h)) fun b h=>qK
theorem Zhw{t e r}(h:ZdI F t e=some r):FZ ml 118 [] [.agg (Zag.c t),.agg (Zab.c e)] (.tup [.agg (Zag.c r.1),.bool r.2]) []:=by
 refine fK Tryz.func118 ?_
 unfold ZdI at h
 (conv=>whnf);left;(conv=>whnf);left;(conv=>whnf);left;(conv=>whnf);left;(conv=>whnf);refine cL h ZcE fun a h=>?_;(conv=>whnf);left;refine bS h (fun h=>qK) fun h=>?_;(conv=>whnf);left;(conv=>whnf);left;obtain⟨b,hy,h⟩:=ZaE h;refine⟨_,_,(ZdE (cons2 rfl (cons2 rfl (cons2 (YI AV.sl rQ) rfl))) (ZfQ hy)),Or.inr ⟨[416],rfl,?_⟩⟩;exact qK
theorem Zfl{rf l b c a r}(h:Zch F rf l b c a=some r):FZ ml 119 (T1 rf l b c a) [pp 0] (.tup []) (T1 rf l r.1 r.2 a):=by
 refine fG Tryz.func119 ?_
 unfold Zch at h
 (conv=>whnf);left;(conv=>whnf);refine cL h ZcZ fun d h=>?_;(conv=>whnf);refine aX ?_;(conv=>whnf);refine cH [0,1,2,3,4] h Zbc fun e h=>?_;(conv=>whnf);refine cH [0,1,2,3,4] h Zbc fun f h=>?_;(conv=>whnf);refine gX h fun h=>?_;(conv=>whnf);refine oB h fun g h=>?_;(conv=>whnf);refine oB h fun i h=>?_;(conv=>whnf);refine gX h fun h=>?_;(conv=>whnf);refine oB h fun j h=>?_;(conv=>whnf);refine oB h fun k h=>?_;(conv=>whnf);refine aX ?_;cases h;exact gE (ii 5 [])
theorem Zgk{x r}(h:Zd3 F x=some r):FZ ml 270 [] [aI x] (.bool r) []:=by
 refine fA Tryz.func270 ?_
 unfold Zd3 at h;exact qR
theorem ZiW{x y r}(h:Zep F x y=some r):FZ ml 255 [] [aI x,aI y] (.bool r) []:=by
 refine fA Tryz.func255 ?_
 unfold Zep at h
 (conv=>whnf);left;(conv=>whnf);left;(conv=>whnf);refine cL h Zgk fun a h=>?_;(conv=>whnf);refine bS h (fun h=>?_) fun h=>?_
 ·(conv=>whnf);left;(conv=>whnf);exact cL h Zgk fun b h=>qR
 exact qR
theorem Zev{a b l r}(h:Za0 F a b l=some r):FZ ml 249 (T27 l) [.osw 0 1,aI a,aI b] (.tup []) (T27 r):=by
 refine fG Tryz.func249 ?_
 unfold Za0 at h
 (conv=>whnf);refine jN h fun i=>jM [] (T27 i) 1 (fun h=>?_) fun h=>?_
 ·(conv=>whnf);left;(conv=>whnf);refine lI (fun n' x'=>ZaB F a b n' x'.1 x'.2) (fun x'=>[(0,.osw 0 1),(1,aI a),(2,aI b),(6,aI x'.1)]) (fun x'=>(T27 x'.2)) 1 ((IntKind.wrap IntKind.i64 (a+(1:Int))),l) [(0,0)] h ?_;rintro j ⟨d,k⟩ h;dsimp only at h;rw[ZaB.eq_2]at h;(conv=>whnf);left;refine bS h (fun h=>?_) fun h=>?_
  ·(conv=>whnf);refine jN h fun f=>jM [(0,.osw 0 1),(1,aI a),(2,aI b),(6,aI d)] (T27 f) 1 (fun h=>?_) fun h=>?_
   ·(conv=>whnf);left;(conv=>whnf);refine jN h fun m=>jM [(0,.osw 0 1),(1,aI a),(2,aI b),(6,aI d)] (T27 m) 1 (fun h=>?_) fun h=>?_
    ·(conv=>whnf);left;(conv=>whnf);refine lI (fun n' x'=>Zat F a n' x'.1 x'.2) (fun x'=>[(0,.osw 0 1),(1,aI a),(2,aI b),(6,aI d),(7,aI x'.1)]) (fun x'=>(T27 x'.2)) 1 (d,k) [(0,0)] h ?_;rintro n ⟨e,g⟩ h;dsimp only at h;rw[Zat.eq_2]at h;(conv=>whnf);refine jN h fun o=>jM [(0,.osw 0 1),(1,aI a),(2,aI b),(6,aI d),(7,aI e),(30,.bool o)] (T27 g) 1 (fun h=>?_) fun h=>?_
     ·(conv=>whnf);left;refine bS h (fun h=>?_) fun h=>?_
      ·(conv=>whnf);refine gX h fun h=>?_;(conv=>whnf);refine oB h fun s h=>?_;(conv=>whnf);refine oB h fun t h=>?_;(conv=>whnf);refine gX h fun h=>?_;(conv=>whnf);refine oB h fun u h=>?_;(conv=>whnf);refine oB h fun v h=>?_;(conv=>whnf);left;(conv=>whnf);exact cL h ZiW fun w h=>qE [(0,0)]
      exact qE [(0,0)]
     (conv=>whnf);left;refine bS h (fun h=>?_) fun h=>?_
     ·(conv=>whnf);left;(conv=>whnf);refine gX h fun h=>?_;(conv=>whnf);refine oB h fun x h=>?_;(conv=>whnf);refine oB h fun p h=>?_;(conv=>whnf);refine gX h fun h=>?_;(conv=>whnf);refine oB h fun y h=>?_;(conv=>whnf);refine oB h fun q h=>?_;(conv=>whnf);refine gX h fun h=>?_;(conv=>whnf);refine oB h fun z h=>?_;(conv=>whnf);refine oB h fun A h=>?_;(conv=>whnf);refine gX h fun h=>?_;(conv=>whnf);refine oB (c:=cInt IntKind.i64) h fun B h=>?_;(conv=>whnf);refine oB (c:=cInt IntKind.i64) h fun C h=>?_;(conv=>whnf);refine aX ?_;exact rE (n,(IntKind.wrap IntKind.i64 (e-(1:Int))),(List.set (List.set g (Int.toNat e) p) (Int.toNat (IntKind.wrap IntKind.i64 (e-(1:Int)))) q)) [(0,0)] h
     exact qE [(0,0)]
    exact qE [(0,0)]
   exact rE (j,(IntKind.wrap IntKind.i64 (d+(1:Int))),f) [(0,0)] h
  exact qE [(0,0)]
 exact qG [(0,0)]
theorem Zfo{a b limit l r}(h:ZcB F a b limit l=some r):FZ ml 230 (T27 l) [.osw 0 1,aI a,aI b,aI limit] (.tup []) (T27 r):=by
 refine fG Tryz.func230 ?_
 unfold ZcB at h
 (conv=>whnf);left;(conv=>whnf);refine lI (fun n' (_:Unit)=>Zba F a b limit l n') (fun _=>[(0,.osw 0 1),(1,aI a),(2,aI b),(3,aI limit),(8,.bool true),(9,.bool true)]) (fun _=>(T27 l)) 1 () [(0,0)] h ?_;rintro c-h;rw[Zba.eq_2]at h;(conv=>whnf);left;(conv=>whnf);left;refine bS h (fun h=>?_) fun h=>?_
 ·(conv=>whnf);exact cG [0] h Zev fun d h=>qG [(0,0)]
 (conv=>whnf);left;refine bS h (fun h=>?_) fun h=>?_
 ·(conv=>whnf);left;cases h
 (conv=>whnf);left;(conv=>whnf);left;cases h
theorem ZfA{l r}(h:ZbD F l=some r):FZ ml 199 (T27 l) [.osw 0 1] (.tup []) (T27 r):=by
 refine fG Tryz.func199 ?_
 unfold ZbD at h
 (conv=>whnf);left;(conv=>whnf);refine cL h ZjA fun a h=>?_;(conv=>whnf);exact cG [0] h Zfo fun b h=>qG [(0,0)]
theorem Zi7{a match_ r}(h:ZeM F a match_=some r):FZ ml 167 [] [sM cJ a,sM Zai.c match_] (aI r) []:=by
 refine fA Tryz.func167 ?_
 unfold ZeM at h
 (conv=>whnf);left;(conv=>whnf);refine cL h Zek fun n h=>?_;(conv=>whnf);left;refine bS h (fun h=>qR) fun h=>?_;(conv=>whnf);refine jN h fun j=>jM [(5,.osw 0 1)] (T27 j) 1 (fun h=>?_) fun h=>?_
 ·(conv=>whnf);left;(conv=>whnf);refine lI (fun n' x'=>ZcH F a match_ n' x'.1 x'.2) (fun x'=>[(1,sM Zai.c match_),(5,.osw 0 1),(14,sM cJ a),(15,aI (@Nat.cast Int instNatCastInt (List.length (List.map cJ a)))),(16,aI x'.1)]) (fun x'=>(T27 x'.2)) 1 ((0:Int),[]) [(0,160)] h ?_;rintro k ⟨b,d⟩ h;dsimp only at h;rw[ZcH.eq_2]at h;(conv=>whnf);left;refine bS h (fun h=>?_) fun h=>?_
  ·(conv=>whnf);refine jN h fun f=>jM [(1,sM Zai.c match_),(5,.osw 0 1),(14,sM cJ a),(15,aI (@Nat.cast Int instNatCastInt (List.length (List.map cJ a)))),(16,aI b)] (T27 f) 1 (fun h=>?_) fun h=>?_
   ·(conv=>whnf);left;(conv=>whnf);refine gX h fun h=>?_;(conv=>whnf);refine oB h fun e h=>?_;(conv=>whnf);refine jN h fun l=>jM [(1,sM Zai.c match_),(5,.osw 0 1),(8,aI l),(14,sM cJ a),(15,aI (@Nat.cast Int instNatCastInt (List.length (List.map cJ a)))),(16,aI b)] (T27 d) 1 (fun h=>?_) fun h=>?_
    ·(conv=>whnf);left;(conv=>whnf);refine lI (fun n' x'=>Zcc F match_ e n' x'.1 x'.2) (fun x'=>[(1,sM Zai.c match_),(5,.osw 0 1),(7,aI e),(8,aI x'.1),(14,sM cJ a),(15,aI (@Nat.cast Int instNatCastInt (List.length (List.map cJ a)))),(16,aI b),(20,sM Zai.c match_),(21,aI (@Nat.cast Int instNatCastInt (List.length (List.map Zai.c match_)))),(22,aI x'.2)]) (fun x'=>(T27 d)) 1 ((0:Int),(0:Int)) [(0,0)] h ?_;rintro m ⟨o,g⟩ h;dsimp only at h;rw[Zcc.eq_2]at h;(conv=>whnf);left;refine bS h (fun h=>?_) fun h=>?_
     ·(conv=>whnf);refine jN h fun i=>jM [(1,sM Zai.c match_),(5,.osw 0 1),(7,aI e),(8,aI i),(14,sM cJ a),(15,aI (@Nat.cast Int instNatCastInt (List.length (List.map cJ a)))),(16,aI b),(20,sM Zai.c match_),(21,aI (@Nat.cast Int instNatCastInt (List.length (List.map Zai.c match_)))),(22,aI g)] (T27 d) 1 (fun h=>?_) fun h=>?_
      ·(conv=>whnf);left;(conv=>whnf);refine gX h fun h=>?_;(conv=>whnf);refine oB h fun p h=>?_;exact qE [(0,0)]
      exact rE (m,i,(IntKind.wrap IntKind.i64 (g+(1:Int)))) [(0,0)] h
     exact qE [(0,0)]
    (conv=>whnf);left;(conv=>whnf);refine aX ?_;(conv=>whnf);refine aX ?_;(conv=>whnf);refine gS h fun h=>?_;cases h;exact eE [(0,97)]
   exact rE (k,(IntKind.wrap IntKind.i64 (b+(1:Int))),f) [(0,0)] h
  exact qE [(0,0)]
 (conv=>whnf);refine cG [0] h ZfA fun q h=>?_;(conv=>whnf);refine aX ?_;(conv=>whnf);refine gS h fun h=>?_;(conv=>whnf);refine oB h fun s h=>?_;(conv=>whnf);refine oB h fun t h=>?_;exact qR
theorem Zed{rf l b a d r}(h:Zb2 F rf l b a d=some r):FZ ml 120 (T1 rf l b a d) [pp 0] (.tup []) (T1 r l b a d):=by
 refine fG Tryz.func120 ?_
 unfold Zb2 at h
 (conv=>whnf);refine jN h fun e=>jM [(0,pp 0),(2,.osw 5 2)] (T1 rf l b a d++[(5,rT Zai.c e)]) 6 (fun h=>?_) fun h=>?_
 ·(conv=>whnf);left;(conv=>whnf);refine lI (fun n' x'=>Zbw F rf a n' x'.1 x'.2) (fun x'=>[(0,pp 0),(2,.osw 5 2),(12,sM cJ rf.Conf),(13,aI (@Nat.cast Int instNatCastInt (List.length (List.map cJ rf.Conf)))),(14,aI x'.1)]) (fun x'=>(T1 rf l b a d++[(5,rT Zai.c x'.2)])) 6 ((0:Int),[]) (ii 5 [(5,32)]) h ?_;rintro f ⟨g,i⟩ h;dsimp only at h;rw[Zbw.eq_2]at h;(conv=>whnf);left;refine bS h (fun h=>?_) fun h=>?_
  ·(conv=>whnf);left;(conv=>whnf);refine gX h fun h=>?_;(conv=>whnf);refine oB h fun j h=>?_;(conv=>whnf);refine gX h fun h=>?_;(conv=>whnf);refine oB h fun o h=>?_;(conv=>whnf);refine oB h fun k h=>?_;(conv=>whnf);left;(conv=>whnf);left;(conv=>whnf);refine aX ?_;(conv=>whnf);refine aX ?_;(conv=>whnf);refine gS h fun h=>?_;exact rE (f,(IntKind.wrap IntKind.i64 (g+(1:Int))),(i++((Zai.mk j k)::[]))) (ii 5 [(5,582)]) h
  exact qE (ii 6 [])
 (conv=>whnf);left;(conv=>whnf);refine cL h Zi7 fun m h=>?_;(conv=>whnf);left;(conv=>whnf);refine cL h Zeu fun p h=>?_;(conv=>whnf);exact jN h fun n=>jM [(0,pp 0),(5,aI m),(68,.bool n)] (T1 rf l b a d) 5 (fun h=>qE (ii 5 [])) fun h=>qG (ii 5 [])
theorem Zct{rf l a b d r}(h:ZcJ F rf l a b d=some r):FZ ml 153 (T1 rf l a b d) [pp 0] (.tup []) (T10 r.1 l a b r.2.1 r.2.2.1 r.2.2.2.1 r.2.2.2.2):=by
 refine fG Tryz.func153 ?_
 unfold ZcJ at h
 (conv=>whnf);refine Or.inr (stV_i 1 _ _ rfl rfl rfl ?_);(conv=>whnf);refine cH [0,800,2,3,4] h Zbc fun g h=>?_;(conv=>whnf);left;(conv=>whnf);left;obtain⟨e,hy,h⟩:=ZaE h;refine⟨_,_,(ZdE (cons2 (YI AV.sl rQ) rfl) (Zfp hy)),Or.inr ⟨[960],rfl,?_⟩⟩;(conv=>whnf);left;(conv=>whnf);refine aX ?_;(conv=>whnf);refine And.intro (by omega) ?_;(conv=>whnf);refine gS h fun h=>?_;(conv=>whnf);refine gS h fun h=>?_;(conv=>whnf);left;(conv=>whnf);left;(conv=>whnf);left;(conv=>whnf);refine cR h Zhw fun i h=>?_;(conv=>whnf);left;(conv=>whnf);refine aX ?_;(conv=>whnf);refine jN h fun f=>jM [(0,pp 0)] [(0,rF (Zah.c f++[.osw 5 1,.osw 6 1,.osw 7 1,.osw 4 10])),(1,rT cJ l),(2,rT cJ a),(3,rT cJ b),(4,rT Zac.c d),(5,rT cJ []),(6,rT cJ e),(7,rT cJ (List.replicate (Int.toNat (@Nat.cast Int instNatCastInt (List.length (List.map cJ rf.Conf)))) (0:Int)))] 8 (fun h=>?_) fun h=>?_
 ·(conv=>whnf);left;refine bS h (fun h=>?_) fun h=>?_
  ·cases h;exact eE (ii 5 [(5,800),(6,1184),(7,1568)])
  cases h;exact eE (ii 5 [(5,800),(6,1184),(7,1568)])
 (conv=>whnf);refine cG [0,5,6,7,4] h Zfl fun j h=>?_;(conv=>whnf);refine cG [0,5,6,7,4] h Zed fun k h=>?_;(conv=>whnf);exact cG [0,5,6,7,4] h ZdB fun m h=>qG (ii 5 [(5,173),(6,174),(7,175),(8,176)])
theorem Zhk{g rf l a b e r}(h:Zbr F g rf l a b e=some (Sum.inl r)):FZ ml 102 (T1 rf l a b e) [pp 0,aI g] (.tup []) (T1 r.1 l a b r.2):=by
 refine fG Tryz.func102 ?_
 unfold Zbr at h
 (conv=>whnf);left;refine bS h (fun h=>qG (ii 5 [])) fun h=>?_;(conv=>whnf);refine jN h fun f=>jM [(0,pp 0),(1,aI f)] (T1 rf l a b e) 5 (fun h=>qE (ii 5 [])) fun h=>?_;(conv=>whnf);left;(conv=>whnf);left;(conv=>whnf);refine Or.inr (stV_i 1 _ _ rfl rfl rfl ?_);(conv=>whnf);refine Or.inr (stV_i 1 _ _ rfl rfl rfl ?_);(conv=>whnf);refine aX ?_;(conv=>whnf);refine aX ?_;(conv=>whnf);left;(conv=>whnf);refine cL h (fun h=>aE (Zd9 h)) fun p h=>?_;(conv=>whnf);refine aX ?_;(conv=>whnf);left;refine bS h (fun h=>?_) fun h=>?_
 ·(conv=>whnf);refine cG [0,837,1477,1605,4] h Zct fun q h=>?_;cases h
 (conv=>whnf);left;(conv=>whnf);refine cL h ZdO fun d h=>?_;(conv=>whnf);refine jN h fun⟨m,n⟩=>jM [] (T31 m l a b++[(5,.rows true [[aI rf.Id]]),(6,.rows true []),(7,.rows true []),(8,rT Zac.c n)]) 9 (fun h=>?_) fun h=>?_
 ·(conv=>whnf);left;(conv=>whnf);refine lI (fun n' x'=>ZaS F rf d n' x'.1 x'.2.1 x'.2.2) (fun x'=>[(0,pp 0),(4,aI d.1),(5,aI d.2),(105,sM cJ rf.Conf),(106,aI (@Nat.cast Int instNatCastInt (List.length (List.map cJ rf.Conf)))),(107,aI x'.1)]) (fun x'=>(T10 x'.2.1 l a b (rf.Id::[]) [] [] x'.2.2)) 9 ((0:Int),(Zah.mk rf.Id rf.Conf (IntKind.wrap IntKind.i64 (rf.Term+(1:Int))) rf.Id (1:Int) (0:Int) rf.Trail rf.Snap rf.Commit (IntKind.wrap IntKind.i64 ((10:Int)+(@Int.tmod f (10:Int)))) (IntKind.wrap IntKind.i64 ((10:Int)+(@Int.tmod f (10:Int))))),e) (ii 4 [(5,837),(6,1477),(7,1605),(8,4)]) h ?_;rintro o ⟨i,s,t⟩ h;dsimp only at h;rw[ZaS.eq_2]at h;(conv=>whnf);left;refine bS h (fun h=>?_) fun h=>?_
  ·(conv=>whnf);refine jN h fun⟨j,k⟩=>jM [(0,pp 0),(4,aI d.1),(5,aI d.2),(105,sM cJ rf.Conf),(106,aI (@Nat.cast Int instNatCastInt (List.length (List.map cJ rf.Conf)))),(107,aI i)] (T10 j l a b (rf.Id::[]) [] [] k) 9 (fun h=>?_) fun h=>?_
   ·(conv=>whnf);left;(conv=>whnf);refine gX h fun h=>?_;(conv=>whnf);refine oB h fun u h=>?_;(conv=>whnf);left;refine bS h (fun h=>?_) fun h=>?_
    ·(conv=>whnf);left;obtain⟨v,hy,h⟩:=ZaE h;refine cW [0,5,6,7,8] (ZaH hy) ?_;exact qE (ii 8 [(8,526)])
    exact qE (ii 9 [])
   exact rE (o,(IntKind.wrap IntKind.i64 (i+(1:Int))),j,k) (ii 9 []) h
  exact qE (ii 9 [])
 cases h
theorem Zhj{g rf l a b e r}(h:Zbr F g rf l a b e=some (Sum.inr (Sum.inl r))):FZ ml 102 (T1 rf l a b e) [pp 0,aI g] (.tup []) (T10 r.1 l a b r.2.1 r.2.2.1 r.2.2.2.1 r.2.2.2.2):=by
 refine fG Tryz.func102 ?_
 unfold Zbr at h
 (conv=>whnf);left;refine bS h (fun h=>?_) fun h=>?_
 ·cases h
 (conv=>whnf);refine jN h fun f=>jM [(0,pp 0),(1,aI f)] (T1 rf l a b e) 5 (fun h=>qE (ii 5 [])) fun h=>?_;(conv=>whnf);left;(conv=>whnf);left;(conv=>whnf);refine Or.inr (stV_i 1 _ _ rfl rfl rfl ?_);(conv=>whnf);refine Or.inr (stV_i 1 _ _ rfl rfl rfl ?_);(conv=>whnf);refine aX ?_;(conv=>whnf);refine aX ?_;(conv=>whnf);left;(conv=>whnf);refine cL h (fun h=>aE (Zd9 h)) fun p h=>?_;(conv=>whnf);refine aX ?_;(conv=>whnf);left;refine bS h (fun h=>?_) fun h=>?_
 ·(conv=>whnf);refine cG [0,837,1477,1605,4] h Zct fun q h=>?_;(conv=>whnf);obtain rfl:=Sum.inl.inj (Vi (YL h));exact gI (ii 5 [(5,2602),(6,2603),(7,2604),(8,2605)])
 (conv=>whnf);left;(conv=>whnf);refine cL h ZdO fun d h=>?_;(conv=>whnf);refine jN h fun⟨m,n⟩=>jM [] (T31 m l a b++[(5,.rows true [[aI rf.Id]]),(6,.rows true []),(7,.rows true []),(8,rT Zac.c n)]) 9 (fun h=>?_) fun h=>?_
 ·(conv=>whnf);left;(conv=>whnf);refine lI (fun n' x'=>ZaS F rf d n' x'.1 x'.2.1 x'.2.2) (fun x'=>[(0,pp 0),(4,aI d.1),(5,aI d.2),(105,sM cJ rf.Conf),(106,aI (@Nat.cast Int instNatCastInt (List.length (List.map cJ rf.Conf)))),(107,aI x'.1)]) (fun x'=>(T10 x'.2.1 l a b (rf.Id::[]) [] [] x'.2.2)) 9 ((0:Int),(Zah.mk rf.Id rf.Conf (IntKind.wrap IntKind.i64 (rf.Term+(1:Int))) rf.Id (1:Int) (0:Int) rf.Trail rf.Snap rf.Commit (IntKind.wrap IntKind.i64 ((10:Int)+(@Int.tmod f (10:Int)))) (IntKind.wrap IntKind.i64 ((10:Int)+(@Int.tmod f (10:Int))))),e) (ii 4 [(5,837),(6,1477),(7,1605),(8,4)]) h ?_;rintro o ⟨i,s,t⟩ h;dsimp only at h;rw[ZaS.eq_2]at h;(conv=>whnf);left;refine bS h (fun h=>?_) fun h=>?_
  ·(conv=>whnf);refine jN h fun⟨j,k⟩=>jM [(0,pp 0),(4,aI d.1),(5,aI d.2),(105,sM cJ rf.Conf),(106,aI (@Nat.cast Int instNatCastInt (List.length (List.map cJ rf.Conf)))),(107,aI i)] (T10 j l a b (rf.Id::[]) [] [] k) 9 (fun h=>?_) fun h=>?_
   ·(conv=>whnf);left;(conv=>whnf);refine gX h fun h=>?_;(conv=>whnf);refine oB h fun u h=>?_;(conv=>whnf);left;refine bS h (fun h=>?_) fun h=>?_
    ·(conv=>whnf);left;obtain⟨v,hy,h⟩:=ZaE h;refine cW [0,5,6,7,8] (ZaH hy) ?_;exact qE (ii 8 [(8,526)])
    exact qE (ii 9 [])
   exact rE (o,(IntKind.wrap IntKind.i64 (i+(1:Int))),j,k) (ii 9 []) h
  exact qE (ii 9 [])
 cases h
theorem Zhi{g rf l a b e r}(h:Zbr F g rf l a b e=some (Sum.inr (Sum.inr r))):FZ ml 102 (T1 rf l a b e) [pp 0,aI g] (.tup []) (T31 r.1 l a b++[(5,.rows true [[aI r.2.1]]),(6,.rows true []),(7,.rows true []),(8,rT Zac.c r.2.2)]):=by
 refine fG Tryz.func102 ?_
 unfold Zbr at h
 (conv=>whnf);left;refine bS h (fun h=>?_) fun h=>?_
 ·cases h
 (conv=>whnf);refine jN h fun f=>jM [(0,pp 0),(1,aI f)] (T1 rf l a b e) 5 (fun h=>qE (ii 5 [])) fun h=>?_;(conv=>whnf);left;(conv=>whnf);left;(conv=>whnf);refine Or.inr (stV_i 1 _ _ rfl rfl rfl ?_);(conv=>whnf);refine Or.inr (stV_i 1 _ _ rfl rfl rfl ?_);(conv=>whnf);refine aX ?_;(conv=>whnf);refine aX ?_;(conv=>whnf);left;(conv=>whnf);refine cL h (fun h=>aE (Zd9 h)) fun p h=>?_;(conv=>whnf);refine aX ?_;(conv=>whnf);left;refine bS h (fun h=>?_) fun h=>?_
 ·(conv=>whnf);refine cG [0,837,1477,1605,4] h Zct fun q h=>?_;cases h
 (conv=>whnf);left;(conv=>whnf);refine cL h ZdO fun d h=>?_;(conv=>whnf);refine jN h fun⟨m,n⟩=>jM [] (T31 m l a b++[(5,.rows true [[aI rf.Id]]),(6,.rows true []),(7,.rows true []),(8,rT Zac.c n)]) 9 (fun h=>?_) fun h=>?_
 ·(conv=>whnf);left;(conv=>whnf);refine lI (fun n' x'=>ZaS F rf d n' x'.1 x'.2.1 x'.2.2) (fun x'=>[(0,pp 0),(4,aI d.1),(5,aI d.2),(105,sM cJ rf.Conf),(106,aI (@Nat.cast Int instNatCastInt (List.length (List.map cJ rf.Conf)))),(107,aI x'.1)]) (fun x'=>(T10 x'.2.1 l a b (rf.Id::[]) [] [] x'.2.2)) 9 ((0:Int),(Zah.mk rf.Id rf.Conf (IntKind.wrap IntKind.i64 (rf.Term+(1:Int))) rf.Id (1:Int) (0:Int) rf.Trail rf.Snap rf.Commit (IntKind.wrap IntKind.i64 ((10:Int)+(@Int.tmod f (10:Int)))) (IntKind.wrap IntKind.i64 ((10:Int)+(@Int.tmod f (10:Int))))),e) (ii 4 [(5,837),(6,1477),(7,1605),(8,4)]) h ?_;rintro o ⟨i,s,t⟩ h;dsimp only at h;rw[ZaS.eq_2]at h;(conv=>whnf);left;refine bS h (fun h=>?_) fun h=>?_
  ·(conv=>whnf);refine jN h fun⟨j,k⟩=>jM [(0,pp 0),(4,aI d.1),(5,aI d.2),(105,sM cJ rf.Conf),(106,aI (@Nat.cast Int instNatCastInt (List.length (List.map cJ rf.Conf)))),(107,aI i)] (T10 j l a b (rf.Id::[]) [] [] k) 9 (fun h=>?_) fun h=>?_
   ·(conv=>whnf);left;(conv=>whnf);refine gX h fun h=>?_;(conv=>whnf);refine oB h fun u h=>?_;(conv=>whnf);left;refine bS h (fun h=>?_) fun h=>?_
    ·(conv=>whnf);left;obtain⟨v,hy,h⟩:=ZaE h;refine cW [0,5,6,7,8] (ZaH hy) ?_;exact qE (ii 8 [(8,526)])
    exact qE (ii 9 [])
   exact rE (o,(IntKind.wrap IntKind.i64 (i+(1:Int))),j,k) (ii 9 []) h
  exact qE (ii 9 [])
 (conv=>whnf);obtain rfl:=Vi (Vi (YL h));exact gI (ii 9 [])
theorem Zlm{r_ b r}(h:ZhF F r_ b=some r):FZ ml 71 [] [.agg (Zad.c r_),aI b] (.tup [.agg [aI r.1,sM cJ r.2.1,aI r.2.2.1,aI r.2.2.2.1,aI r.2.2.2.2.1,aI r.2.2.2.2.2.1,aI r.2.2.2.2.2.2.1,aI r.2.2.2.2.2.2.2.1,sM Zab.c r.2.2.2.2.2.2.2.2.1,.str r.2.2.2.2.2.2.2.2.2.1,aI r.2.2.2.2.2.2.2.2.2.2.1,aI r.2.2.2.2.2.2.2.2.2.2.2.1,aI r.2.2.2.2.2.2.2.2.2.2.2.2.1,.osw 0 1,.osw 1 1,.osw 2 1],.osw 3 10]) (T41 r.2.2.2.2.2.2.2.2.2.2.2.2.2.1 r.2.2.2.2.2.2.2.2.2.2.2.2.2.2.1 r.2.2.2.2.2.2.2.2.2.2.2.2.2.2.2.1++[(3,rT Zac.c r.2.2.2.2.2.2.2.2.2.2.2.2.2.2.2.2)]):=by
 refine fG Tryz.func71 ?_
 unfold ZhF at h
 (conv=>whnf);left;(conv=>whnf);left;(conv=>whnf);left;(conv=>whnf);refine cR h Zfy fun j h=>?_;(conv=>whnf);left;(conv=>whnf);refine cL h ZbQ fun k h=>?_;(conv=>whnf);left;refine bS h (fun h=>?_) fun h=>?_
 ·cases h;exact gE [(0,161),(1,162),(2,163),(3,480)]
 (conv=>whnf);refine jN h fun⟨d,e,f,g,i⟩=>jM [(4,pp 0),(6,pp 1)] (T24 d e f g i) 6 (fun h=>?_) fun h=>?_
 ·(conv=>whnf);left;(conv=>whnf);left;refine bS h (fun h=>qE [(0,64),(1,160),(2,161),(3,162),(4,163),(5,164)]) fun h=>?_;(conv=>whnf);left;refine bS h (fun h=>?_) fun h=>?_
  ·(conv=>whnf);exact cG [160,161,162,163,164] h ZdB fun l h=>qE [(0,64),(1,160),(2,1349),(3,1350),(4,1351),(5,1352)]
  obtain⟨a,hy,h⟩:=ZaE h;rcases a with a|a
  ·replace h:=Zeg h;(conv=>whnf);refine cg [160,161,162,163,164] (Zhk hy) ?_;exact qE [(0,64),(1,160),(2,161),(3,162),(4,163),(5,164)]
  replace h:=Zef h;rcases a with a|a
  ·replace h:=Zeg h;(conv=>whnf);refine cg [160,161,162,163,164] (Zhj hy) ?_;exact qE [(0,64),(1,160),(2,1221),(3,1222),(4,1223),(5,1224)]
  replace h:=Zef h;(conv=>whnf);refine cg [160,161,162,163,164] (Zhi hy) ?_;cases h;exact eE [(0,64),(1,160),(2,1221),(3,1222),(4,1223),(5,1224)]
 exact qG [(0,2),(1,3),(2,4),(3,5)]
theorem Zgp{s1 s2 r}(h:ZbY F s1 s2=some r):FZ ml 125 [] [sM cJ s1,sM cJ s2] (.bool r) []:=by
 refine fA Tryz.func125 ?_
 unfold ZbY at h
 (conv=>whnf);left;refine bS h (fun h=>qR) fun h=>?_;(conv=>whnf);refine jS h fun o0 vu=>jT [] [] 0 (fun h k0 e=>?_) fun h=>?_
 ·(conv=>whnf);left;(conv=>whnf);refine lI (fun n' x'=>Zbf F s1 s2 n' x') (fun x'=>[(0,sM cJ s1),(1,sM cJ s2),(12,aI (@Nat.cast Int instNatCastInt (List.length (List.map cJ s1)))),(13,aI x')]) (fun x'=>[]) 0 (0:Int) [] h ?_;rintro a b h;rw[Zbf.eq_2]at h;(conv=>whnf);left;refine bS h (fun h=>?_) fun h=>?_
  ·(conv=>whnf);left;(conv=>whnf);refine gX h fun h=>?_;(conv=>whnf);refine oB h fun c h=>?_;(conv=>whnf);refine gX h fun h=>?_;(conv=>whnf);refine oB h fun d h=>?_;(conv=>whnf);refine aX ?_;(conv=>whnf);left;refine bS h (fun h=>?_) fun h=>?_
   ·cases h;cases k0;exact rfl
   exact rE (a,(IntKind.wrap IntKind.i64 (b+(1:Int)))) [] h
  exact qE []
 exact qR
theorem ZdK{n r}(h:ZcN F n=some r):FZ ml 169 [] [aI n] (.agg (Zaf.c r)) []:=by
 refine fA Tryz.func169 ?_
 unfold ZcN at h;exact qR
theorem Ze8{kind fields r}(h:ZdJ F kind fields=some r):FZ ml 168 [] [aI kind,sM Zaf.c fields] (sM cB r) []:=by
 refine fA Tryz.func168 ?_
 unfold ZdJ at h
 (conv=>whnf);left;(conv=>whnf);refine cL h ZdK fun a h=>?_;(conv=>whnf);left;(conv=>whnf);refine aX ?_;(conv=>whnf);refine aX ?_;(conv=>whnf);refine gS h fun h=>?_;(conv=>whnf);left;obtain⟨b,hy,h⟩:=ZaE h;refine⟨_,_,(ZdE (cons2 (YI AV.sl rQ) rfl) (Zav (Zfi hy) rfl)),Or.inr ⟨[192],rfl,?_⟩⟩;exact qR
theorem Zix{s r}(h:ZfZ F s=some r):FZ ml 170 [] [.str s] (.agg (Zaf.c r)) []:=by
 refine fA Tryz.func170 ?_
 unfold ZfZ at h;exact qR
end Go.T
