import Derived.Test.YtjpmdkgonlmddaaGreatDoorCertF
set_option linter.unusedVariables false
set_option maxRecDepth 200000
set_option maxHeartbeats 4000000
namespace Go.T
open Go Go.Ab Go.Proofs
variable {ml:Gv} {F:Nat}
theorem Zfn {list r} (h:ZbM F list=some r):FZ ml 36 [] [sM Zac.c list] (.tup [.osw 0 1,aI r.1]) [(0,rT (cInt IntKind.u8) r.2)]:=by
 refine fG Tryz.func36 ?_
 unfold ZbM at h
 (conv=>whnf);refine jS h fun o2 l_12=>jT [(4,.osw 0 1)] [(0,rT (cInt IntKind.u8) l_12)] 1 (fun h k2 e=>?_) fun h=>?_
 ·(conv=>whnf);left;(conv=>whnf);refine lI (fun n' x'=>ZaP F list n' x'.1 x'.2) (fun x'=>[(0,sM Zac.c list),(4,.osw 0 1),(5,aI x'.1)]) (fun x'=>[(0,rT (cInt IntKind.u8) x'.2)]) 1 ((0:Int),[]) [(0,96)] h ?_;rintro n_19 ⟨i_20,l_21⟩ h;dsimp only at h;rw [ZaP.eq_2] at h;(conv=>whnf);left;refine bS h (fun h=>?_) fun h=>?_
  ·(conv=>whnf);refine jS h fun o4 l_27=>jT [(0,sM Zac.c list),(4,.osw 0 1),(5,aI i_20)] [(0,rT (cInt IntKind.u8) l_27)] 1 (fun h k4 e=>?_) fun h=>?_
   ·(conv=>whnf);left;(conv=>whnf);refine gX h fun h=>?_;(conv=>whnf);refine oB h fun y_28 h=>?_;(conv=>whnf);left;(conv=>whnf);left;(conv=>whnf);left;refine bS h (fun h=>?_) fun h=>?_
    ·(conv=>whnf);left;refine bS h (fun h=>?_) fun h=>?_
     ·cases h;cases k4;cases k2;exact gE [(0,545)]
     (conv=>whnf);exact cG [0] h ZbD fun y_29 h=>qE [(0,674)]
    (conv=>whnf);left;refine bS h (fun h=>?_) fun h=>?_
    ·(conv=>whnf);left;refine bS h (fun h=>?_) fun h=>?_
     ·(conv=>whnf);exact cG [0] h ZbD fun y_30 h=>qE [(0,866)]
     (conv=>whnf);exact cG [0] h ZbD fun y_31 h=>qE [(0,770)]
    (conv=>whnf);left;refine bS h (fun h=>?_) fun h=>?_
    ·(conv=>whnf);left;refine bS h (fun h=>?_) fun h=>?_
     ·cases h;cases k4;cases k2;exact gE [(0,705)]
     (conv=>whnf);refine cG [0] h ZbD fun y_32 h=>?_;(conv=>whnf);refine aX ?_;(conv=>whnf);refine aX ?_;(conv=>whnf);refine gS h fun h=>?_;cases h;cases e;exact eE [(0,1025)]
    cases h;cases k4;cases k2;exact gE [(0,577)]
   exact rE (n_19,(IntKind.wrap IntKind.i64 (i_20+(1:Int))),l_27) [(0,0)] h
  exact qE [(0,0)]
 exact qG [(0,0)]
theorem Zf5 {m r} (h:Zcj F m=some r):FZ ml 13 [] [.agg (Zad.c m)] (.str r) []:=by
 refine fA Tryz.func13 ?_
 unfold Zcj at h
 (conv=>whnf);left;(conv=>whnf);left;refine bS h (fun h=>qR) fun h=>?_;(conv=>whnf);refine jN h fun yes_0=>jM [(1,pp 0),(3,aI yes_0)] [(0,rF (Zad.c m))] 1 (fun h=>qE [(0,32)]) fun h=>?_;(conv=>whnf);left;(conv=>whnf);refine jN h fun l_5=>jM [(1,pp 0),(5,.osw 1 3)] [(0,rF (Zad.c m)),(1,rT Zac.c l_5)] 2 (fun h=>?_) fun h=>?_
 ·(conv=>whnf);left;(conv=>whnf);refine lI (fun n' x'=>Za2 F m yes_0 n' x'.1 x'.2) (fun x'=>[(1,pp 0),(4,.osw 1 1),(5,.osw 2 3),(6,aI x'.1)]) (fun x'=>[(0,rF (Zad.c m)),(1,rT (cInt IntKind.i64) (m.Kind::(m.From::(m.To::(m.Term::(m.Index::(m.LogTerm::(m.Commit::(yes_0::((@Nat.cast Int instNatCastInt (List.length (List.map Zaa.c m.Entries)))::[])))))))))),(2,rT Zac.c x'.2)]) 3 ((0:Int),[]) [(0,0),(1,577),(2,641)] h ?_;rintro n_10 ⟨i_11,l_12⟩ h;dsimp only at h;rw [Za2.eq_2] at h;(conv=>whnf);left;refine bS h (fun h=>?_) fun h=>?_
  ·(conv=>whnf);left;(conv=>whnf);refine gX h fun h=>?_;(conv=>whnf);refine oB h fun y_15 h=>?_;(conv=>whnf);refine oB h fun y_16 h=>?_;(conv=>whnf);left;(conv=>whnf);left;(conv=>whnf);refine aX ?_;(conv=>whnf);refine aX ?_;(conv=>whnf);refine gS h fun h=>?_;exact rE (n_10,(IntKind.wrap IntKind.i64 (i_11+(1:Int))),(l_12++((Zac.mk (1:Int) y_16 ([]:List UInt8))::[]))) [(0,0),(1,1),(2,355)] h
  exact qE [(0,0),(1,2)]
 (conv=>whnf);refine jN h fun l_25=>jM [(1,pp 0),(5,.osw 1 3)] [(0,rF (Zad.c m)),(1,rT Zac.c l_25)] 2 (fun h=>?_) fun h=>?_
 ·(conv=>whnf);left;(conv=>whnf);refine lI (fun n' x'=>Za1 F m n' x'.1 x'.2) (fun x'=>[(1,pp 0),(5,.osw 1 3),(7,aI x'.1)]) (fun x'=>[(0,rF (Zad.c m)),(1,rT Zac.c x'.2)]) 2 ((0:Int),l_5) [(0,0),(1,1)] h ?_;rintro n_30 ⟨i_31,l_32⟩ h;dsimp only at h;rw [Za1.eq_2] at h;(conv=>whnf);left;refine bS h (fun h=>?_) fun h=>?_
  ·(conv=>whnf);left;(conv=>whnf);refine gX h fun h=>?_;(conv=>whnf);refine oB h fun y_35 h=>?_;(conv=>whnf);left;(conv=>whnf);left;(conv=>whnf);refine aX ?_;(conv=>whnf);refine aX ?_;(conv=>whnf);refine gS h fun h=>?_;(conv=>whnf);refine gX h fun h=>?_;(conv=>whnf);refine oB h fun y_36 h=>?_;(conv=>whnf);left;(conv=>whnf);left;(conv=>whnf);refine aX ?_;(conv=>whnf);refine And.intro (Zal.append (Zal.map (fun _=>rfl)) (Zal.cons rfl Zal.nil)) ?_;(conv=>whnf);refine gS h fun h=>?_;exact rE (n_30,(IntKind.wrap IntKind.i64 (i_31+(1:Int))),((l_32++((Zac.mk (1:Int) y_35.Term ([]:List UInt8))::[]))++((Zac.mk (3:Int) (0:Int) y_36.Data)::[]))) [(0,0),(1,802)] h
  exact qE [(0,0),(1,1)]
 (conv=>whnf);left;(conv=>whnf);left;(conv=>whnf);refine aX ?_;(conv=>whnf);refine aX ?_;(conv=>whnf);refine gS h fun h=>?_;(conv=>whnf);left;obtain ⟨y_37,hy,h⟩:=ZaL h;refine ⟨_,_,(Zc3 (cons2 (congrArg AV.sl rQ) rfl) (Zav (Zfn hy) rfl)),Or.inr ⟨[162],rfl,?_⟩⟩;(conv=>whnf);left;refine bS h (fun h=>qR) fun h=>?_;(conv=>whnf);obtain ⟨hg,h⟩:=ZiJ h;refine ⟨_,Zgq rQ hg,?_⟩;exact qR
theorem Zfm {a b r} (h:Zb9 F a b=some r):FZ ml 22 [] [sM Zaa.c a,sM Zaa.c b] (.bool r) []:=by
 refine fA Tryz.func22 ?_
 unfold Zb9 at h
 (conv=>whnf);left;refine bS h (fun h=>qR) fun h=>?_;(conv=>whnf);refine jS h fun o0 vu=>jT [] [] 0 (fun h k0 e=>?_) fun h=>?_
 ·(conv=>whnf);left;(conv=>whnf);refine lI (fun n' x'=>ZaJ F a b n' x') (fun x'=>[(0,sM Zaa.c a),(1,sM Zaa.c b),(5,aI x')]) (fun x'=>[]) 0 (0:Int) [] h ?_;rintro n_12 i_13 h;rw [ZaJ.eq_2] at h;(conv=>whnf);left;refine bS h (fun h=>?_) fun h=>?_
  ·(conv=>whnf);left;(conv=>whnf);refine gX h fun h=>?_;(conv=>whnf);refine oB h fun y_16 h=>?_;(conv=>whnf);refine gX h fun h=>?_;(conv=>whnf);refine oB h fun y_17 h=>?_;(conv=>whnf);refine aX ?_;(conv=>whnf);refine aX ?_;(conv=>whnf);left;refine bS h (fun h=>?_) fun h=>?_
   ·cases h;cases k0;exact rfl
   exact rE (n_12,(IntKind.wrap IntKind.i64 (i_13+(1:Int)))) [] h
  exact qE []
 exact qR
theorem Zdx {a b r} (h:ZaH F a b=some r):FZ ml 14 [] [.agg (Zad.c a),.agg (Zad.c b)] (.bool r) []:=by
 refine fA Tryz.func14 ?_
 unfold ZaH at h
 (conv=>whnf);left;(conv=>whnf);left;(conv=>whnf);left;refine bS h (fun h=>?_) fun h=>?_
 ·(conv=>whnf);refine bS h (fun h=>?_) fun h=>?_
  ·(conv=>whnf);refine bS h (fun h=>?_) fun h=>?_
   ·(conv=>whnf);refine bS h (fun h=>?_) fun h=>?_
    ·(conv=>whnf);refine bS h (fun h=>?_) fun h=>?_
     ·(conv=>whnf);refine bS h (fun h=>?_) fun h=>?_
      ·(conv=>whnf);refine bS h (fun h=>?_) fun h=>?_
       ·(conv=>whnf);refine bS h (fun h=>?_) fun h=>?_
        ·(conv=>whnf);left;(conv=>whnf);exact cL h Zfm fun y_0 h=>qR
        exact qR
       exact qR
      exact qR
     exact qR
    exact qR
   exact qR
  exact qR
 exact qR
theorem ZeH {m body r} (h:ZbE F m body=some r):FZ ml 3 [] [.agg (Zad.c m),.str body] (.bool r) []:=by
 refine fA Tryz.func3 ?_
 unfold ZbE at h
 (conv=>whnf);left;(conv=>whnf);left;(conv=>whnf);refine cL h ZfT fun y_0 h=>?_;(conv=>whnf);left;refine bS h (fun h=>qR) fun h=>?_;(conv=>whnf);left;(conv=>whnf);refine cL h Ze1 fun y_1 h=>?_;(conv=>whnf);left;(conv=>whnf);refine cR h ZfF fun y_2 h=>?_;(conv=>whnf);left;(conv=>whnf);left;(conv=>whnf);refine cR h (fun h=>Zav (Zfl h) rfl) fun y_3 h=>?_;(conv=>whnf);left;(conv=>whnf);refine jN h fun t40_6=>jM [(1,.str body),(2,pp 0),(5,.str y_1),(6,pp 1),(7,aI y_2.2),(40,.bool t40_6)] [(0,rF (Zad.c m)),(1,rF (Zad.c y_2.1))] 2 (fun h=>?_) fun h=>?_
 ·(conv=>whnf);left;(conv=>whnf);left;(conv=>whnf);refine cL h Zf5 fun y_7 h=>?_;(conv=>whnf);refine bS h (fun h=>qE [(0,32),(1,416)]) fun h=>?_;(conv=>whnf);refine bS h (fun h=>qE [(0,32),(1,416)]) fun h=>?_;(conv=>whnf);left;(conv=>whnf);exact cL h Zdx fun y_8 h=>qE [(0,32),(1,416)]
 (conv=>whnf);left;refine bS h (fun h=>qR) fun h=>?_;(conv=>whnf);refine jS h fun o2 vu=>jT [(1,.str body),(6,pp 0),(7,aI y_2.2)] [(0,rF (Zad.c y_2.1))] 1 (fun h k2 e=>?_) fun h=>?_
 ·(conv=>whnf);left;refine bS h (fun h=>?_) fun h=>?_
  ·(conv=>whnf);left;(conv=>whnf);refine cR h ZfF fun y_12 h=>?_;(conv=>whnf);left;(conv=>whnf);refine jN h fun t55_14=>jM [(1,.str body),(6,pp 0),(7,aI y_2.2),(55,.bool t55_14)] [(0,rF (Zad.c y_2.1))] 1 (fun h=>?_) fun h=>?_
   ·(conv=>whnf);left;refine bS h (fun h=>qE [(0,1)]) fun h=>?_;(conv=>whnf);left;(conv=>whnf);exact cL h Zdx fun y_15 h=>qE [(0,1)]
   (conv=>whnf);left;refine bS h (fun h=>?_) fun h=>?_
   ·cases h;cases k2;exact rfl
   exact qE [(0,0)]
  exact qE [(0,1)]
 (conv=>whnf);left;refine bS h (fun h=>qR) fun h=>?_;(conv=>whnf);left;(conv=>whnf);exact cL h Ze1 fun y_16 h=>qR
end Go.T
