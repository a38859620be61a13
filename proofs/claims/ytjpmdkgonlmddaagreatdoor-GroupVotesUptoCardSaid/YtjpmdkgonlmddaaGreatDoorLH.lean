import Derived.Test.YtjpmdkgonlmddaaGreatDoorLG
set_option linter.unusedVariables false
set_option maxRecDepth 20000
namespace Go.T
open Go Go.Ab
theorem QP(k f:Nat)(n:Int)(rs:List (List Int))(r:List Int)(dO:Int)(l:List bp)(f2:f≤999999999)(hR:eu rs)(hl:l.length≤2000000)(hc:0≤dO∧dO≤2000000)(hX:(bH k rs []).length≤1048576)(hb:cX r):
 (∃e,e≠0∧uO FF r (ai f) n dO ((bH k rs []).length:Int) [(ai f,bH k rs [])] l=some (e,ai f,n,dO,((bH k rs []).length:Int),[(ai f,bH k rs [])],l))∨
 (uO FF r (ai f) n dO ((bH k rs []).length:Int) [(ai f,bH k rs [])] l=some (0,ai f,n,dO+1,((bH k (rs++[r]) []).length:Int),[(ai f,bH k (rs++[r]) [])],l++[wv (ai f) r])∧eu (rs++[r])∧(bH k (rs++[r]) []).length≤1048576):=by
 have xp:=Lm f f2
 have hm:=Ri k rs r
 rcases UP r (ai f) n dO _ _ l (by omega) (CZ f _ f2 hX (Dh hR cX.nil)) hl hc with ⟨e,he,h1,h2⟩|⟨h1,h2,h3,h4,h5⟩
 ·exact .inl ⟨e,he,h1⟩
 ·rw[vZ,←Ya,←hm]at h4
  rw[pA,Yv,Rm,←hm]at h1
  refine .inr ⟨?_,?_,h4⟩
  ·rw[h1]
   have:((bH k rs []).length:Int)+((cw r).length:Int)=((bH k (rs++[r]) []).length:Int):=by rw[hm,Ya];omega
   rw[this];rfl
  ·intro x hx
   rcases Yw.1 hx with hx|hx
   ·exact hR x hx
   ·simp only[Ys]at hx
    subst hx;exact⟨h2,hb⟩
theorem Qk(kept:bn)(k f n:Nat)(rs:List (List Int))(f2:f≤999999999)(add:List (List Int))(ha:add.length≤100000)(hb:∀x,x∈add→cX x)(hR:eu rs)(hX:(bH k rs []).length≤1048576):
 cr (wO FF kept add FF 0 (ai f) (n:Int) (rs.length:Int) ((bH k rs []).length:Int) [(ai f,bH k rs [])] []) fun o=>∃m,m≤add.length∧eu (rs++add.take m)∧(bH k (rs++add.take m) []).length≤1048576∧
  (
   o=.inl (3,kept,ai f,(n:Int),((rs++add.take m).length:Int),((bH k (rs++add.take m) []).length:Int),[(ai f,bH k (rs++add.take m) [])],(add.take m).map (wv (ai f)))∨
   m=add.length∧o=.inr (ai f,(n:Int),((rs++add.take m).length:Int),((bH k (rs++add.take m) []).length:Int),[(ai f,bH k (rs++add.take m) [])],(add.take m).map (wv (ai f)))):=by
 have:=dk (fun q (i:Nat)=>wO FF kept add q (i:Int) (ai f) (n:Int) ((rs++add.take i).length:Int) ((bH k (rs++add.take i) []).length:Int) [(ai f,bH k (rs++add.take i) [])] ((add.take i).map (wv (ai f)))) (fun i=>i≤add.length∧eu (rs++add.take i)∧(bH k (rs++add.take i) []).length≤1048576) (fun i=>add.length-i)
  (fun o=>∃m,m≤add.length∧eu (rs++add.take m)∧(bH k (rs++add.take m) []).length≤1048576∧(o=.inl (3,kept,ai f,(n:Int),((rs++add.take m).length:Int),((bH k (rs++add.take m) []).length:Int),[(ai f,bH k (rs++add.take m) [])],(add.take m).map (wv (ai f)))∨m=add.length∧o=.inr (ai f,(n:Int),((rs++add.take m).length:Int),((bH k (rs++add.take m) []).length:Int),[(ai f,bH k (rs++add.take m) [])],(add.take m).map (wv (ai f))))) (by
   rintro q i ⟨h1,h2,h3⟩ kk;simp only[wO]
   refine tT (fun a=>?_) fun a=>.ret ⟨i,h1,h2,h3,.inr ⟨by omega,rfl⟩⟩
   refine tG (by omega) (tE (by simp;omega) fun x hx hm=>?_)
   rw[Int.toNat_natCast]at hx
   have ht:add.take (i+1)=add.take i++[x]:=by rw[Wc,hx];rfl
   have Zb:=AM k (rs++add.take i) []
   rcases QP k f (n:Int) (rs++add.take i) x ((rs++add.take i).length:Int) ((add.take i).map (wv (ai f))) f2 h2 (by simp;omega) (by omega) h3 (hb x hm)with ⟨e,he,g⟩|⟨g,g2,g3⟩
   ·refine tO g ?_
    simp only
    rw[show(e != 0)=true by simpa using he,Y5]
    exact .ret ⟨i,h1,h2,h3,.inl rfl⟩
   ·refine tO g ?_
    simp only[show((0:Int) != 0)=false from rfl,Y8]
    have:=kk (i+1) ⟨by omega,by rw[ht,←Yq];exact g2,by rw[ht,←Yq];exact g3⟩ (by omega)
    rw[w1 (by omega)]
    rw[ht,←Yq]at this
    rw[show(((rs++add.take i).length:Nat):Int)+1=(((rs++add.take i++[x]).length:Nat):Int) by simp;omega]
    rw[Yd]at this
    exact this) FF 0 ⟨YC _,by simpa using hR,by simpa using hX⟩ (by simp only[FF];omega)
 simpa using this
structure SU(kept:bn)(rs:List (List Int))(f n:Nat)(X:List Int):Prop where
 ud:UD f rs X
 fn:f≤n
 n9:n≤999999999
 hv:jZ (0,0) rs=(kept.Term,kept.bg)
 kk:KK kept
theorem KD{kept r:bn}{rs:List (List Int)}{f n:Nat}{X:List Int}(h:SU kept rs f n X)(hs:Small r)(hc:∀x,x∈r.au→x<9223372036854775808):
 cr (yI FF r kept (ai f) (n:Int) (rs.length:Int) (X.length:Int) [(ai f,X)] []) fun y=>∃(add:List (List Int)) (k:Nat),k≤rs.length∧eu (rs++add)∧(bH k (rs++add) []).length≤1048576∧
  y.2.2=(ai f,(n:Int),((rs++add).length:Int),((bH k (rs++add) []).length:Int),[(ai f,bH k (rs++add) [])],add.map (wv (ai f)))∧
  (∀m,jZ (0,0) (rs++add.take m)=(kept.Term,kept.bg)∨jZ (0,0) (rs++add.take m)=(r.Term,r.bg))∧
  (y.1≠0∧y.2.1=kept∨y.1=0∧y.2.1=rj r∧RK r∧jZ (0,0) (rs++add)=(r.Term,r.bg)):=by
 obtain⟨k,hX,px⟩:=h.ud.k
 have iu:=h.ud.xl
 have hR:=h.ud.rc
 subst hX;unfold yI
 refine tB (Q:=fun b=>b=false→RK r) ?_ fun b _ hb=>tC (fun _=>.ret ⟨[],k,px,by simpa using hR,by simpa using iu,by simp,fun m=>.inl (by rw[V5,YE];exact h.hv),.inl ⟨show(4:Int)≠0 by decide,rfl⟩⟩) fun e=>?_
 ·refine tB (HH r hs) fun b e1 h1=>tC (fun _=>.ret (by simp)) fun e2=>?_
  have e2:b=true:=by simpa using e2
  subst e2
  exact tC (fun _=>.ret (by simp)) fun e=>tB (RT _ _ hs.c) fun b2 _ he=>.ret fun q=>⟨e1,h1 rfl,hc⟩
 have sH:=hb e
 refine tB (LQ kept r (by have:=h.kk.e;omega) sH.kk) fun st _ hst=>?_
 obtain⟨s1,s2,s3⟩:=hst
 have hw:=Qk kept k f n rs h.ud.f2 st (by omega) (fun x hx=>(s2 x hx).1) hR iu
 refine tB hw fun o _ ho=>?_
 obtain⟨m,hm,g1,g2,g3⟩:=ho
 have al:∀q,jZ (0,0) (rs++(st.take m).take q)=(kept.Term,kept.bg)∨jZ (0,0) (rs++(st.take m).take q)=(r.Term,r.bg):=fun q=>by
  rw[AK,h.hv,List.take_take];exact s3.al _
 rcases g3 with rfl|⟨iv,rfl⟩
 ·exact .ret ⟨st.take m,k,px,g1,g2,rfl,al,.inl ⟨show(3:Int)≠0 by decide,rfl⟩⟩
 ·have htm:st.take m=st:=YV (by omega)
  rw[htm]at g1 g2 al⊢;simp only[Sum.elim_inr]
  exact tO (HS r hs) (.ret ⟨st,k,px,g1,g2,rfl,al,.inr ⟨rfl,rfl,sH,by rw[AK,h.hv];exact s3.en⟩⟩)
theorem J8{kept:bn}{rs:List (List Int)}{f n:Nat}{X:List Int}(h:SU kept rs f n X):
 cr (yo FF kept (ai f) (n:Int) (rs.length:Int) (X.length:Int) [(ai f,X)] []) fun y=>
  (∃eA X',y=(0,ai (n+1),((n+1:Nat):Int),(eA.length:Int),(X'.length:Int),[(ai (n+1),X')],[])∧SU kept eA (n+1) (n+1) X')∨
  y.1≠0∧cr (pd FF 0 0 y.2.2.2.2.1 y.2.2.2.2.2.1 y.2.2.2.2.2.2) fun z=>DR z.1 z.2 [] rs:=by
 have hx:=h.ud.xl
 have jE:=h.ud.f2;have tZ:=h.ud.f1
 have hfn:=h.fn;have Oo:=h.n9
 have hD:=CZ f X jE hx (by obtain⟨k,e, -⟩:=h.ud.k;rw[e];exact Dh h.ud.rc cX.nil)
 have hW:=WI.nil [(ai f,X)]
 unfold yo
 refine tB (LQ (bn.mk 0 [] 0 0 0 0 (cD.mk 0 0 []) [] 0 0 0 [] [] []) kept (by simp) h.kk) fun st _ hst=>?_
 obtain⟨s1,s2,s3⟩:=hst
 have hfr:∀q:Nat,n<q→q≤999999999→ak (ai q) [(ai f,X)]=none:=fun q h1 h2=>by
  cases e:ak (ai q) [(ai f,X)]with
  |none=>rfl
  |some Y=>have:=(rL jE h2 e).1;omega
 have Fg:DR (X.length:Int) [(ai f,X)] [] rs:=⟨hD,hW,fun e he=>by
  simp only[Ys]at he;subst he;exact⟨f,tZ,jE,rfl⟩,.inr ⟨f,X,tZ,jE,pA _ _,by obtain⟨k,e,e2⟩:=h.ud.k;exact⟨k,[],e,e2,h.ud.rc,rG⟩,fun z Y b1 b2 b3=>by have:=(rL jE b2 b3).1;omega,fun w hw=>by cases hw⟩⟩
 have Ff:cr (pd FF 0 0 (X.length:Int) [(ai f,X)] []) fun z=>DR z.1 z.2 [] rs:=by
  refine(Lt 0 0 _ _ _ hD hW).mono fun z hz=>?_
  obtain⟨z1,z2,z3,z4⟩:=hz
  have hg:ak (ai f) z.2=some X:=by rw[z3 _ (fun w hw=>by cases hw)];exact pA _ _
  have ho:=KW z1.nk (fun e he=>by
   have:e.1∈z.2.map Prod.fst:=Ws he
   rw[z2]at this;simpa using this) hg
  have hc:=z1.dV
  rw[ho,vZ]at hc
  obtain⟨za,zb⟩:=z
  simp only at ho hc⊢;rw[ho,hc];exact Fg
 rcases L2 st (ai f) n (rs.length:Int) (X.length:Int) [(ai f,X)] [] (by omega) (fun x hx=>(s2 x hx).1) Oo hD (by simp) hfr (.inr ⟨X,pA _ _⟩)with ⟨g, -⟩|⟨c2,c',fs',l',g, -,gd,gq,gf⟩|⟨k1,k2,c',l',g,k3,k4,k5,kw⟩
 ·exact tO g (.ret (.inr ⟨show(1:Int)≠0 by decide,Ff⟩))
 ·refine tO g (.ret (.inr ⟨show(3:Int)≠0 by decide,?_⟩))
  obtain⟨d1,d2⟩:=gd hW
  simp only
  refine(Lt 0 0 c' fs' l' d1 d2).mono fun z hz=>?_
  obtain⟨z1,z2,z3,z4⟩:=hz
  have FL:ai f≠ai (n+1):=fun e=>by
   unfold ai at e
   have:=Dm (a:=f) (b:=n+1) (by omega) (by omega) (WG e)
   omega
  have hg:ak (ai f) z.2=some X:=by
   rw[z3 _ (fun w hw=>by
    rcases gq w hw with q|q
    ·cases q
    ·rw[q];exact fun e=>FL e.symm)]
   rcases gf with rfl|⟨-, -,j, -,rfl⟩
   ·exact pA _ _
   ·exact Bb (pA _ _)
  have j6:∀e,e∈z.2→e.1=ai f∨n+1≤999999999∧e.1=ai (n+1):=fun e he=>by
   have hm:e.1∈z.2.map Prod.fst:=Ws he
   rw[z2]at hm
   rcases gf with rfl|⟨-,n9,j, -,rfl⟩
   ·left;simpa using hm
   ·simp only[Yd,Yp,Vr,Yw,Ys]at hm
    exact hm.imp (fun x=>x) fun q=>⟨n9,q⟩
  refine⟨z1,WI.nil _,fun e he=>?_,.inr ⟨f,X,tZ,jE,hg,by obtain⟨k,e,e2⟩:=h.ud.k;exact⟨k,[],e,e2,h.ud.rc,rG⟩,fun q Y b1 b2 b3=>?_,fun w hw=>by cases hw⟩⟩
  ·rcases j6 e he with q|⟨q1,q⟩
   ·exact⟨f,tZ,jE,q⟩
   ·exact⟨n+1,by omega,q1,q⟩
  ·rcases j6 _ (oY b3)with e|⟨e1,e⟩
   ·have:=wa b2 jE e;omega
   ·have:=wa b2 e1 e
    subst this
    obtain⟨Y0,y1,y2⟩:=z4 _ _ b3
    rcases gf with rfl|⟨hR, -,j,hj,rfl⟩
    ·have:=(rL jE b2 y1).1;omega
    ·rw[wj (hfr (n+1) (by omega) e1)]at y1
     have:=(rL e1 b2 y1).2
     subst this
     have hm:=uo (oY (show ak (ai (n+1)) ([(ai f,X)]++[(ai (n+1),bH st.length (st.take j) [])])=some _ by rw[wj (hfr (n+1) (by omega) e1)];exact pA _ _))
     simp only at hm
     have:=d1.le
     exact PI (by rw[YD];omega) (by omega) (fun x hx=>hR x (YN hx)) (by omega) y2
 ·have hb:base (ai f) [(ai f,X)]=[]:=by rw[base,if_neg (C7 f),KR]
  rw[hb,YL]at g k3 kw
  have hX:(bH st.length st []).length≤1048576:=by
   have:=k3.le;rwa [vZ]at this
  have hl:l'=[]:=WD (by simpa using k5)
  have hc:=k3.dV
  rw[vZ]at hc
  exact tO g (.ret (.inl ⟨st,_,by rw[hl,hc],⟨⟨by omega,k2,⟨_,rfl,Yg _⟩,k1,hX⟩,Yg _,k2,s3.en,h.kk⟩⟩))
theorem PJ{ah:List Int}{i0 c:Int}{fs:Fs}{l:List bp}{rs:List (List Int)}(eL:CF ah)(hid:i0∈ah)(h:DR c fs l rs):
 cr (rR FF i0 ah c fs l) fun o=>(∀y:XQ,o=.inl y→(y.2.1=3∨y.2.1=21)∧DR y.2.2.1 y.2.2.2.1 y.2.2.2.2 rs)∧
  ∀y,o=.inr y→∃r k f n X,y=.inr (r,0,(X.length:Int),[(ai f,X)],k,[],ai f,((n:Nat):Int),(rs.length:Int))∧SU k rs f n X∧RK r∧r.au=ah∧r.bx=0∧(k.Term,k.bg)=(r.Term,r.bg):=by
 unfold rR
 have hr:RK (r0 i0 ah):=by
  obtain⟨y,e,h⟩:=Sp i0 ah (by have:=eL.ok.n7;omega) eL.lt
  rw[Kb eL hid]at e;cases e;exact(h rfl).2
 refine tO (Kb eL hid) ?_
 simp only[show((0:Int) != 0)=false from rfl,Y8]
 rcases PZ c fs l _ h with ⟨c',fs',l',g,g1⟩|⟨f,n,X,g,g1,g2,g3⟩
 ·exact tO g (.ret ⟨(fun z e=>by cases e;exact⟨.inl rfl,g1⟩),fun y e=>by cases e⟩)
 ·have iu:=g1.xl
  have zA:rs.length≤X.length:=by
   obtain⟨k,e, -⟩:=g1.k
   have:=AM k rs []
   rw[←e]at this;exact this
  have Fg:DR (X.length:Int) [(ai f,X)] [] rs:=⟨CZ f X g1.f2 iu (by obtain⟨k,e, -⟩:=g1.k;rw[e];exact Dh g1.rc cX.nil),WI.nil _,fun e he=>by
   simp only[Ys]at he;subst he;exact⟨f,g1.f1,g1.f2,rfl⟩,.inr ⟨f,X,g1.f1,g1.f2,pA _ _,by obtain⟨k,e,e2⟩:=g1.k;exact⟨k,[],e,e2,g1.rc,rG⟩,fun z Y b1 b2 b3=>by have:=(rL g1.f2 b2 b3).1;omega,fun w hw=>by cases hw⟩⟩
  refine tO g ?_
  simp only[Sum.elim_inr,Yb,show((0:Int) != 0)=false from rfl,Y8]
  refine tL (Pr:=fun y=>∃r,y=.inl (r,21,(X.length:Int),[(ai f,X)],[])) (Ps:=fun y:EH=>RK (eR y)∧(eR y).au=ah∧(eR y).Id=i0∧rj (eR y)=eR y∧((eR y).Term,(eR y).bg)=jZ (0,0) rs) (P2 i0 ah rs g1.rc (by omega) (X.length:Int) [(ai f,X)] (ai f) (n:Int) (rs.length:Int) [] (r0 i0 ah) hr rfl rfl rfl rfl) (fun y hy=>?_) fun y hy=>?_
  ·obtain⟨r,rfl⟩:=hy
   exact .ret ⟨(fun z e=>by cases e;exact⟨.inr rfl,Fg⟩),fun y e=>by cases e⟩
  ·obtain⟨q1,q2,q3,q4,q5⟩:=hy
   refine tO (show np FF (eR y)=some (rj (eR y))from HS _ q1.ok.small) (.ret ⟨(fun z e=>by cases e),fun z e=>?_⟩)
   cases e
   refine⟨rj (eR y),eR y,f,n,X,rfl,⟨g1,g2,g3,q5.symm,q1.kk⟩,by rw[q4];exact q1,q2,rfl,rfl⟩
theorem L7(s:List UInt8)(h:s.length≤1000000):cr (qM FF s) fun y=>y.1<9223372036854775808:=by
 unfold qM
 refine tG (by unfold bm;omega) (tB (DG [1,1] (mL s) (by decide) (by simp) (GK s) (by rw[vV];omega)) fun y _ hy=>tC (fun _=>.ret (by decide)) fun e=>?_)
 have hn:=(hy.1 (by simpa using e)).1
 have hl:=vX hn
 exact tE (by rw[hl];decide) fun a ha _=>tE (by rw[hl];decide) fun _ _ _=>.ret (nH hn _ _ ha).1
theorem RW(rf:bn)(c s t:Int)(k:bn)(fs:Fs)(l:List bp)(f:List UInt8)(a b:Int)(hc:c<9223372036854775808):cr (Bo FF rf c s t k fs l f a b) fun _=>True:=by
 unfold Bo
 have e:=Dx [bW.mk 1 c [],bW.mk 1 (IntKind.wrap IntKind.i64 s) []] (fun f hm=>by
  simp only[Yh,WQ,or_false]at hm
  rcases hm with rfl|rfl
  ·exact sX hc
  ·exact sX (xf _)) (by simp)
 refine tO e ?_
 cases hb:cV [bW.mk 1 c [],bW.mk 1 (IntKind.wrap IntKind.i64 s) []]with
 |none=>exact⟨_,rfl,trivial⟩
 |some b=>
  have h1:=Ba hb
  simp only[HQ h1,Y5];exact⟨_,rfl,trivial⟩
structure NT(b:Nat)(l:List bj)(n7 n8:List Int):Prop where
 le:l.length≤b
 l7:n7.length=l.length+1
 l8:n8.length=l.length+1
theorem NT.mono{b b':Nat}{l:List bj}{n7 n8:List Int}(h:NT b l n7 n8)(hb:b≤b'):NT b' l n7 n8:=⟨YZ h.le hb,h.l7,h.l8⟩
theorem KT(s:Int)(tb:Bool)(d:List UInt8)(h:d.length≤1000000):cr (yq FF s tb (List.map (fun(Gn:UInt8)=>(((UInt8.toNat Gn):Nat):Int)) d)) fun _=>True:=by
 unfold yq
 exact tG (by rw[Yb];unfold bm;omega) (.ret trivial)
theorem Sh(at_:Int)(e:bj)(c:List Int)(br:Bool)(gs:List (Int×aa))(gk last:Int)(tb:Bool)(l:List bj)(n7 n8:List Int)(n9:List cq)(rf:bn)(dO sum:Int)(n10:List bQ)(m:List (ag×Int))(dV:Int)(k:bn)(fs:Fs)(w:List bp)(f:List UInt8)(x y:Int)
 (b:Nat) (h:NT b l n7 n8) (hb:b≤100000000) (ha:1≤at_) (hm:at_≤9223372036854775807) (hd:e.Data.length≤4096):
 cr (BR FF at_ e c br gs gk last tb l n7 n8 n9 rf dO sum n10 m dV k fs w f x y) fun r=>∃sS r9 l' nK nJ,r=(c,sS,last,r9,dV,l',nK,nJ,n9,n10,w)∧NT (b+1) l' nK nJ:=by
 obtain⟨h1,h2,h3⟩:=h
 unfold BR
 refine tT (fun q=>?_) fun q=>tC (fun q2=>?_) fun q2=>.ret ⟨_,_,_,_,_,rfl,by omega,h2,h3⟩
 ·rw[dh (by omega) (by omega)]
  refine tB (Q:=fun _=>True) (tC (fun _=>.ret trivial) fun _=>tG (by omega) (tE (by omega) fun _ _ _=>tE (by omega) fun _ _ _=>.ret trivial)) fun b2 _ _=>.ret ⟨_,_,_,_,_,rfl,by omega,h2,h3⟩
 ·rw[Yb,Int.toNat_natCast]
  refine tE (by omega) fun _ _ _=>tE (by omega) fun z _ _=>tB (Q:=fun _=>True) (tC (fun _=>.ret trivial) fun _=>.ret trivial) fun cn _ _=>tG (by unfold bm;omega) (tG (by unfold bm;omega) (tE (by omega) fun _ _ _=>tE (by omega) fun _ _ _=>tG (by unfold bm;omega) (tB (KT _ _ _ (by omega)) fun mo _ _=>tG (by unfold bm;omega) (.ret ⟨_,_,_,_,_,rfl,?_,?_,?_⟩))))
  ·simp;omega
  ·simp;omega
  ·simp;omega
theorem Ud(from_:Int)(c:List Int)(br:Bool)(r:bn)(dO sum:Int)(gs:List (Int×aa))(gk last:Int)(tb:Bool)(l:List bj)(n7 n8:List Int)(n9:List cq)(dV:Int)(k:bn)(n10:List bQ)(m:List (ag×Int))(fs:Fs)(w:List bp)(f:List UInt8)(x y:Int)
 (b:Nat) (h:NT b l n7 n8) (hb:b≤90000000) (hr:AH r) (hf:0≤from_) (jE:from_≤1099511627776) (hc:dO<9223372036854775808):
 cr (BW FF from_ c br r dO sum gs gk last tb l n7 n8 n9 dV k n10 m fs w f x y) fun q=>∃sS iM oF r9 l' nK nJ,q=(c,sS,r,iM,oF,last,r9,dV,l',nK,nJ,n9,n10,w)∧NT (b+4096) l' nK nJ∧iM<9223372036854775808:=by
 have hT:=hr.tr
 have b0:=hT.b0
 have bl:=hT.last
 have ll:=hT.len
 have c0:=hr.Jw
 have c1:=hr.Gh
 have h7:=h.l7
 have h8:=h.l8
 unfold BW
 refine tB (Q:=fun z:Int×Bool×Int×Int=>r.Trail.ar≤z.1∧z.1≤1099511627776∧z.2.2.1<9223372036854775808) (tT (fun a=>?_) fun a=>.ret ⟨by simp only;omega,jE,hc⟩) fun z _ hz=>?_
 ·refine tB (L7 _ (by have:=hr.sn;omega)) fun u _ hu=>tB (Q:=fun _=>True) (tC (fun _=>.ret trivial) fun _=>tT (fun _=>.ret trivial) fun q=>tG b0 (tE (by omega) fun _ _ _=>tE (by omega) fun _ _ _=>tC (fun _=>.ret trivial) fun _=>tG b0 (tE (by omega) fun _ _ _=>tE (by omega) fun _ _ _=>.ret trivial))) fun b2 _ _=>.ret ⟨YQ _,hT.b1,hu⟩
 obtain⟨fr,Pm,Pk,NH⟩:=z
 obtain⟨z1,z2,z3⟩:=hz
 simp only at z1 z2 z3⊢
 rw[dh (by omega) (by omega)]
 have key:=dk (fun n (s:Int×Bool×Int×Int×Bool×List bj×List Int×List Int)=>yA FF r gs gk k m fs f x y n s.1 c s.2.1 s.2.2.1 s.2.2.2.1 last s.2.2.2.2.1 dV s.2.2.2.2.2.1 s.2.2.2.2.2.2.1 s.2.2.2.2.2.2.2 n9 n10 w)
  (fun s=>r.Trail.ar+1≤s.1∧s.1≤1099511627777∧(s.1≤r.aj+1→NT (b+(s.1-r.Trail.ar-1).toNat) s.2.2.2.2.2.1 s.2.2.2.2.2.2.1 s.2.2.2.2.2.2.2)∧(r.aj+1<s.1→NT b s.2.2.2.2.2.1 s.2.2.2.2.2.2.1 s.2.2.2.2.2.2.2)∧s.2.2.1<9223372036854775808) (fun s=>(r.aj+1-s.1).toNat)
  (fun q=>∃sS iM oF r9 l' nK nJ,q=(c,sS,iM,oF,last,r9,dV,l',nK,nJ,n9,n10,w)∧NT (b+4096) l' nK nJ∧iM<9223372036854775808) (by
   rintro n ⟨at_,br,cn,sm,tb,l,n7,n8⟩ ⟨g1,CQ,g2,g3,g4⟩ kk;simp only at g1 CQ g2 g3 g4 kk⊢;simp only[yA]
   refine tT (fun a=>?_) fun a=>.ret ⟨_,_,_,_,_,_,_,rfl,?_,g4⟩
   ·have hN:=g2 (by omega)
    rw[show IntKind.wrap IntKind.i64 (at_-r.Trail.ar)=at_-r.Trail.ar from dh (by omega) (by omega),dh (x:=at_-r.Trail.ar-1) (by omega) (by omega)]
    refine tG (by omega) (tE (by omega) fun e _ he=>?_)
    have hd:=(hT.Gc e he).2.2
    refine tB (Q:=fun z=>z<9223372036854775808) (tC (fun _=>.ret (xf _)) fun _=>.ret g4) fun Pl _ CG=>tG (by unfold bm;omega) (tB (KT _ _ _ (by omega)) fun mo _ _=>tB (Sh at_ e c br gs gk last _ l n7 n8 n9 r _ _ n10 m dV k fs w f x y _ hN (by omega) (by omega) (by omega) hd) fun q _ hq=>?_)
    obtain⟨sS,r9,l',nK,nJ,rfl,O3⟩:=hq
    rw[dh (x:=at_+1) (by omega) (by omega)]
    exact kk (at_+1,sS,Pl,mo.1,r9,l',nK,nJ) ⟨by simp only;omega,by simp only;omega,fun _=>O3.mono (by simp only;omega),fun _=>by simp only at*;omega,CG⟩ (by simp only;omega)
   ·by_cases q:at_≤r.aj+1
    ·exact(g2 q).mono (by omega)
    ·exact(g3 (by omega)).mono (by omega)) FF (fr+1,Pm,Pk,NH,tb,l,n7,n8) ⟨by simp only;omega,by simp only;omega,fun _=>h.mono (by simp only;omega),fun _=>h,z3⟩ (by simp only[FF];omega)
 refine tB key fun q _ hq=>?_
 obtain⟨sS,iM,oF,r9,l',nK,nJ,rfl,hN,hc'⟩:=hq
 exact .ret ⟨_,_,_,_,_,_,_,rfl,hN,hc'⟩
def PK(l:List bQ):Prop:=l.length≤512∧∀p,p∈l→p.Body.length≤65536
theorem J4(p:bQ)(c:Int)(l:List bQ)(m:List (ag×Int))(h:PK l)(hp:p.Body.length≤65536):cr (yx FF p c l m) fun y=>(y.2.1=0∨y.2.1=3)∧PK y.2.2.2:=by
 unfold yx
 have h1:=h.1
 refine tT (fun _=>.ret ⟨.inr rfl,h⟩) fun a=>tG (by unfold bm;omega) (.ret ⟨.inl rfl,by simp;omega,fun q hq=>?_⟩)
 rcases Yw.1 hq with e|e
 ·exact h.2 q e
 ·simp only[Ys]at e;subst e;exact hp
theorem SS(fr dm:Int)(b:List UInt8)(c:Int)(l:List bQ)(m:List (ag×Int))(h:PK l):cr (BC FF fr dm b c l m) fun y=>PK y.2.2.2:=by
 unfold BC
 exact tT (fun _=>.ret h) fun a=>tB (J4 _ c l m h (by simp only;omega)) fun y _ hy=>.ret hy.2
theorem Qf(out:List bV)(m:List (ag×Int))(c:Int)(l:List bQ)(ho:out.length≤1000)(hm:∀x,x∈out→MB x)(h:PK l):cr (tv FF out m FF 0 c l) fun y=>PK y.2:=by
 have:=dk (fun n (s:Nat×Int×List bQ)=>tv FF out m n (s.1:Int) s.2.1 s.2.2) (fun s=>s.1≤out.length∧PK s.2.2) (fun s=>out.length-s.1) (fun y=>PK y.2) (by
  rintro n ⟨i,c,l⟩ ⟨h1,h2⟩ k;simp only at h1 h2 k⊢;simp only[tv]
  refine tT (fun a=>?_) fun _=>.ret h2
  refine tG (by omega) (tE (by simp;omega) fun x _ hx=>tB (Sb x (hm x hx)) fun _ _ _=>tB (SS _ _ _ c l m h2) fun y _ hy=>?_)
  rw[w1 (by omega)]
  exact k (i+1,y.2.2.1,y.2.2.2) ⟨by simp only;omega,hy⟩ (by simp only;omega)) FF (0,c,l) ⟨YC _,h⟩ (by simp only[FF];omega)
 exact this
theorem Rb(s:List cq)(v:cq)(hl:s.length≤3000000):cr (B9 FF s v) fun _=>True:=by
 unfold B9 Ev
 have:=dk (fun n (i:Nat)=>yL FF s v n (i:Int)) (fun i=>i≤s.length) (fun i=>s.length-i) (fun _=>True) (by
  intro n i h1 k;simp only[yL]
  refine tT (fun a=>?_) fun _=>.ret trivial
  refine tG (by omega) (tE (by simp;omega) fun x _ _=>tC (fun _=>.ret trivial) fun _=>?_)
  rw[w1 (by omega)]
  exact k (i+1) (by omega) (by omega)) FF 0 (YC _) (by simp only[FF];omega)
 refine tB (Q:=fun _=>True) (tB (Q:=fun _=>True) this fun o _ _=>?_) fun _ _ _=>.ret trivial
 rcases o with r|r
 ·exact .ret trivial
 ·exact .ret trivial
section
variable {κ ν:Type}[DecidableEq κ]
theorem HN{q:κ}{x:ν}{e:κ×ν}:∀{l:List (κ×ν)},e∈bw q x l→e=(q,x)∨e∈l
 | [],h=>by simp[bw]at h;exact .inl h
 |d::r,h=>by
  simp only[bw]at h
  by_cases k:q=d.1
  ·rw[if_pos k]at h
   rcases Yh.1 h with h|h
   ·exact .inl h
   ·exact .inr (Yk _ h)
  ·rw[if_neg k]at h
   rcases Yh.1 h with h|h
   ·exact .inr (by rw[h];exact Yl ..)
   ·rcases HN h with h|h
    ·exact .inl h
    ·exact .inr (Yk _ h)
theorem wo{q:κ}{x:ν}:∀{l:List (κ×ν)},ak q l=some x→bw q x l=l
 | [],h=>by cases h
 |e::r,h=>by
  simp only[ak]at h;simp only[bw]
  by_cases k:q=e.1
  ·rw[if_pos k]at h;cases h;rw[if_pos k,k]
  ·rw[if_neg k]at h;rw[if_neg k,wo h]
theorem HM(q:κ)(x:ν):∀(l:List (κ×ν)),(bw q x l).length≤l.length+1
 | []=>by simp[bw]
 |e::r=>by
  have:=HM q x r
  simp only[bw];split<;>simp only[Ye]<;>omega
theorem Li(q:κ):∀(l:List (κ×ν)),(dI q l).length≤l.length
 | []=>by simp[dI]
 |e::r=>by
  have:=Li q r
  simp only[dI];split<;>simp only[Ye]<;>omega
end
section
variable {κ ν:Type}[DecidableEq κ]
theorem DQ{p q:κ}{x:ν}(h:p≠q):∀(l:List (κ×ν)),ak p (bw q x l)=ak p l
 | []=>by simp[bw,ak,h]
 |e::r=>by
  simp only[bw]
  by_cases k:q=e.1
  ·rw[if_pos k];simp only[ak];rw[if_neg h,if_neg (fun z=>h (z.trans k.symm))]
  ·rw[if_neg k];simp only[ak]
   by_cases z:p=e.1
   ·rw[if_pos z,if_pos z]
   ·rw[if_neg z,if_neg z,DQ h r]
theorem Bc{q:κ}{x:ν}:∀(l:List (κ×ν)),ak q (bw q x l)=some x
 | []=>by simp[bw,ak]
 |e::r=>by
  simp only[bw]
  by_cases k:q=e.1
  ·rw[if_pos k];simp[ak]
  ·rw[if_neg k];simp only[ak];rw[if_neg k,Bc r]
end
structure UV(ah:List Int)(u:af):Prop where
 su:∃rs f n X,SU u.kept rs f n X∧u.file=ai f∧u.last=((n:Nat):Int)∧u.bE=((rs.length:Nat):Int)∧u.total=((X.length:Nat):Int)∧u.files=[(ai f,X)]∧u.waits=[]
 kt:(u.kept.Term,u.kept.bg)=(u.dH.Term,u.dH.bg)
 rk:RK u.dH
 cf:u.dH.au=ah
 ct:u.count<9223372036854775808
def pJ(ah:List Int)(T V:Int)(fl:Bool):aa→Prop
 |.inl d=>∃rs,DR d.total d.files d.waits rs∧T≤(jZ (0,0) rs).1∧(fl=false→jZ (0,0) rs=(T,V))
 |.inr u=>UV ah u∧u.dH.Term=T∧u.dH.bg=V
def IC(ah:List Int)(T V:Int)(fl:Bool)(bad re:Prop):aa→Prop
 |.inl d=>∃rs,DR d.total d.files d.waits rs∧T≤(jZ (0,0) rs).1∧(fl=false→¬bad→jZ (0,0) rs=(T,V))
 |.inr u=>UV ah u∧T≤u.dH.Term∧(re→(fl=false→u.dH.Term=T∧u.dH.bg=V)∧u.dH.bx=0)
theorem pJ.w{ah:List Int}{T V:Int}{fl:Bool}{bad re:Prop}{x:aa}(h:pJ ah T V fl x)(hr:¬re):IC ah T V fl bad re x:=by
 cases x with
 |inl d=>
  obtain⟨rs,a,b,c⟩:=h
  exact⟨rs,a,b,fun q _=>c q⟩
 |inr u=>
  obtain⟨a,b,c⟩:=h
  exact⟨a,by omega,fun q=>absurd q hr⟩
structure GV(ah:List Int)(b:Nat)(P:Int→aa→Prop)(c:List Int)(gs:List (Int×aa))(l:List bj)(n7 n8:List Int)(n9:List cq)(n10:List bQ):Prop where
 cc:c=ah
 nd:∀i x,ak i gs=some x→i∈ah∧P i x
 nt:NT b l n7 n8
 ld:n9.length≤b
 pk:PK n10
section
variable {ah:List Int}{b:Nat}{P Q:Int→aa→Prop}{c:List Int}{gs:List (Int×aa)}{l:List bj}{n7 n8:List Int}{n9:List cq}{n10:List bQ}
theorem GV.mono{b':Nat}(h:GV ah b P c gs l n7 n8 n9 n10)(hb:b≤b'):GV ah b' P c gs l n7 n8 n9 n10:=⟨h.cc,h.nd,h.nt.mono hb,YZ h.ld hb,h.pk⟩
theorem GV.map(h:GV ah b P c gs l n7 n8 n9 n10)(hq:∀i x,ak i gs=some x→P i x→Q i x):GV ah b Q c gs l n7 n8 n9 n10:=⟨h.cc,fun i x e=>⟨(h.nd i x e).1,hq i x e (h.nd i x e).2⟩,h.nt,h.ld,h.pk⟩
theorem GV.put(h:GV ah b P c gs l n7 n8 n9 n10){k:Int}{x:aa}(hk:k∈ah)(hx:Q k x)(hq:∀i x,i≠k→P i x→Q i x):GV ah b Q c (bw k x gs) l n7 n8 n9 n10:=by
 refine⟨h.cc,fun i y e=>?_,h.nt,h.ld,h.pk⟩
 by_cases q:i=k
 ·subst q;rw[Bc]at e;cases e;exact⟨hk,hx⟩
 ·rw[DQ q]at e
  exact⟨(h.nd i y e).1,hq i y q (h.nd i y e).2⟩
theorem GV.xg{p:List bQ}(h:GV ah b P c gs l n7 n8 n9 n10)(hp:PK p):GV ah b P c gs l n7 n8 n9 p:=⟨h.cc,h.nd,h.nt,h.ld,hp⟩
end
abbrev Cj:=Int×(List Int)×Bool×(List (Int×aa))×Int×Bool×(List bj)×(List Int)×(List Int)×(List cq)×(List bQ)
abbrev Iz:=Int×(List Int)×Bool×(List (Int×aa))×Int×Bool×bn×(List UInt8)×Int×Int×(List bj)×(List Int)×(List Int)×(List cq)×(List bQ)
def Nq(ah:List Int)(b:Nat)(P:Int→aa→Prop)(y:Cj):Prop:=GV ah b P y.2.1 y.2.2.2.1 y.2.2.2.2.2.2.1 y.2.2.2.2.2.2.2.1 y.2.2.2.2.2.2.2.2.1 y.2.2.2.2.2.2.2.2.2.1 y.2.2.2.2.2.2.2.2.2.2
def XR(ah:List Int)(b:Nat)(P:Int→aa→Prop)(y:Iz):Prop:=GV ah b P y.2.1 y.2.2.2.1 y.2.2.2.2.2.2.2.2.2.2.1 y.2.2.2.2.2.2.2.2.2.2.2.1 y.2.2.2.2.2.2.2.2.2.2.2.2.1 y.2.2.2.2.2.2.2.2.2.2.2.2.2.1 y.2.2.2.2.2.2.2.2.2.2.2.2.2.2
def VP(ah:List Int)(T V:Int→Int)(fl:Int→Bool)(i:Int)(x:aa):Prop:=pJ ah (T i) (V i) (fl i) x
def VW(ah:List Int)(T V:Int→Int)(fl:Int→Bool)(a:dP)(e:Int)(i:Int)(x:aa):Prop:=IC ah (T i) (V i) (fl i) (a.lR=true∨e=3) (a.Kind=7∧a.Node=i∧e=0) x
theorem VP.w{ah:List Int}{T V:Int→Int}{fl:Int→Bool}{a:dP}{e i:Int}{x:aa}(h:VP ah T V fl i x)(hr:¬(a.Kind=7∧a.Node=i∧e=0)):VW ah T V fl a e i x:=pJ.w h hr
theorem GI(ah:List Int)(eL:CF ah)(r_:bn)(out:List bV)(a:dP)(c:List Int)(br:Bool)(gs:List (Int×aa))(gk last:Int)(tb:Bool)(l:List bj)(n7 n8:List Int)(n9:List cq)(rf:bn)(dO sum:Int)(n10:List bQ)(m:List (ag×Int))(dV:Int)(k:bn)(fs:Fs)(wt:List bp)(f:List UInt8)(x y:Int)
 (T V:Int→Int) (fl:Int→Bool) (b:Nat) (hb:b≤2000000) (ha:a.Kind≠7) (hG:GV ah b (VP ah T V fl) c gs l n7 n8 n9 n10) {x0:aa} (hk:ak gk gs=some x0) (hN:VP ah T V fl gk (.inr (af.mk fs wt dV f x y k rf dO sum))) (hs:Small r_) (I6:r_.au=ah) (hT:rf.Term≤r_.Term) (ho:out.length≤1000) (hm:∀x,x∈out→MB x):
 cr (tt FF gk r_ out a c br gs gk last tb l n7 n8 n9 rf dO sum n10 m dV k fs wt f x y) fun o=>(∀z,o=.inl z→(z.1=0∨z.1=3)∧XR ah (b+4097) (VW ah T V fl a z.1) z)∧∀z,o=.inr z→(z.1=0∨z.1=3)∧Nq ah (b+4097) (VW ah T V fl a z.1) z:=by
 obtain⟨⟨⟨rs,f1,n1,X,su,e1,e2,e3,e4,e5,e6⟩,fF,vj,Fi,z6⟩,OZ,OY⟩:=hN
 simp only at su e1 e2 e3 e4 e5 e6 fF vj Fi z6 OZ OY;subst e1 e2 e3 e4 e5 e6
 have hic:=(hG.nd _ _ hk).1
 have ji:Option.isSome (ak gk gs)=true:=by rw[hk];rfl
 have OA:k.Term=T gk:=by have:=YF Prod.fst fF;simp only at this;omega
 have hw:∀(e:Int) (i:Int) (x:aa),VP ah T V fl i x→VW ah T V fl a e i x:=fun e i x q=>q.w fun z=>ha z.1
 have put:∀{x:aa} {e:Int},VW ah T V fl a e gk x→GV ah (b+4097) (VW ah T V fl a e) c (bw gk x gs) l n7 n8 n9 n10:=fun hx=>(hG.put hic hx fun i x _ q=>hw _ i x q).mono (WP ..)
 unfold tt
 rw[show(decide (gk=gk)&&Option.isSome (ak gk gs))=true from by rw[ji,Y4 rfl];rfl,Y5]
 refine tB (KD su hs (by rw[I6];exact eL.lt)) fun y0 _ h0=>?_
 obtain⟨er,k0,f0,Nz,Nu,t0,Pf,w0⟩:=y0
 obtain⟨add,kk,tV,hR,hl,hy,sG,ed⟩:=h0
 simp only at hy ed;cases hy;simp only[ji,Y5]
 have down:∀dj dW,∃c' fs',pd FF dj dW ((bH kk (rs++add) []).length:Int) [(ai f1,bH kk (rs++add) [])] (add.map (wv (ai f1)))=some (c',fs')∧∀e,(a.lR=true∨e=3)→∀rf a' b',VW ah T V fl a e gk (.inl (ae.mk fs' [] c' rf a' b')):=fun dj dW=>by
  obtain⟨j,c',fs',h1,h2,h3⟩:=GY dj dW f1 kk rs add su.ud.f1 su.ud.f2 tV hR hl
  refine⟨c',fs',h2,fun e he rf a' b'=>⟨_,h3,?_,fun _ q=>absurd he q⟩⟩
  rcases sG j with q|q<;>rw[q]<;>simp only<;>omega
 refine tC (fun _=>?_) fun e=>?_
 ·obtain⟨c',fs',g,g4⟩:=down 0 0
  unfold rZ qV;rw[g];simp only[Y1]
  exact(.ret ⟨fun z e=>by cases e;exact⟨.inr rfl,put (g4 3 (.inr rfl) ..)⟩,fun z e=>by cases e⟩)
 rcases ed with ⟨q, -⟩|⟨he0,mV,sH,FG⟩
 ·exact absurd (show er=0 by simpa using e) q
 subst he0
 refine tC (fun hf=>?_) fun _=>?_
 ·obtain⟨c',fs',g,g4⟩:=down a.lQ a.lO
  unfold qV;rw[g];simp only[Y1]
  exact(.ret ⟨fun z e=>by cases e;exact⟨.inl rfl,put (g4 0 (.inl hf) ..)⟩,fun z e=>by cases e⟩)
 have hlen:=AM kk (rs++add) []
 have FW:add.length≤(rs++add).length:=by simp
 have Cy:uM FF k0 (ai f1) (n1:Int) ((rs++add).length:Int) ((bH kk (rs++add) []).length:Int) [(ai f1,bH kk (rs++add) [])] (add.map (wv (ai f1)))=some (0,((bH kk (rs++add) []).length:Int),[]):=by
  unfold uM
  rw[L8 (pA _ _) (by rw[Yb];omega),JA];rfl
 refine tO Cy ?_
 have uY:SU k0 (rs++add) f1 n1 (bH kk (rs++add) []):=⟨⟨su.ud.f1,su.ud.f2,⟨kk,rfl,by rw[Ya];omega⟩,hR,hl⟩,su.fn,su.n9,by rw[FG,mV];rfl,by rw[mV];exact sH.kk.nE ..⟩
 clear Cy hlen down
 obtain⟨Y,hY⟩:∃Y,Y=bH kk (rs++add) []:=⟨_,rfl⟩
 obtain⟨pq,Fh⟩:∃pq,pq=rs++add:=⟨_,rfl⟩
 rw[←hY,←Fh]at uY⊢
 have hc0:=vj.ok.Jw;have hc1:=vj.ok.Gh;have Jh:=vj.ok.tr.b0;have hbl:=vj.ok.tr.last
 refine tB (Qf out m last n10 ho hm hG.pk) fun q _ hq=>?_
 obtain⟨pT,p1⟩:=q
 simp only at hq⊢
 refine tB (Ud rf.aj c br r_ dO sum gs gk pT tb l n7 n8 n9 _ k0 p1 m _ _ _ _ _ b hG.nt (by omega) sH.ok (by omega) (by omega) z6) fun q _ hq2=>?_
 obtain⟨sS,iM,oF,r9,l',nK,nJ,rfl,hN,hc'⟩:=hq2
 simp only
 have Zd:=hG.ld
 refine tB (Q:=fun _=>True) (tC (fun _=>tB (Rb n9 _ (by omega)) fun _ _ _=>.ret trivial) fun _=>.ret trivial) fun t _ _=>tB (Q:=fun Cq:List cq=>Cq.length≤b+1) (tC (fun _=>tG (by unfold bm;omega) (.ret (by simp;omega))) fun _=>.ret (by omega)) fun Cq _ h9=>?_
 have O7:GV ah (b+4097) (VP ah T V fl) c gs l' nK nJ Cq p1:=⟨hG.cc,hG.nd,hN.mono (by omega),by omega,hq⟩
 have fin:∀{x:aa} {e:Int},VW ah T V fl a e gk x→GV ah (b+4097) (VW ah T V fl a e) c (bw gk x gs) l' nK nJ Cq p1:=fun hx=>O7.put hic hx fun i x _ q=>hw _ i x q
 have NC:∀{eA f' n' X'},SU k0 eA f' n' X'→∀{z:aa},z=.inr (af.mk [(ai f',X')] [] (X'.length:Int) (ai f') ((n':Nat):Int) (eA.length:Int) k0 r_ iM oF)→VW ah T V fl a 0 gk z:=fun q z hz=>by
  subst hz
  exact⟨⟨⟨_,_,_,_,q,rfl,rfl,rfl,rfl,rfl,rfl⟩,by rw[mV];rfl,sH,I6,hc'⟩,by show T gk≤r_.Term;omega,fun q=>absurd q.1 ha⟩
 unfold Ef D9;simp only[Y1]
 refine tB (Q:=fun q:Bool×Int×Fs×List UInt8×Int×Int×List bp=>(∃eA f' n' X',SU k0 eA f' n' X'∧q=(false,((X'.length:Nat):Int),[(ai f',X')],ai f',((n':Nat):Int),((eA.length:Nat):Int),[]))∨(q.1=true∧cr (pd FF 0 0 q.2.1 q.2.2.1 q.2.2.2.2.2.2) fun z=>DR z.1 z.2 [] pq)) ?_ fun q _ Oh=>?_
 ·refine tT (fun _=>tB (J8 uY) fun p _ hp=>.ret ?_) fun _=>.ret (.inl ⟨_,_,_,_,uY,rfl⟩)
  rcases hp with ⟨eA,X',rfl,z⟩|⟨z1,z2⟩
  ·exact .inl ⟨_,_,_,_,z,rfl⟩
  ·exact .inr ⟨by simpa using z1,z2⟩
 rcases Oh with ⟨eA,f',n',X',z,rfl⟩|⟨z1,z2⟩
 ·simp only[Y8]
  exact .ret ⟨(fun z e=>by cases e),fun z2 e=>by cases e;exact⟨.inl rfl,fin (NC z rfl)⟩⟩
 ·simp only[z1,Y5]
  unfold rZ qV
  obtain⟨⟨c',fs'⟩,z3,z4⟩:=z2
  rw[z3];simp only[Y1]
  have hle:T gk≤(jZ (0,0) pq).1:=by rw[uY.hv,mV];show T gk≤r_.Term;omega
  exact .ret ⟨(fun z e=>by cases e;exact⟨.inr rfl,fin ⟨pq,z4,hle,fun _ q=>(q (.inr rfl)).elim⟩⟩),fun z e=>by cases e⟩
section
variable (ah:List Int)(a:dP)(c:List Int)(br:Bool)(gs:List (Int×aa))(last:Int)(tb:Bool)(l:List bj)(n7 n8:List Int)(n9:List cq)(n10:List bQ)(m:List (ag×Int))(b:Nat)
theorem Bu(id:Int):(∃e,e≠0∧pF FF id c br gs last tb l n7 n8 n9 n10 m=some (.inl (e,gs)))∨
 ∃u:af,ak id gs=some (.inr u)∧pF FF id c br gs last tb l n7 n8 n9 n10 m=some (.inr (0,gs,id,u.dH,u.count,u.sum,u.total,u.kept,u.files,u.waits,u.file,u.last,u.bE)):=by
 unfold pF
 cases h:ak id gs with
 |none=>exact .inl ⟨1,by decide,rfl⟩
 |some x=>
  cases x with
  |inl d=>
   refine .inl ⟨4,by decide,?_⟩
   simp only[Option.elim_some,Sum.elim_inl,Option.isSome_some,Y5];rw[wo h]
  |inr u=>exact .inr ⟨u,rfl,rfl⟩
variable {ah a c br gs last tb l n7 n8 n9 n10 m b}
theorem jA.small{h:cy}{v n k:List Int}{out:List bV}{t:Int}(q:jA ah t h v n k out)(h7:ah.length≤7)(x y:Int):Small (bn.mk h.Id h.au h.Term h.bg h.bx h.bf h.Trail h.bM h.aj x y v n k):=
 ⟨by show h.au.length≤_;rw[q.cf];omega,by show h.Trail.Entries.length≤_;have:=q.tl;omega,by show v.length≤_;have:=q.vl;omega,by show n.length≤_;have:=q.nl;omega,by show k.length≤_;have:=q.ml;omega⟩
variable {T V:Int→Int}{fl:Int→Bool}
def IH(ah:List Int)(a:dP)(T V:Int→Int)(fl:Int→Bool)(b:Nat)(y:Cj):Prop:=Nq ah (b+4097) (VW ah T V fl a y.1) y
theorem GV.stay{e:Int}(hG:GV ah b (VP ah T V fl) c gs l n7 n8 n9 n10)(h:a.Kind≠7∨e≠0):GV ah (b+4097) (VW ah T V fl a e) c gs l n7 n8 n9 n10:=
 (hG.map fun i x _ q=>q.w fun z=>h.elim (fun k=>k z.1) fun k=>k z.2.2).mono (WP ..)
theorem Qi(eL:CF ah)(hb:b≤2000000)(ha:a.Kind≠7)(hG:GV ah b (VP ah T V fl) c gs l n7 n8 n9 n10):cr (BT FF a c br gs last tb l n7 n8 n9 n10 m) (IH ah a T V fl b):=by
 unfold BT
 rcases Bu c br gs last tb l n7 n8 n9 n10 m a.Node with ⟨e,he,h⟩|⟨u,hu,h⟩
 ·refine tO h ?_
  simp only[Sum.elim_inl]
  exact tC (fun _=>.ret (hG.stay (.inl ha))) fun q=>absurd (by simpa using q) he
 ·refine tO h ?_
  simp only[Sum.elim_inr,show((0:Int) != 0)=false from rfl,Y8]
  have hN:=(hG.nd _ _ hu).2
  refine tB (R6 u.dH hN.1.rk a.ph) fun y _ hy=>?_
  obtain⟨h,v,n,k,out,rfl,hr⟩:=hy
  rw[hN.1.cf]at hr
  refine tB (GI ah eL _ _ a c br gs a.Node last tb l n7 n8 n9 u.dH u.count u.sum n10 m u.total u.kept u.files u.waits u.file u.last u.bE T V fl b hb ha hG hu hN (hr.small eL.ok.n7 _ _) hr.cf hr.tm (by have:=hr.ol;show out.length≤_;omega) hr.om) fun o _ ho=>?_
  rcases o with z|z
  ·exact .ret (ho.1 z rfl).2
  ·exact .ret (ho.2 z rfl).2
theorem HL(id:Int)(x:Int)(hl:n10.length≤1000000):cr (wH FF id x n10 m) fun i=> -1≤i∧i<n10.length:=by
 unfold wH Ey
 have:=dk (fun n (i:Nat)=>yK FF n10 id n (i:Int)) (fun i=>i≤n10.length) (fun i=>n10.length-i) (fun o=>(∀r,o=.inl r→ -1≤r∧r<n10.length)∧∀u:Unit,o=.inr u→True) (by
  intro n i h1 k;simp only[yK]
  refine tT (fun q=>?_) fun _=>.ret ⟨(fun r e=>by cases e),fun _ _=>trivial⟩
  refine tG (by omega) (tE (by simp;omega) fun x _ _=>tB (Q:=fun _=>True) (by unfold En;exact .ret trivial) fun t _ _=>tC (fun _=>.ret ⟨fun r e=>by cases e;omega,fun _ _=>trivial⟩) fun _=>?_)
  rw[w1 (by omega)]
  exact k (i+1) (by omega) (by omega)) FF 0 (YC _) (by simp only[FF];omega)
 refine tB (tL this (fun r h=>.ret h) fun _ _=>.ret ⟨by decide,by omega⟩) fun i _ h=>.ret h
theorem Ll(i x:Int)(h0:0≤i)(h1:i<n10.length)(h:PK n10):cr (yt FF i x n10 m) fun y=>y.1.Body.length≤65536∧PK y.2.2:=by
 have hl:=h.1
 unfold yt
 refine tG h0 (tE (by omega) fun p _ hp=>tE (by omega) fun p2 _ hp2=>?_)
 unfold Ex
 rw[dh (by omega) (by omega)]
 refine tB (Q:=PK) (tG ⟨h0,rfl,by omega⟩ (.ret ⟨by simp;omega,fun q hq=>?_⟩)) fun y _ hy=>.ret ⟨h.2 _ hp2,hy⟩
 rcases Yw.1 hq with e|e
 ·exact h.2 q (YN e)
 ·exact h.2 q (Wm e)
theorem Tp(id x:Int)(h:PK n10):cr (BK FF id x n10 m) fun y=>PK y.2.2.2∧(y.2.1=false→y.2.2=(x,n10))∧y.1.Body.length≤65536:=by
 have hl:=h.1
 unfold BK
 refine tB (HL id x (by omega)) fun i _ hi=>?_
 refine tB (Q:=fun t=>t=false→0≤i) (tT (fun _=>.ret (by simp)) fun q=>tG (by omega) (tE (by omega) fun _ _ _=>tE (by omega) fun p _ _=>tB (Q:=fun _=>True) (by unfold Ec uu;exact .ret trivial) fun _ _ _=>.ret fun _=>by omega)) fun t _ ht=>tC (fun _=>.ret ⟨h,fun _=>rfl,by simp⟩) fun e=>?_
 exact tB (Ll i x (ht e) hi.2 h) fun y _ hy=>.ret ⟨hy.2,(fun q=>by cases q),hy.1⟩
theorem QZ(b:List UInt8)(h:b.length≤1000000):cr (Bt FF b) fun y=>0≤y.1∧y.1≤255:=by
 unfold Bt
 have hb:∀c:UInt8,c.toNat<256:=fun c=>c.toNat_lt
 have:=dk (fun n (s:Nat×Int)=>yy FF b n (s.1:Int) s.2) (fun s=>s.1≤b.length) (fun s=>b.length-s.1) (fun o=>(∀r,o=.inl r→0≤r.1∧r.1≤255)∧∀u:Unit,o=.inr u→True) (by
  rintro n ⟨i,t⟩ g1 k;simp only at g1 k⊢;simp only[yy]
  refine tT (fun a=>?_) fun _=>.ret ⟨(fun r e=>by cases e),fun _ _=>trivial⟩
  refine tG (by omega) (tE (by simp;omega) fun c _ _=>tB (Q:=fun _=>True) (tC (fun _=>.ret trivial) fun _=>.ret trivial) fun t' _ _=>tC (fun _=>tG (by omega) (tE (by simp;omega) fun d _ _=>?_)) fun _=>?_)
  ·have hd:=hb d
   rw[dh (x:=((d.toNat:Nat):Int)) (by omega) (by omega)]
   refine tT (fun p=>?_) fun _=>.ret ⟨(fun r e=>by cases e;exact⟨by simp only;omega,by simp only;omega⟩),fun _ _=>trivial⟩
   rw[dh (by omega) (by omega)]
   exact tG (by omega) (tE (by omega) fun _ _ _=>.ret ⟨(fun r e=>by cases e;exact⟨by simp only;omega,by simp only;omega⟩),fun _ _=>trivial⟩)
  ·rw[w1 (by omega)]
   exact k (i+1,t') (by simp only;omega) (by simp only;omega)) FF (0,9) (YC _) (by simp only[FF];omega)
 exact tL this (fun r hr=>.ret hr) fun _ _=>.ret ⟨by decide,by decide⟩
theorem Uj(body:List UInt8)(h:body.length≤65536):cr (Bv FF body) fun _=>True:=by
 unfold Bv
 refine tB (QZ body (by omega)) fun y _ hy=>tC (fun _=>.ret trivial) fun _=>?_
 have hk:=dk (fun n (s:Nat×List Int)=>yg FF y n (s.1:Int) s.2) (fun s=>(s.1:Int)≤y.1∧s.2.length=9+2*s.1∧∀k,k∈s.2→k=1∨k=3) (fun s=>(y.1-s.1).toNat) (fun l=>l.length=9+2*y.1.toNat∧∀k,k∈l→k=1∨k=3) (by
  rintro n ⟨i,l⟩ ⟨g1,g2,g3⟩ k;simp only at g1 g2 g3 k⊢;simp only[yg]
  refine tT (fun a=>tG (by unfold bm;omega) ?_) fun _=>.ret ⟨by omega,g3⟩
  rw[w1 (by omega)]
  refine k (i+1,_) ⟨by simp only;omega,by simp;omega,fun q hq=>?_⟩ (by simp only;omega)
  rcases Yw.1 hq with e|e
  ·exact g3 q e
  ·simpa using e) FF (0,[1,1,1,1,1,1,1,1,1]) ⟨by omega,by simp,by simp⟩ (by simp only[FF];omega)
 refine tB hk fun l _ hl=>?_
 have hl1:=hl.1
 refine tG (by unfold bm;omega) (tG (by unfold bm;omega) ?_)
 refine tB (DG (l++[3]) (mL body) (by simp;omega) (fun k hk=>by
  rcases Yw.1 hk with e|e
  ·exact hl.2 k e
  ·exact .inr (by simpa using e)) (GK body) (by rw[vV];omega)) fun z _ hz=>?_
 have hlen:z.1=0→z.2.length=10+2*y.1.toNat:=fun e=>by
  have:=vX (hz.1 e).1
  rw[this];simp;omega
 refine tB (Q:=fun t=>t=false→z.1=0) (tC (fun _=>.ret (by simp)) fun e=>?_) fun t _ ht=>tC (fun _=>.ret trivial) fun e=>?_
 ·have e0:z.1=0:=by simpa using e
  have:=hlen e0
  exact tE (by simp;omega) fun _ _ _=>.ret fun _=>e0
 ·have hL:=hlen (ht e)
  unfold D2
  refine tB (Q:=fun _=>True) ?_ fun _ _ _=>.ret trivial
  refine tE (by simp;omega) fun _ _ _=>tE (by simp;omega) fun _ _ _=>tE (by simp;omega) fun _ _ _=>tE (by simp;omega) fun _ _ _=>tE (by simp;omega) fun _ _ _=>tE (by simp;omega) fun _ _ _=>tE (by simp;omega) fun _ _ _=>tE (by simp;omega) fun _ _ _=>?_
  rw[Yb,dh (by omega) (by omega)]
  refine tG (by omega) (tE (by omega) fun _ _ _=>tB (Q:=fun _=>True) ?_ fun _ _ _=>.ret trivial)
  have:=dk (fun n (s:Nat×List bj)=>yz FF z.2 y.1 n (s.1:Int) s.2) (fun s=>(s.1:Int)≤y.1∧s.2.length=s.1) (fun s=>(y.1-s.1).toNat) (fun _=>True) (by
   rintro n ⟨i,l⟩ ⟨g1,g2⟩ k;simp only at g1 g2 k⊢;simp only[yz]
   refine tT (fun a=>?_) fun _=>.ret trivial
   rw[dh (x:=2*(i:Int)) (by omega) (by omega),dh (x:=9+2*(i:Int)) (by omega) (by omega),dh (x:=10+2*(i:Int)) (by omega) (by omega)]
   refine tG (by omega) (tE (by omega) fun _ _ _=>tG (by omega) (tE (by omega) fun _ _ _=>tG (by unfold bm;omega) ?_))
   rw[w1 (by omega)]
   exact k (i+1,_) ⟨by simp only;omega,by simp;omega⟩ (by simp only;omega)) FF (0,[]) ⟨by omega,rfl⟩ (by simp only[FF];omega)
  exact this
theorem TU(eL:CF ah)(hb:b≤2000000)(ha:a.Kind≠7)(hG:GV ah b (VP ah T V fl) c gs l n7 n8 n9 n10):cr (BO FF a c br gs last tb l n7 n8 n9 n10 m) (IH ah a T V fl b):=by
 unfold BO
 refine tB (Tp a.Id last hG.pk) fun y _ hy=>?_
 obtain⟨p,ok,tN,pk⟩:=y
 obtain⟨h1,h2,h3⟩:=hy
 simp only at h1 h2 h3⊢
 refine tC (fun e=>.ret ((hG.xg h1).stay (.inl ha))) fun e=>?_
 refine tB (Uj p.Body h3) fun u _ _=>?_
 rcases Bu c br gs tN tb l n7 n8 n9 pk m p.To with ⟨e,he,h⟩|⟨u2,hu,h⟩
 ·refine tO h ?_
  simp only[Sum.elim_inl]
  refine tB (Q:=fun t=>t=true) (tC (fun _=>.ret rfl) fun _=>.ret (by simpa using he)) fun t _ ht=>?_
  subst ht;exact .ret ((hG.xg h1).stay (.inl ha))
 ·refine tO h ?_
  simp only[Sum.elim_inr]
  have hN:=(hG.nd _ _ hu).2
  refine tB (Q:=fun _=>True) (tC (fun _=>.ret trivial) fun _=>.ret trivial) fun t _ _=>tC (fun _=>?_) fun _=>?_
  ·rw[hu]
   simp only[Option.isSome_some,Y5];rw[wo hu];exact .ret ((hG.xg h1).stay (.inl ha))
  ·refine tB (Tk u2.dH hN.1.rk u.1) fun y _ hy=>?_
   obtain⟨h,v,n,k,out,rfl,hr⟩:=hy
   rw[hN.1.cf]at hr
   refine tB (GI ah eL _ _ a c br gs p.To tN tb l n7 n8 n9 u2.dH u2.count u2.sum pk m u2.total u2.kept u2.files u2.waits u2.file u2.last u2.bE T V fl b hb ha (hG.xg h1) hu hN (hr.small eL.ok.n7 _ _) hr.cf hr.tm (by have:=hr.ol;show out.length≤_;omega) hr.om) fun o _ ho=>?_
   rcases o with z|z
   ·exact .ret (ho.1 z rfl).2
   ·exact .ret (ho.2 z rfl).2
theorem RQ(h:PK n10):cr (BQ FF a c br gs last tb l n7 n8 n9 n10 m) fun y=>PK y.2.2∧(y.1=0∨y.2=(last,n10)):=by
 have hl:=h.1
 unfold BQ Ea
 refine tB (Q:=fun y:Bool×Int×List bQ=>PK y.2.2∧(y.1=false→y.2=(last,n10))) ?_ fun y _ hy=>tC (fun e=>.ret ⟨hy.1,.inr (hy.2 (by simpa using e))⟩) fun _=>.ret ⟨hy.1,.inl rfl⟩
 exact tB (HL a.Id last (by omega)) fun i _ hi=>tT (fun _=>.ret ⟨h,fun _=>rfl⟩) fun q=>tB (Ll i last (by omega) hi.2 h) fun y _ hy=>.ret ⟨hy.2,fun e=>by cases e⟩
theorem Uh(h:PK n10):cr (BM FF a c br gs last tb l n7 n8 n9 n10 m) fun y=>PK y.2.2∧(y.1=0∨y.1=3∨y.2=(last,n10)):=by
 have hl:=h.1
 unfold BM El
 refine tB (Q:=fun y:Int×Int×Int×List bQ=>PK y.2.2.2∧(y.2.1=0∨y.2.1=3∨y.2.2=(last,n10))) ?_ fun y _ hy=>.ret hy
 exact tB (HL a.Id last (by omega)) fun i _ hi=>tT (fun _=>.ret ⟨h,.inr (.inr rfl)⟩) fun q=>tG (by omega) (tE (by omega) fun _ _ _=>tE (by omega) fun p _ hp=>tB (J4 p last n10 m h (h.2 p hp)) fun y _ hy=>.ret ⟨hy.2,hy.1.imp id .inl⟩)
theorem Tv(eL:CF ah)(hb:b≤2000000)(ha:a.Kind≠7)(hG:GV ah b (VP ah T V fl) c gs l n7 n8 n9 n10):cr (BP FF a c br gs last tb l n7 n8 n9 n10 m) (IH ah a T V fl b):=by
 unfold BP
 rcases Bu c br gs last tb l n7 n8 n9 n10 m a.Node with ⟨e,he,h⟩|⟨u,hu,h⟩
 ·refine tO h ?_
  simp only[Sum.elim_inl]
  exact tC (fun _=>.ret (hG.stay (.inl ha))) fun q=>absurd (by simpa using q) he
 ·refine tO h ?_
  simp only[Sum.elim_inr,show((0:Int) != 0)=false from rfl,Y8]
  have hN:=(hG.nd _ _ hu).2
  refine tB (Ut u.dH hN.1.rk a.Data) fun y _ hy=>?_
  obtain⟨h,v,n,k,out,i,e,rfl,hr⟩:=hy
  rw[hN.1.cf]at hr;simp only
  refine tC (fun _=>?_) fun _=>?_
  ·simp only[hu,Option.isSome_some,Y5]
   rw[wo hu];exact .ret (hG.stay (.inl ha))
  ·refine tB (GI ah eL _ _ a c br gs a.Node last tb l n7 n8 n9 u.dH u.count u.sum n10 m u.total u.kept u.files u.waits u.file u.last u.bE T V fl b hb ha hG hu hN (hr.small eL.ok.n7 _ _) hr.cf hr.tm (by have:=hr.ol;omega) hr.om) fun o _ ho=>?_
   rcases o with z|z
   ·exact .ret (ho.1 z rfl).2
   ·exact .ret (ho.2 z rfl).2
theorem UV.Gb{u:af}(h:UV ah u)(dj dW:Int):∃c' fs' rs,pd FF dj dW u.total u.files u.waits=some (c',fs')∧DR c' fs' [] rs∧jZ (0,0) rs=(u.dH.Term,u.dH.bg):=by
 obtain⟨⟨rs,f1,n1,X,su,e1,e2,e3,e4,e5,e6⟩,fF, -, -, -⟩:=h
 obtain⟨k,hX,hk⟩:=su.ud.k
 obtain⟨j,c',fs',h1,h2,h3⟩:=GY dj dW f1 k rs [] su.ud.f1 su.ud.f2 hk (by rw[YE];exact su.ud.rc) (by rw[YE,←hX];exact su.ud.xl)
 rw[YE,←hX]at h2;rw[V5,YE]at h3
 exact⟨c',fs',rs,by rw[e4,e5,e6];exact h2,h3,by rw[su.hv,fF]⟩
theorem Rx(eL:CF ah)(ha:a.Kind≠7)(hG:GV ah b (VP ah T V fl) c gs l n7 n8 n9 n10):cr (BV FF a c br gs last tb l n7 n8 n9 n10 m) fun y=>GV ah (b+4097) (VW ah T V fl a y.1) c y.2 l n7 n8 n9 n10:=by
 unfold BV
 rcases Bu c br gs last tb l n7 n8 n9 n10 m a.Node with ⟨e,he,h⟩|⟨u,hu,h⟩
 ·refine tO h ?_
  simp only[Sum.elim_inl]
  refine tB (Q:=fun _=>True) (tC (fun q=>absurd (by simpa using q) he) fun _=>.ret trivial) fun _ _ _=>.ret (hG.stay (.inl ha))
 ·refine tO h ?_
  simp only[Sum.elim_inr,show((0:Int)==0)=true from rfl,Y5]
  obtain⟨hU,hT,hV⟩:=(hG.nd _ _ hu).2
  obtain⟨c',fs',rs,h1,h2,h3⟩:=hU.Gb a.lQ a.lO
  unfold qV;rw[h1];simp only[Y1];rw[hu]
  refine .ret ((hG.put (hG.nd _ _ hu).1 ⟨rs,h2,?_,fun _ _=>by rw[h3,hT,hV]⟩ fun i x _ q=>q.w fun z=>ha z.1).mono (WP ..))
  rw[h3];show T a.Node≤u.dH.Term;omega
theorem Kp(eL:CF ah)(id:Int)(hid:id∈ah)(hk:Option.isSome (ak id gs)=true)(rf:bn)(x y t:Int)(fs:Fs)(w:List bp){rs:List (List Int)}(hD:DR t fs w rs)(NL:Int)(ND:Bool):
 cr (uR FF id ah br rf x y gs id NL ND l n7 n8 n9 t n10 m fs w) fun y=>∃x,y.2=bw id x gs∧((y.1≠0∧∃d,x=.inl d∧DR d.total d.files d.waits rs)∨y.1=0∧∃u,x=.inr u∧UV ah u∧u.dH.bx=0∧(u.dH.Term,u.dH.bg)=jZ (0,0) rs):=by
 unfold uR
 refine tB (PJ eL hid hD) fun o _ ho=>?_
 simp only[hk,Y5]
 rcases o with y|y
 ·obtain⟨h1,h2⟩:=ho.1 y rfl
  simp only[Sum.elim_inl]
  have hne:y.2.1≠0:=by rcases h1 with q|q<;>rw[q]<;>decide
  exact tC (fun _=>.ret ⟨_,rfl,.inl ⟨hne,_,rfl,h2⟩⟩) fun e=>absurd (show y.2.1=0 by simpa using e) hne
 ·obtain⟨r,k,f,n,X,e,h1,h2,h3,h4,h5⟩:=ho.2 y rfl
  cases e
  simp only[Sum.elim_inr,show((0:Int) != 0)=false from rfl,Y8]
  exact tB (L7 _ (by have:=h2.ok.sn;omega)) fun q _ hq=>.ret ⟨_,rfl,.inr ⟨rfl,_,rfl,⟨⟨rs,f,n,X,h1,rfl,rfl,rfl,rfl,rfl,rfl⟩,h5,h2,h3,hq⟩,h4,by rw[h1.hv];exact h5.symm⟩⟩
theorem TC(eL:CF ah)(hG:GV ah b (VP ah T V fl) c gs l n7 n8 n9 n10):cr (B5 FF a c br gs last tb l n7 n8 n9 n10 m) fun y=>GV ah (b+4097) (VW ah T V fl a y.1) c y.2 l n7 n8 n9 n10:=by
 unfold B5
 cases h:ak a.Node gs with
 |none=>exact .ret (hG.stay (.inr (show(1:Int)≠0 by decide)))
 |some x=>
  cases x with
  |inl d=>
   simp only[Option.elim_some,Sum.elim_inl]
   have FP:=hG.cc
   rw[show uR FF a.Node c=uR FF a.Node ah by rw[FP]]
   obtain⟨hm,rs,hD,hT,hE⟩:=hG.nd _ _ h
   refine tB (Kp eL a.Node hm (by rw[h];rfl) d.dH d.count d.sum d.total d.files d.waits hD last tb) fun y _ hy=>?_
   obtain⟨e,F7⟩:=y
   obtain⟨x,rfl,hx⟩:=hy
   have put:VW ah T V fl a e a.Node x→GV ah (b+4097) (VW ah T V fl a e) c (bw a.Node x gs) l n7 n8 n9 n10:=fun q=>(hG.put hm q fun i x hi q=>q.w fun z=>hi z.2.1.symm).mono (WP ..)
   refine .ret (put ?_)
   rcases hx with ⟨he,d',rfl,h1⟩|⟨he,u,rfl,h1,h2,h3⟩
   ·exact⟨rs,h1,hT,fun q _=>hE q⟩
   ·have h4:=YF Prod.fst h3
    simp only at h4
    refine⟨h1,by omega,fun _=>⟨fun q=>?_,h2⟩⟩
    have:=hE q
    rw[←h3]at this;exact⟨YF Prod.fst this,YF Prod.snd this⟩
  |inr u=>
   simp only[Option.elim_some,Sum.elim_inr,Option.isSome_some,Y5];rw[wo h]
   exact .ret (hG.stay (.inr (show(4:Int)≠0 by decide)))
theorem P3(eL:CF ah)(ha:a.Kind≠7)(hG:GV ah b (VP ah T V fl) c gs l n7 n8 n9 n10):cr (BS FF a c br gs last tb l n7 n8 n9 n10 m) fun y=>GV ah (b+4097) (VW ah T V fl a y.1) c y.2 l n7 n8 n9 n10:=by
 unfold BS
 rcases Bu c br gs last tb l n7 n8 n9 n10 m a.Node with ⟨e,he,h⟩|⟨u,hu,h⟩
 ·refine tO h ?_
  simp only[Sum.elim_inl]
  exact tC (fun _=>.ret (hG.stay (.inl ha))) fun q=>absurd (by simpa using q) he
 ·refine tO h ?_
  simp only[Sum.elim_inr,show((0:Int) != 0)=false from rfl,Y8]
  obtain⟨hm,⟨⟨rs,f1,n1,X,su,e1,e2,e3,e4,e5,e6⟩,fF,vj,Fi,z6⟩,hT,hV⟩:=hG.nd _ _ hu
  have hp:∀{x:aa} {e:Int},VW ah T V fl a e a.Node x→GV ah (b+4097) (VW ah T V fl a e) c (bw a.Node x gs) l n7 n8 n9 n10:=fun hx=>(hG.put hm hx fun i x _ q=>q.w fun z=>ha z.1).mono (WP ..)
  refine tB (RW u.dH u.count u.sum u.total u.kept u.files u.waits u.file u.last u.bE z6) fun sn _ _=>tB (Ug u.dH vj u.dH.aj sn) fun y _ hy=>?_
  obtain⟨h,v,n,k,e,rfl,hr⟩:=hy
  rw[Fi]at hr;simp only[hu,Option.isSome_some,Y5];rw[e1,e2,e3,e4,e5,e6]
  refine tB (KD su (hr.small eL.ok.n7 h.Left h.bY) (by show∀x,x∈h.au→_;rw[hr.cf];exact eL.lt)) fun y0 _ h0=>?_
  obtain⟨er,k0,f0,Nz,Nu,t0,Pf,w0⟩:=y0
  obtain⟨add,kk,tV,hR,hl,hy,sG,ed⟩:=h0
  simp only at hy ed;cases hy
  have OA:u.kept.Term=T a.Node:=by have:=YF Prod.fst fF;simp only at this;omega
  have X6:u.dH.Term≤h.Term:=hr.tm
  refine tC (fun _=>?_) fun e=>?_
  ·obtain⟨j,c',fs',h1,h2,h3⟩:=GY 0 0 f1 kk rs add su.ud.f1 su.ud.f2 tV hR hl
   unfold rZ qV;rw[h2];simp only[Y1]
   refine .ret (hp ⟨_,h3,?_,fun _ q=>(q (.inr rfl)).elim⟩)
   rcases sG j with q|q<;>rw[q]<;>simp only<;>omega
  rcases ed with ⟨q, -⟩|⟨he0,mV,sH,FG⟩
  ·exact absurd (show er=0 by simpa using e) q
  subst he0
  have hlen:=AM kk (rs++add) []
  have FW:add.length≤(rs++add).length:=by simp
  have Cy:uM FF k0 (ai f1) (n1:Int) ((rs++add).length:Int) ((bH kk (rs++add) []).length:Int) [(ai f1,bH kk (rs++add) [])] (add.map (wv (ai f1)))=some (0,((bH kk (rs++add) []).length:Int),[]):=by
   unfold uM
   rw[L8 (pA _ _) (by rw[Yb];omega),JA];rfl
  refine tO Cy ?_
  have uY:SU k0 (rs++add) f1 n1 (bH kk (rs++add) []):=⟨⟨su.ud.f1,su.ud.f2,⟨kk,rfl,by rw[Ya];omega⟩,hR,hl⟩,su.fn,su.n9,by rw[FG,mV];rfl,by rw[mV];exact sH.kk.nE ..⟩
  refine tB (J8 uY) fun p _ Oi=>?_
  rcases Oi with ⟨eA,X',rfl,z⟩|⟨z1,z2⟩
  ·refine tC (fun q=>by cases q) fun _=>.ret (hp ⟨⟨⟨eA,_,_,X',z,rfl,rfl,rfl,rfl,rfl,rfl⟩,by rw[mV];rfl,sH,hr.cf,z6⟩,by show T a.Node≤h.Term;omega,fun q=>absurd q.1 ha⟩)
  ·refine tC (fun _=>?_) fun q=>absurd (show p.1=0 by simpa using q) z1
   unfold rZ qV
   obtain⟨⟨c',fs'⟩,z3,z4⟩:=z2
   rw[z3];simp only[Y1]
   refine .ret (hp ⟨_,z4,?_,fun _ q=>(q (.inr rfl)).elim⟩)
   rw[uY.hv,mV];show T a.Node≤h.Term;omega
abbrev XT:=Int×(List Int)×Bool×(List (Int×aa))×Int×Bool×(List (ag×Int))×(List bj)×(List Int)×(List Int)×(List cq)×(List bQ)
def Np(ah:List Int)(b:Nat)(P:Int→aa→Prop)(y:XT):Prop:=GV ah b P y.2.1 y.2.2.2.1 y.2.2.2.2.2.2.2.1 y.2.2.2.2.2.2.2.2.1 y.2.2.2.2.2.2.2.2.2.1 y.2.2.2.2.2.2.2.2.2.2.1 y.2.2.2.2.2.2.2.2.2.2.2∧y.2.2.2.2.2.2.1.length≤b
theorem Gd(eL:CF ah)(hb:b≤2000000)(hG:GV ah b (VP ah T V fl) c gs l n7 n8 n9 n10)(hm:m.length≤b):cr (qY FF a c br gs last tb l n7 n8 n9 n10 m) fun y=>Np ah (b+4097) (VW ah T V fl a y.1) y:=by
 have jh:m.length≤b+4097:=by omega
 have k7:∀{k:Int},(a.Kind==k)=true→k≠7→a.Kind≠7:=fun h1 h2=>by rw[WZ.1 h1];exact h2
 unfold qY DK;simp only[Y1]
 refine tC (fun q=>tB (Qi eL hb (k7 q (by decide)) hG) fun y _ hy=>.ret ⟨hy,jh⟩) fun _=>?_
 refine tC (fun q=>tB (TU eL hb (k7 q (by decide)) hG) fun y _ hy=>.ret ⟨hy,jh⟩) fun _=>?_
 refine tC (fun q=>tB (RQ hG.pk) fun y _ hy=>.ret ⟨(hG.xg hy.1).stay (.inl (k7 q (by decide))),jh⟩) fun _=>?_
 refine tC (fun q=>tB (Uh hG.pk) fun y _ hy=>.ret ⟨(hG.xg hy.1).stay (.inl (k7 q (by decide))),jh⟩) fun _=>?_
 refine tC (fun q=>tB (Tv eL hb (k7 q (by decide)) hG) fun y _ hy=>.ret ⟨hy,jh⟩) fun _=>?_
 refine tC (fun q=>tB (Rx eL (k7 q (by decide)) hG) fun y _ hy=>.ret ⟨hy,jh⟩) fun _=>?_
 refine tC (fun q=>tB (TC eL hG) fun y _ hy=>.ret ⟨hy,jh⟩) fun _=>?_
 refine tC (fun q=>?_) fun _=>?_
 ·unfold D6 D8 uu
  simp only[Y1]
  refine tB (Q:=fun y:Int×List (ag×Int)=>y.1=0∧y.2.length≤b+4097) (tB (Q:=fun y:List (ag×Int)=>y.length≤b+4097) (tG (by unfold bm;omega) (.ret (by have:=HM (ag.mk (if a.fu<a.Node then a.fu else a.Node) (if a.fu>a.Node then a.fu else a.Node)) (1:Int) m;omega))) fun y _ hy=>.ret ⟨rfl,hy⟩) fun y _ hy=>.ret ⟨hG.stay (.inl (k7 q (by decide))),hy.2⟩
 refine tC (fun q=>?_) fun _=>?_
 ·unfold Ek Eb uu
  simp only[Y1]
  exact .ret ⟨hG.stay (.inl (k7 q (by decide))),YZ (Li _ m) jh⟩
 refine tC (fun q=>tB (P3 eL (k7 q (by decide)) hG) fun y _ hy=>.ret ⟨hy,jh⟩) fun _=>.ret ⟨hG.stay (.inr (show(1:Int)≠0 by decide)),jh⟩
end
end Go.T
