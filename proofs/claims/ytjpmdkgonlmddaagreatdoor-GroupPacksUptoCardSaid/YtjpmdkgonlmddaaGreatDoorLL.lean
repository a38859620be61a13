import Derived.Test.YtjpmdkgonlmddaaGreatDoorLK
set_option linter.defProp false
set_option linter.unusedVariables false
set_option maxRecDepth 20000
namespace Go.T
open Go Go.Ab
section
variable (ag:aa)(a:eU)(c:aa)(br:Bool)(gs:List (Int×ai))(last:Int)(tb:Bool)(l:List bx)(n7 n8:aa)(n9:List da)(n10:List cD)(m:List (ax×Int))(b:Nat)
def CT(id:Int):(∃e,e≠0∧nC FF id c br gs last tb l n7 n8 n9 n10 m=some (.inl (e,gs)))∨
 ∃u:aw,az id gs=some (.inr u)∧nC FF id c br gs last tb l n7 n8 n9 n10 m=some (.inr (0,gs,id,u.bR,u.count,u.sum,u.total,u.kept,u.files,u.waits,u.file,u.last,u.bZ)):=by
 unfold nC;cases h:az id gs with
 |none=>exact .inl ⟨1,by decide,rfl⟩
 |some x=>
  cases x with
  |inl d=>
   refine .inl ⟨4,by decide,?_⟩
   simp only[Vs,Wr,YS,Y4];rw[wj h]
  |inr u=>exact .inr ⟨u,rfl,rfl⟩
variable {ag a c br gs last tb l n7 n8 n9 n10 m b}{w:Wd}
def GC.mono{b':Nat}(h:GC ag b w c br gs l n7 n8 n9 n10)(i:b≤b'):GC ag b' w c br gs l n7 n8 n9 n10:=⟨h.cc,h.br,h.wo,h.G,Wh h.le i,h.nc,Wh h.ld i,h.pk,h.nd,h.al,h.lr⟩
def GC.yP{p:List cD}(h:GC ag b w c br gs l n7 n8 n9 n10)(i:PQ ag w p):GC ag b w c br gs l n7 n8 n9 p:=⟨h.cc,h.br,h.wo,h.G,h.le,h.nc,h.ld,i,h.nd,h.al,h.lr⟩
def GC.put{w':Wd}{i:Int}{x:ai}(p:CO ag)(h:GC ag b w c br gs l n7 n8 n9 n10)(j:i∈ag)(e:Ext i w w')(wo:eC ag w')(q:w'.G=w.G)(o:mf ag w' i x):GC ag b w' c br (bW i x gs) l n7 n8 n9 n10:=
 h.set p j e wo (by rw[q,h.G]) h.le h.nc h.ld (h.lr.ext e) (h.pk.ext e) o
def AC(ag:aa)(b:Nat)(w:Wd)(y:DJ):Prop:=∃w',w.G<+:w'.G∧Qp ag (b+4097) w' y
def AC.stay{e:Int}(i:GC ag b w c br gs l n7 n8 n9 n10):AC ag b w (e,c,br,gs,last,tb,l,n7,n8,n9,n10):=⟨w,YH _,i.mono (Vn ..)⟩
def CO.cf(i:CO ag):CF ag:=⟨i.ck,i.ok,i.lt⟩
def UE(B:CO ag)(M:b≤2000000)(i:GC ag b w c br gs l n7 n8 n9 n10):dh (Dk FF a c br gs last tb l n7 n8 n9 n10 m) (AC ag b w):=by
 unfold Dk;rcases CT c br gs last tb l n7 n8 n9 n10 m a.Node with ⟨e,J,h⟩|⟨u,p,h⟩
 ·refine bJ h ?_;simp only[Wr];exact bu (λ _=>.ret (AC.stay i)) λ q=>absurd (by simpa using q) J
 ·refine bJ h ?_;simp only[YG,show((0:Int) != 0)=false from rfl,Y7]
  have A:=(i.nd _ _ p).2;obtain⟨rs,f,n,X,a1,a2,a3,a4,a5,a6,a7,a8,no,j,C,H⟩:=id A;refine bh (UF B i.wo no a.qm) λ y _ E=>?_;obtain⟨h,v,n,k,out,rfl,x, -⟩:=E
  rw[j]at x;refine bh (IQ ag B h v n k out a c br gs a.Node last tb l n7 n8 n9 u.bR u.count u.sum n10 m u.total u.kept u.files u.waits u.file u.last u.bZ b M i p A x) λ o _ ho=>?_;obtain⟨w',e,h1,F⟩:=ho
  rcases o with z|z
  ·exact .ret ⟨w',e.G,(h1 z rfl).2⟩
  ·exact .ret ⟨w',e.G,(F z rfl).2⟩
def JS(id:Int)(x:Int)(hl:n10.length≤1000000):dh (yh FF id x n10 m) λ i=> -1≤i∧i<n10.length:=by
 unfold yh Gc;have:=dM (λ n (i:Nat)=>Ai FF n10 id n (i:Int)) (λ i=>i≤n10.length) (λ i=>n10.length-i) (λ o=>(∀r,o=.inl r→ -1≤r∧r<n10.length)∧∀u:Unit,o=.inr u→True) (by
  intro n i h1 k;simp only[Ai];refine cq (λ q=>?_) λ _=>.ret ⟨(λ r e=>by cases e),λ _ _=>trivial⟩
  refine bV (by omega) (cM (by simp;omega) λ x _ _=>bh (Q:=λ _=>True) (by unfold F1;exact .ret trivial) λ t _ _=>bu (λ _=>.ret ⟨λ r e=>by cases e;omega,λ _ _=>trivial⟩) λ _=>?_)
  rw[w1 (by omega)]
  exact k (i+1) (by omega) (by omega)) FF 0 (YL _) (by simp only[FF];omega)
 refine bh (jm this (λ r h=>.ret h) λ _ _=>.ret ⟨by decide,by omega⟩) λ i _ h=>.ret h
def MO(i x:Int)(h0:0≤i)(h1:i<n10.length)(h:PQ ag w n10):dh (zX FF i x n10 m) λ y=>y.1∈n10∧PQ ag w y.2.2:=by
 have hl:=h.pk.1;unfold zX;refine bV h0 (cM (by omega) λ p _ hp=>cM (by omega) λ p2 _ u=>?_)
 unfold Gb;rw[dj (by omega) (by omega)]
 have j:∀q,q∈n10.take i.toNat++n10.drop (i.toNat+1)→q∈n10:=λ q o=>by
  rcases YA.1 o with e|e
  ·exact YZ e
  ·exact Wq e
 refine bh (Q:=PQ ag w) (bV ⟨h0,rfl,by omega⟩ (.ret (h.sub ⟨by simp;omega,λ q o=>h.pk.2 q (j q o)⟩ λ q o=>.inl (j q o)))) λ y _ z=>.ret ⟨u,z⟩
def XH(id x:Int)(h:PQ ag w n10):dh (Dg FF id x n10 m) λ y=>PQ ag w y.2.2.2∧(y.2.1=true→y.1∈n10):=by
 have hl:=h.pk.1;unfold Dg;refine bh (JS id x (by omega)) λ i _ o=>?_
 refine bh (Q:=λ t=>t=false→0≤i) (cq (λ _=>.ret (by simp)) λ q=>bV (by omega) (cM (by omega) λ _ _ _=>cM (by omega) λ p _ _=>bh (Q:=λ _=>True) (by unfold FM vY;exact .ret trivial) λ _ _ _=>.ret λ _=>by omega)) λ t _ u=>bu (λ _=>.ret ⟨h,by simp⟩) λ e=>?_
 exact bh (MO i x (u e) o.2 h) λ y _ j=>.ret ⟨j.2,λ q=>j.1⟩
def ZpA(U:CO ag)(hb:b≤2000000)(u:GC ag b w c br gs l n7 n8 n9 n10):dh (Da FF a c br gs last tb l n7 n8 n9 n10 m) (AC ag b w):=by
 unfold Da;refine bh (XH a.Id last u.pk) λ y _ E=>?_;obtain⟨p,ok,i,pk⟩:=y
 obtain⟨h1,T⟩:=E;simp only at h1 T⊢;refine bu (λ e=>.ret (AC.stay (u.yP h1))) λ e=>?_;have V:=T (by simpa using e)
 obtain⟨m0,H,J,M⟩:=u.pk.ms p V;obtain⟨z,Y,A,C⟩:=Zz J M (u.pk.pk.2 p V);refine bJ A ?_;simp only;rcases CT c br gs i tb l n7 n8 n9 pk m p.To with ⟨e,he,h⟩|⟨j,x,h⟩
 ·refine bJ h ?_;simp only[Wr];refine bh (Q:=λ t=>t=true) (bu (λ _=>.ret rfl) λ _=>.ret (by simpa using he)) λ t _ F=>?_
  subst F;exact .ret (AC.stay (u.yP h1))
 ·refine bJ h ?_;simp only[YG];have R:=(u.nd _ _ x).2;obtain⟨rs,f,n,X,a1,a2,a3,a4,a5,a6,a7,a8,no,B,Z,a12⟩:=id R;refine bh (Q:=λ t=>t=false→Y=0) (bu (λ _=>.ret (by simp)) λ q=>.ret λ _=>by simpa using q) λ t _ F=>bu (λ _=>?_) λ e0=>?_
  ·rw[x];simp only[YS,Y4];rw[wj x];exact .ret (AC.stay (u.yP h1))
  ·rw[C (F e0)];refine bh (ZqY U u.wo no m0 H) λ y _ E=>?_;obtain⟨h,v,n,k,out,rfl,O, -⟩:=E
   rw[B]at O;refine bh (IQ ag U h v n k out a c br gs p.To i tb l n7 n8 n9 j.bR j.count j.sum pk m j.total j.kept j.files j.waits j.file j.last j.bZ b hb (u.yP h1) x R O) λ o _ ho=>?_;obtain⟨w',e,g1,g2⟩:=ho
   rcases o with z|z
   ·exact .ret ⟨w',e.G,(g1 z rfl).2⟩
   ·exact .ret ⟨w',e.G,(g2 z rfl).2⟩
def Xo(h:PQ ag w n10):dh (Dh FF a c br gs last tb l n7 n8 n9 n10 m) λ y=>PQ ag w y.2.2:=by
 have hl:=h.pk.1;unfold Dh FK;refine bh (Q:=λ y:Bool×Int×List cD=>PQ ag w y.2.2) ?_ λ y _ j=>bu (λ e=>.ret j) λ _=>.ret j;exact bh (JS a.Id last (by omega)) λ i _ o=>cq (λ _=>.ret h) λ q=>bh (MO i last (by omega) o.2 h) λ y _ j=>.ret j.2
def BX(p:cD)(x:Int)(h:PQ ag w n10)(j:p∈n10):dh (ym FF p x n10 m) λ y=>PQ ag w y.2.2.2:=by
 unfold ym;have h1:=h.pk.1;refine cq (λ _=>.ret h) λ a=>bV (by unfold bI;omega) (.ret (h.sub ⟨by simp;omega,λ q i=>?_⟩ λ q i=>?_))
 ·rcases YA.1 i with e|e
  ·exact h.pk.2 q e
  ·simp only[Yu]at e;subst e;exact h.pk.2 p j
 ·rcases YA.1 i with e|e
  ·exact .inl e
  ·simp only[Yu]at e;subst e;exact .inr ⟨p,j,rfl⟩
def Zm(h:PQ ag w n10):dh (C8 FF a c br gs last tb l n7 n8 n9 n10 m) λ y=>PQ ag w y.2.2:=by
 have hl:=h.pk.1;unfold C8 FY;refine bh (Q:=λ y:Int×Int×Int×List cD=>PQ ag w y.2.2.2) ?_ λ y _ j=>.ret j;exact bh (JS a.Id last (by omega)) λ i _ hi=>cq (λ _=>.ret h) λ q=>bV (by omega) (cM (by omega) λ _ _ _=>cM (by omega) λ p _ o=>bh (BX p last h o) λ y _ j=>.ret j)
def Zpg(C:CO ag)(Q:b≤2000000)(j:GC ag b w c br gs l n7 n8 n9 n10):dh (Db FF a c br gs last tb l n7 n8 n9 n10 m) (AC ag b w):=by
 unfold Db;rcases CT c br gs last tb l n7 n8 n9 n10 m a.Node with ⟨e,O,h⟩|⟨u,p,h⟩
 ·refine bJ h ?_;simp only[Wr];exact bu (λ _=>.ret (AC.stay j)) λ q=>absurd (by simpa using q) O
 ·refine bJ h ?_;simp only[YG,show((0:Int) != 0)=false from rfl,Y7]
  have B:=(j.nd _ _ p).2;obtain⟨rs,f,n,X,a1,a2,a3,a4,a5,a6,a7,a8,no,x,E,J⟩:=id B;refine bh (Zpf C j.wo no a.Data) λ y _ F=>?_;obtain⟨h,v,n,k,out,i,e,rfl,A, -⟩:=F
  rw[x]at A;simp only;refine bu (λ _=>?_) λ _=>?_
  ·simp only[p,YS,Y4];rw[wj p];exact .ret (AC.stay j)
  ·refine bh (IQ ag C h v n k out a c br gs a.Node last tb l n7 n8 n9 u.bR u.count u.sum n10 m u.total u.kept u.files u.waits u.file u.last u.bZ b Q j p B A) λ o _ ho=>?_;obtain⟨w',e,H,M⟩:=ho
   rcases o with z|z
   ·exact .ret ⟨w',e.G,(H z rfl).2⟩
   ·exact .ret ⟨w',e.G,(M z rfl).2⟩
def mf.Im{i:Int}{u:aw}(h:mf ag w i (.inr u))(o p:Int):∃z dO,qk FF o p u.total u.files u.waits=some (z,dO)∧∀rf x y,mf ag w i (.inl (ar.mk dO [] z rf x y)):=by
 obtain⟨rs,f1,n1,X,q,e1,e2,e3,O,F,M,H,no,A, -, -⟩:=h;obtain⟨k,E,J⟩:=q.ud.k;obtain⟨j,z,dO,h1,C,B⟩:=Mu o p f1 k (rs.map Rec.b) [] q.ud.f1 q.ud.f2 J (by rw[YI];exact q.ud.rc) (by rw[YI,←E];exact q.ud.xl)
 rw[YI,←E]at C;rw[List.take_nil,YI]at B;refine⟨z,dO,by rw[O,F,M];exact C,λ rf x y=>⟨rs,⟨B,q.ok⟩,λ _=>?_⟩⟩
 rw[q.fo,H,←A];exact no.ho.d
def X6(x:CO ag)(i:GC ag b w c br gs l n7 n8 n9 n10):dh (De FF a c br gs last tb l n7 n8 n9 n10 m) λ y=>GC ag b w c br y.2 l n7 n8 n9 n10:=by
 unfold De;rcases CT c br gs last tb l n7 n8 n9 n10 m a.Node with ⟨e,o,h⟩|⟨u,j,h⟩
 ·refine bJ h ?_;simp only[Wr];refine bh (Q:=λ _=>True) (bu (λ q=>absurd (by simpa using q) o) λ _=>.ret trivial) λ _ _ _=>.ret i
 ·refine bJ h ?_;simp only[YG,show((0:Int)==0)=true from rfl,Y4]
  obtain⟨c',dO,h1,p⟩:=(i.nd _ _ j).2.Im a.mK a.mJ;unfold sG;rw[h1];simp only[Y1];rw[j];exact .ret (i.put x (i.nd _ _ j).1 (Ext.refl ..) i.wo rfl (p ..))
def Zo6{i:Int}(F:CF ag){k:bD}{rs:List Rec}{f n:Nat}{X:aa}(B:SU i ag k rs f n X)(C:fold (r0 i ag) rs=k)(rk:RK k)(d:jI Sn ag w i k.Term k.bn k.Trail k.bj){u:aw}(A:u=aw.mk [(bd f,X)] [] (X.length:Int) (bd f) ((n:Nat):Int) (rs.length:Int) k k (fh (w.G.take k.Trail.an.toNat)) (fj (w.G.take k.Trail.an.toNat))):mf ag w i (.inr u):=by
 subst A;have y:=JM rs (r0 i ag) rfl;rw[C]at y;obtain⟨hC,p,x⟩:=y;have p:k.Id=i:=p;have hC:k.bg=ag:=hC;have j:k.ah=k.Trail.an:=by rw[←x];rfl
 have o:k.bE=0:=by rw[←x];rfl
 have E:=d.b0;refine⟨rs,f,n,X,B,rfl,rfl,rfl,rfl,rfl,rfl,x.symm,⟨rk,⟨?_,?_,?_,?_,?_,?_⟩,⟨λ q=>?_,λ q=>?_⟩,hC⟩,p,by rw[j],by rw[j]⟩
 ·show jI Sn ag w k.Id k.Term k.bn k.Trail k.bj;rw[p];exact d
 ·show k.Trail.an≤k.ah;omega
 ·show k.ah≤bQ k.Trail;unfold bQ;omega
 ·show k.ah≤_;rw[j];exact d.bG
 ·show(dW w.G k.Trail).take k.ah.toNat=w.G.take k.ah.toNat;have z:=d.bG;rw[j];unfold dW;rw[W4 (by rw[Y9];omega),WH,Nat.min_self]
 ·show CK ag w k.Term k.ah;rw[j];exact d.ck
 ·rw[show(hd k).bE=k.bE from rfl,o]at q;cases q
 ·rw[show(hd k).bE=k.bE from rfl,o]at q;cases q
def M1(i:CF ag)(id:Int)(p:id∈ag)(H:Option.isSome (az id gs)=true)(rf:bD)(x y t:Int)(fs:Fs)(wt:List bP){E M:Int}{u:bD}(F:mf ag w id (.inl (ar.mk fs wt t u E M)))(z:Int)(A:Bool):
 dh (wR FF id ag br rf x y gs id z A l n7 n8 n9 t n10 m fs wt) λ y=>∃x,y.2=bW id x gs∧mf ag w id x:=by
 obtain⟨rs,J,C⟩:=F;unfold wR;refine bh (TO i p J) λ o _ ho=>?_;simp only[H,Y4]
 rcases o with y|y
 ·obtain⟨h1,j⟩:=ho.1 y rfl;simp only[Wr];have B:y.2.1≠0:=by rcases h1 with q|q<;>rw[q]<;>decide
  exact bu (λ _=>.ret ⟨_,rfl,rs,j,C⟩) λ e=>absurd (show y.2.1=0 by simpa using e) B
 ·obtain⟨f,n,X,e,h1,j⟩:=ho.2 y rfl;cases e;have d:=C j;simp only[YG,show((0:Int) != 0)=false from rfl,Y7]
  refine bJ d.sn.2 (.ret ⟨_,rfl,Zo6 i h1 rfl j d rfl⟩)
def Zo9(p:CO ag)(i:GC ag b w c br gs l n7 n8 n9 n10):dh (Dc FF a c br gs last tb l n7 n8 n9 n10 m) λ y=>GC ag b w c br y.2 l n7 n8 n9 n10:=by
 unfold Dc;cases h:az a.Node gs with
 |none=>exact .ret i
 |some x=>
  cases x with
  |inl d=>
   simp only[Vs,Wr];have j:=i.cc;rw[show wR FF a.Node c=wR FF a.Node ag by rw[j]]
   obtain⟨o,q⟩:=i.nd _ _ h;refine bh (M1 p.cf a.Node o (by rw[h];rfl) d.bR d.count d.sum d.total d.files d.waits q last tb) λ y _ B=>?_
   obtain⟨e,z⟩:=y;obtain⟨x,rfl,A⟩:=B;exact .ret (i.put p o (Ext.refl ..) i.wo rfl A)
  |inr u=>
   simp only[Vs,YG,YS,Y4];rw[wj h];exact .ret i
def Qt(u i:aw):Prop:=i.bR.bE=u.bR.bE∧i.bR.Term=u.bR.Term∧i.bR.bn=u.bR.bn∧i.bR.ah=u.bR.ah∧i.count=u.count∧i.sum=u.sum∧i.bR.Trail.an=u.bR.ah
def ME(R:CO ag)(hb:b≤2000000)(H:GC ag b w c br gs l n7 n8 n9 n10):dh (Dj FF a c br gs last tb l n7 n8 n9 n10 m) λ y=>(∃w',w'.G=w.G∧GC ag b w' c br y.2 l n7 n8 n9 n10)∧
 (y.1=3∨y.2=gs∧(y.1=1∧az a.Node gs=none∨y.1=4∧∃d,az a.Node gs=some (.inl d))∨y.1=0∧∃u u',az a.Node gs=some (.inr u)∧az a.Node y.2=some (.inr u')∧Qt u u'):=by
 have stay:=H;unfold Dj;cases J:az a.Node gs with
 |none=>
  have h:nC FF a.Node c br gs last tb l n7 n8 n9 n10 m=some (.inl (1,gs)):=by unfold nC;rw[J];rfl
  refine bJ h ?_;simp only[Wr];exact .ret ⟨⟨w,rfl,stay⟩,.inr (.inl ⟨rfl,.inl ⟨rfl,trivial⟩⟩)⟩
 |some x0=>
 cases x0 with
 |inl d=>
  have h:nC FF a.Node c br gs last tb l n7 n8 n9 n10 m=some (.inl (4,gs)):=by
   unfold nC;rw[J];simp only[Vs,Wr,YS,Y4];rw[wj J]
  refine bJ h ?_;simp only[Wr];exact .ret ⟨⟨w,rfl,stay⟩,.inr (.inl ⟨rfl,.inr ⟨rfl,d,rfl⟩⟩)⟩
 |inr u=>
  rcases CT c br gs last tb l n7 n8 n9 n10 m a.Node with ⟨e,he,h⟩|⟨u2,Z,h⟩
  ·exfalso;unfold nC at h;rw[J]at h;cases h
  rw[J]at Z;cases Z;have Z:=J;refine bJ h ?_;simp only[YG,show((0:Int) != 0)=false from rfl,Y7]
  obtain⟨Q,rs,f1,n1,X,F,e1,e2,e3,e4,e5,e6,e7,no,B,O,M⟩:=H.nd _ _ Z;have RC:w.G.length≤b:=by rw[H.G];exact H.le
  have Ee:u.bR.ah≤(w.G.length:Int):=no.ho.cG;have uw:0≤u.bR.ah:=Vr no.ho.d.b0 no.ho.c0;obtain⟨sn,Y,V⟩:=Uu (w.G.take u.bR.ah.toNat) (by rw[Y9];omega) u.bR u.total u.kept u.files u.waits u.file u.last u.bZ
  rw[←O,←M]at Y;refine bJ Y ?_;obtain⟨x,Ed,fr⟩:=ZpE R H.wo no sn V V.1;refine bJ Ed ?_;simp only[Z,YS,Y4];rw[B]at fr;obtain⟨SR,LX,LW⟩:=fr.cf;have h7:=R.ok.n7;have Rc:Small (whole (cP.mk u.bR.Id u.bR.bg u.bR.Term u.bR.bn u.bR.bE u.bR.bo (dZ u.bR.Trail u.bR.ah x) sn u.bR.ah u.bR.Left u.bR.bK) u.bR.bO u.bR.Next u.bR.Match):=⟨by show u.bR.bg.length≤_;rw[no.cf];omega,by show(dZ u.bR.Trail u.bR.ah x).Entries.length≤_;have:(dZ u.bR.Trail u.bR.ah x).Entries.length≤10000:=LX;omega,by have:=fr.vl;show u.bR.bO.length≤_;omega,by have:=fr.nl;show u.bR.Next.length≤_;omega,by have:=fr.ml;show u.bR.Match.length≤_;omega⟩
  have yR:TC u.kept.Trail:=by rw[e7];exact no.hn.tc
  have sQ:u.kept.Trail.Entries.length≤4096:=by rw[e7];exact no.rk.ok.tr.len
  have H2:jI Sn ag w a.Node u.kept.Term u.kept.bn u.kept.Trail u.kept.bj:=by rw[e7,←B];exact no.ho.d
  obtain⟨r2,i⟩:∃r2,r2=whole (cP.mk u.bR.Id u.bR.bg u.bR.Term u.bR.bn u.bR.bE u.bR.bo (dZ u.bR.Trail u.bR.ah x) sn u.bR.ah u.bR.Left u.bR.bK) u.bR.bO u.bR.Next u.bR.Match:=⟨_,rfl⟩;have It:CP Sn ag w a.Node u.kept.Trail u.kept.bj r2.Term r2.bn r2.Trail r2.bj:=by rw[e7,i];exact fr.cp
  have rA:=Oc F yR sQ Rc (by show∀x∈u.bR.bg,_;rw[no.cf];exact R.lt)
  rw[←i]at rA;rw[show bD.mk u.bR.Id u.bR.bg u.bR.Term u.bR.bn u.bR.bE u.bR.bo (ca.mk u.bR.ah x (u.bR.Trail.Entries.drop (u.bR.ah-u.bR.Trail.an).toNat)) sn u.bR.ah u.bR.Left u.bR.bK u.bR.bO u.bR.Next u.bR.Match=r2 from i.symm]
  rw[e1,e2,e3,e4,e5,e6];refine bh rA λ y0 _ h0=>?_;obtain⟨er,k0,f0,QB,Qw,t0,SL,w0⟩:=y0
  obtain⟨add,mM,kk,xi,hX,hR,hl,hy,A⟩:=h0;simp only at hy A;cases hy;have oi:add=[]∨∃s m,Cp (dN u.kept r2).Entries r2.Trail.Entries s∧add=(iL u.kept r2 s).take m:=by
   rcases A with ⟨-, -,q|⟨-, -, -,s,m,q1,q2⟩⟩|⟨-, -, -, -, -,s,q1,q2⟩
   ·exact .inl q
   ·exact .inr ⟨s,m,q1,q2⟩
   ·exact .inr ⟨s,(iL u.kept r2 s).length,q1,by rw[W7];exact q2⟩
  refine bu (λ _=>?_) λ e=>?_
  ·obtain⟨c',dO,w',g,T,g2,g3,g4⟩:=M3 F H.wo H2 It add oi mM xi hR hl 0 0;unfold tB sG;rw[g];simp only[Y1];exact .ret ⟨⟨w',g3,H.put R Q T g2 g3 (g4 ..)⟩,.inl rfl⟩
  rcases A with ⟨q, -⟩|⟨nj,j,E,iV,pU,s,H3,iE⟩
  ·exact absurd (show er=0 by simpa using e) q
  subst nj;obtain⟨w',T,g2,ho,ro,Lk,Ei⟩:=fr.ex;have C:w'.G=w.G:=by
   rcases Ei with q|q
   ·exact q
   ·have h1:=T.G;have h2:(w'.G.length:Int)=u.bR.ah:=q;exact(h1.eq_of_length (by have:=h1.length_le;omega)).symm
  have U:=B9 kk (rs.map Rec.b++add.map Rec.b) [];rw[Y8,Ya,Ya]at U;have DY:wJ FF k0 (bd f1) (n1:Int) ((rs++add).length:Int) ((cd kk (rs.map Rec.b++add.map Rec.b) []).length:Int) [(bd f1,cd kk (rs.map Rec.b++add.map Rec.b) [])] ((add.map Rec.b).map (wv (bd f1)))=some (0,((cd kk (rs.map Rec.b++add.map Rec.b) []).length:Int),[]):=by
   unfold wJ;rw[OV (qL _ _) (by rw[Ya,Ya];omega),Mf];rfl
  refine bJ DY ?_;have hf:fold u.kept add=jF r2:=by
   rw[iE,Jl F.kr H3];unfold tv jF;rw[iV,pU]
  have K1:SU a.Node ag k0 (rs++add) f1 n1 (cd kk (rs.map Rec.b++add.map Rec.b) []):=by
   refine⟨⟨F.ud.f1,F.ud.f2,⟨kk,by rw[Yj],by rw[Yj,Y8];omega⟩,by rw[Yj];exact hR,hl⟩,F.fn,F.n9,λ x J=>(YA.1 J).elim (F.ok x) (mM x),?_,?_⟩
   ·rw[sj,F.fo,hf,j]
   ·rw[j];rfl
  have um:NO Sn ag w' r2:=by
   rw[i]at E⊢;refine⟨E,?_,?_,SR⟩
   ·show HO Sn ag w' (cP.mk u.bR.Id u.bR.bg u.bR.Term u.bR.bn u.bR.bE u.bR.bo (dZ u.bR.Trail u.bR.ah x) sn u.bR.ah u.bR.Left u.bR.bK);rw[B];exact ho
   ·show kY ag w' (cP.mk u.bR.Id u.bR.bg u.bR.Term u.bR.bn u.bR.bE u.bR.bo (dZ u.bR.Trail u.bR.ah x) sn u.bR.ah u.bR.Left u.bR.bK) u.bR.bO u.bR.Next u.bR.Match;rw[B];exact ro
  have o:=E.nk;refine bh (Mm K1 (by rw[j];exact⟨o.t,o.v,o.b,o.l,o.bt,o.s,o.e,o.el⟩) (by rw[j,i];exact B) (by rw[j,i];exact no.cf) (by rw[j];exact E.ok.tr.len)) λ p _ Hm=>?_
  rcases Hm with ⟨oH,X',rfl,z⟩|⟨z1,z2⟩
  ·refine bu (λ q=>by cases q) λ _=>.ret ⟨⟨w',C,H.put R Q T g2 C ⟨oH,_,_,X',z,rfl,rfl,rfl,rfl,rfl,rfl,j,um,by rw[i];exact B,?_,?_⟩⟩,.inr (.inr ⟨rfl,u,_,rfl,wy _,?_⟩)⟩
   ·show u.count=_;rw[C,O,i];rfl
   ·show u.sum=_;rw[C,M,i];rfl
   ·rw[i];exact⟨rfl,rfl,rfl,rfl,rfl,rfl,rfl⟩
  ·refine bu (λ _=>?_) λ q=>absurd (show p.1=0 by simpa using q) z1
   unfold tB sG;obtain⟨⟨c',dO⟩,z3,z4⟩:=z2;rw[z3];simp only[Y1];refine .ret ⟨⟨w',C,H.put R Q T g2 C ⟨rs++add,z4,λ _=>?_⟩⟩,.inl rfl⟩;rw[K1.fo,j,i];exact ho.d
abbrev Qs:=Int×aa×Bool×(List (Int×ai))×Int×Bool×(List (ax×Int))×(List bx)×aa×aa×(List da)×(List cD)
def Gp(ag:aa)(b:Nat)(w:Wd)(y:Qs):Prop:=GC ag b w y.2.1 y.2.2.1 y.2.2.2.1 y.2.2.2.2.2.2.2.1 y.2.2.2.2.2.2.2.2.1 y.2.2.2.2.2.2.2.2.2.1 y.2.2.2.2.2.2.2.2.2.2.1 y.2.2.2.2.2.2.2.2.2.2.2∧y.2.2.2.2.2.2.1.length≤b
def Ip(u:CO ag)(x:b≤2000000)(o:GC ag b w c br gs l n7 n8 n9 n10)(hm:m.length≤b):dh (pA FF a c br gs last tb l n7 n8 n9 n10 m) λ y=>∃w',w.G<+:w'.G∧Gp ag (b+4097) w' y:=by
 have i:m.length≤b+4097:=by omega
 have stay:=o.mono (Vn b 4097);have p:∀{y:Qs},Gp ag (b+4097) w y→∃w',w.G<+:w'.G∧Gp ag (b+4097) w' y:=λ h=>⟨w,YH _,h⟩;unfold pA CD;simp only[Y1]
 refine bu (λ _=>bh (UE u x o) λ y _ j=>.ret ?_) λ _=>?_
 ·obtain⟨w',h1,q⟩:=j;exact⟨w',h1,q,i⟩
 refine bu (λ _=>bh (ZpA u x o) λ y _ j=>.ret ?_) λ _=>?_
 ·obtain⟨w',h1,q⟩:=j;exact⟨w',h1,q,i⟩
 refine bu (λ _=>bh (Xo o.pk) λ y _ j=>.ret (p ⟨stay.yP j,i⟩)) λ _=>?_;refine bu (λ _=>bh (Zm o.pk) λ y _ j=>.ret (p ⟨stay.yP j,i⟩)) λ _=>?_
 refine bu (λ _=>bh (Zpg u x o) λ y _ j=>.ret ?_) λ _=>?_
 ·obtain⟨w',h1,q⟩:=j;exact⟨w',h1,q,i⟩
 refine bu (λ _=>bh (X6 u o) λ y _ j=>.ret (p ⟨GC.mono j (Vn ..),i⟩)) λ _=>?_;refine bu (λ _=>bh (Zo9 u o) λ y _ j=>.ret (p ⟨GC.mono j (Vn ..),i⟩)) λ _=>?_
 refine bu (λ _=>?_) λ _=>?_
 ·unfold FJ FO vY;simp only[Y1];refine bh (Q:=λ y:Int×List (ax×Int)=>y.1=0∧y.2.length≤b+4097) (bh (Q:=λ y:List (ax×Int)=>y.length≤b+4097) (bV (by unfold bI;omega) (.ret (by have:=JT (ax.mk (if a.gj<a.Node then a.gj else a.Node) (if a.gj>a.Node then a.gj else a.Node)) (1:Int) m;omega))) λ y _ j=>.ret ⟨rfl,j⟩) λ y _ j=>.ret (p ⟨stay,j.2⟩)
 refine bu (λ _=>?_) λ _=>?_
 ·unfold F3 FL vY;simp only[Y1];exact .ret (p ⟨stay,Wh (Og _ m) i⟩)
 refine bu (λ _=>bh (ME u x o) λ y _ j=>.ret ?_) λ _=>.ret (p ⟨stay,i⟩);obtain⟨⟨w',h1,q⟩, -⟩:=j
 exact⟨w',by rw[h1];exact YH _,GC.mono q (Vn ..),i⟩
end
def kg.lt{l:aa}(h:kg l):∀(d i:Nat) (a b:Int),l[i]? =some a→l[i+d+1]? =some b→a<b
 |0,i,a,b,h1,h2=>by
  have p:i+1<l.length:=by
   by_cases q:i+1<l.length
   ·exact q
   ·rw[Wn (by omega)]at h2;cases h2
  obtain⟨x,y,j,o,u⟩:=h.inc i p;rw[j]at h1;cases h1;rw[show i+0+1=i+1 from rfl,o]at h2;cases h2
  exact u
 |d+1,i,a,b,h1,h2=>by
  have p:i+(d+1)+1<l.length:=by
   by_cases q:i+(d+1)+1<l.length
   ·exact q
   ·rw[Wn (by omega)]at h2;cases h2
  obtain⟨x,y,j,o,u⟩:=h.inc i (by omega)
  rw[j]at h1;cases h1;have:=kg.lt h d (i+1) y b o (by rw[←h2];congr 1;omega)
  omega
def Uw(F:Nat):FQ F=wR F:=rfl
def OK{κ ν:Type}[DecidableEq κ]{q:κ}:∀{l:List (κ×ν)},(∀e∈l,e.1≠q)→az q l=none
 | [],_=>rfl
 |e::r,h=>by
  simp only[az];rw[if_neg (λ k=>h e (Yp ..) k.symm)];exact OK λ x i=>h x (Yn _ i)
def OL{κ ν:Type}[DecidableEq κ]{q:κ}(x:ν){y:ν}:∀{l:List (κ×ν)},az q l=some y→(bW q x l).length=l.length
 | [],h=>by cases h
 |e::r,h=>by
  simp only[az]at h;simp only[bW];by_cases k:q=e.1
  ·rw[if_pos k];rfl
  ·rw[if_neg k]at h;rw[if_neg k,Yh,Yh,OL x h]
abbrev KP:=Int×aa×Bool×(List (Int×ai))×Int×Bool×(List bx)×aa×aa×(List da)×(List cD)×(List (ax×Int))
def AW{ag:aa}{gs:List (Int×ai)}(o:CF ag)(i:Nat)(h:∀e∈gs,∃j<i,ag[j]? =some e.1){id:Int}(p:ag[i]? =some id):az id gs=none:=by
 refine OK λ e u q=>?_;obtain⟨j,hj,e1⟩:=h e u
 have:=o.ok.lt (i-j-1) j e.1 id e1 (by rw[←p];congr 1;omega)
 omega
def ZqI{ag:aa}{gs:List (Int×ai)}{i:Nat}(h:∀e∈gs,∃j<i,ag[j]? =some e.1){k:Int}(p:ag[i]? =some k)(x:ai):∀e,e∈bW k x gs→∃j,j<i+1∧ag[j]? =some e.1:=λ e o=>by
 rcases JU o with rfl|o
 ·exact⟨i,Vo _,p⟩
 ·obtain⟨j,h1,q⟩:=h e o;exact⟨j,by omega,q⟩
def w0:Wd:=⟨⟨λ _=>[],λ _=>0,λ _ _=>none,λ _ _=>0,λ _ _=>0⟩,λ _=>⟨0,[]⟩,[]⟩
def Au(ag:aa):eC ag w0:=by
 have hn:∀(L:Int→Lg) T,WL L T []:=λ L T k e h=>by simp at h
 refine⟨⟨λ T=>hn _ _,λ _ _=>rfl,λ T h=>absurd rfl h,λ i=>hn _ _,(λ T c d h=>by cases h),λ _ _ _=>rfl,λ v T h=>absurd rfl h,λ v T=>⟨YL _,λ _=>rfl⟩,λ v T m h=>absurd h (We _),λ T0 T m _ h=>absurd rfl h⟩,.inl rfl⟩
def Tx:DR 0 [] [] []:=⟨Tw,WI.nil _,λ e i=>(by cases i),.inl ⟨rfl,λ z Y _ _ h=>by cases h⟩⟩
def GJ(ag:aa)(i:Int)(rf:bD)(x y:Int):mf ag w0 i (.inl (ar.mk [] [] 0 rf x y)):=
 ⟨[],⟨Tx,λ x j=>by cases j⟩,λ _=>⟨rfl,rfl,YX _,YX _,rfl,.inl rfl,SY⟩⟩
def TJ(ag:aa)(o:CF ag)(C:Int×(List cD)×(List (ax×Int)))(tb:Bool)(h2:PK C.2.1):dh (uZ FF ag ag C tb FF 0 []) λ gs=>(∀i x,az i gs=some x→i∈ag∧mf ag w0 i x)∧∀i∈ag,∃x,az i gs=some x:=by
 have h7:=o.ok.n7;have:=dM (λ n (s:Nat×List (Int×ai))=>uZ FF ag ag C tb n (s.1:Int) s.2) (λ s=>s.1≤ag.length∧s.2.length≤s.1∧(∀i x,az i s.2=some x→i∈ag∧mf ag w0 i x)∧(∀e∈s.2,∃j<s.1,ag[j]? =some e.1)∧∀j i,j<s.1→ag[j]? =some i→∃x,az i s.2=some x) (λ s=>ag.length-s.1) (λ gs=>(∀i x,az i gs=some x→i∈ag∧mf ag w0 i x)∧∀i∈ag,∃x,az i gs=some x) (by
  rintro n ⟨i,gs⟩ ⟨T,V,O,M,H⟩ k;simp only at T V O M H k⊢;simp only[uZ];refine cq (λ a=>?_) λ a=>.ret ⟨O,λ id F=>?_⟩
  rotate_left
  ·obtain⟨j,hj,e⟩:=Wc F;exact H j id (by omega) (by rw[Y3 hj,e])
  refine bV (by omega) (cM (by simp;omega) λ id A Q=>?_)
  rw[Yf]at A;refine bJ (show ET FF=some (0,[])from rfl) ?_
  have hn:=AW o i M A;rw[show(!Option.isSome (az id gs)&&Nat.blt (List.length gs) bI)=true by
   rw[hn];simp only[Vx,V2,Bool.true_and];rw[Nat.blt_eq];unfold bI;omega,Y4,Uw]
  refine bh (M1 (gs:=bW id (.inl default) gs) o id Q (by rw[wy];rfl) _ _ _ 0 [] [] (GJ ag id default 0 0) C.1 tb) λ y _ R=>?_
  obtain⟨e,Y⟩:=y;obtain⟨x,rfl,U⟩:=R;rw[w1 (by omega)]
  have J:∀j u,j<i→ag[j]? =some u→u≠id:=λ j u hj e q=>by
   subst q;have:=o.ok.lt (i-j-1) j u u e (by rw[←A];congr 1;omega)
   omega
  refine k (i+1,_) ⟨by simp only;omega,?_,λ j z E=>?_,?_,λ j u hj p=>?_⟩ (by simp only;omega)
  ·have a1:=JT id (.inl default:ai) gs;have X:=wy (q:=id) (x:=(.inl default:ai)) gs;have a3:=OL x X;simp only;omega
  ·by_cases q:j=id
   ·subst q;rw[wy]at E;cases E;exact⟨Q,U⟩
   ·rw[xW q,xW q]at E;exact O j z E
  ·have h1:=ZqI M A (.inl default);intro e B;rcases JU B with rfl|B
   ·exact⟨i,Vo _,A⟩
   ·exact h1 e B
  ·simp only at hj⊢;by_cases q:j=i
   ·subst q;rw[A]at p;cases p;exact⟨x,wy _⟩
   ·have:=J j u (by omega) p
    rw[xW this,xW this];exact H j u (by omega) p) FF (0,[]) ⟨YL _,by simp,(λ i x h=>by cases h),(λ e B=>by cases B),λ j i h=>absurd h (We _)⟩ (by simp only[FF];omega)
 exact this
def AM(ag:aa)(B:∀x∈ag,x<9223372036854775808):dh (tq FF ag) λ o=>(∀e,o=.inl e→e=1∧py FF ag=some false)∧∀y:KP,o=.inr y→∃gs,y=(0,ag,false,gs,0,false,[],[0],[0],[],[],[])∧CO ag∧GC ag 0 w0 ag false gs [] [0] [0] [] []:=by
 unfold tq;refine bh (Jh ag) λ b z h=>bu (λ e=>.ret ⟨λ y E=>?_,λ y e=>by cases e⟩) λ e=>?_
 ·cases E;have e:b=false:=by simpa using e
  exact⟨rfl,by rw[z,e]⟩
 have e:b=true:=by simpa using e
 subst e;have j:CF ag:=⟨z,h rfl,B⟩;refine bJ (Jf ag (by have:=j.ok.n7;omega)) ?_
 simp only[EX,EF,Y1];refine bh (TJ ag j (0,[],[]) false ⟨by decide,λ p q=>by cases q⟩) λ gs _ A=>.ret ⟨(λ y e=>by cases e),λ y e=>?_⟩
 cases e;refine⟨gs,rfl,⟨z,h rfl,B,λ x u=>?_⟩,⟨rfl,rfl,Au ag,rfl,Yg _,TI,Yg _,⟨⟨by decide,λ p q=>by cases q⟩,λ p q=>by cases q⟩,A.1,A.2,(λ x u=>by cases u),List.Pairwise.nil⟩⟩
 obtain⟨i,C,e⟩:=Wc u;exact j.ok.El i x (by rw[Y3 C,e])
def seen:Option ai→qI
 |some (.inr u)=>qI.mk true u.bR.bE u.bR.Term u.bR.bn u.bR.ah u.bR.Trail.an u.count u.sum
 |_=>qI.mk false 0 0 0 0 0 0 0
def Mc(id:Int)(c:aa)(br:Bool)(gs:List (Int×ai))(last:Int)(tb:Bool)(l:List bx)(n7 n8:aa)(n9:List da)(n10:List cD)(m:List (ax×Int)):
 wI FF id c br gs last tb l n7 n8 n9 n10 m=some (seen (az id gs),(if(az id gs).isSome then 0 else 1),gs):=by
 unfold wI;cases h:az id gs with
 |none=>rfl
 |some x=>
  cases x with
  |inl d=>
   simp only[Vs,Wr,YS,decide_true,Bool.and_true,Y4];rw[wj h];rfl
  |inr u=>
   simp only[Vs,YG,YS,decide_true,Bool.and_true,Y4];rw[wj h];rfl
def Zq7(c:aa)(br:Bool)(gs:List (Int×ai))(last:Int)(tb:Bool)(l:List bx)(n7 n8:aa)(n9:List da)(n10:List cD)(m:List (ax×Int))(h:n10.length≤1000000):
 C7 FF c br gs last tb l n7 n8 n9 n10 m=some n10:=by
 unfold C7 F0 Ge;rw[show decide (n10.length≤bI)=true from Y2 (by unfold bI;omega)];rfl
def NT(c:aa)(br:Bool)(gs:List (Int×ai))(last:Int)(tb:Bool)(l:List bx)(n7 n8:aa)(n9:List da)(n10:List cD)(m:List (ax×Int))(h:l.length≤1000000000):
 tG FF c br gs last tb l n7 n8 n9 n10 m=some l:=by
 unfold tG Gf;rw[show decide (l.length≤bI)=true from Y2 (by unfold bI;omega)];rfl
def Znd(a:List bx)(h:a.length≤3000000):Dd FF a a=some true:=by
 have:=dM (λ n (i:Nat)=>Ae FF a a n (i:Int)) (λ i=>i≤a.length) (λ i=>a.length-i) (λ o=>o=.inr ()) (by
  intro n i h1 k;simp only[Ae];refine cq (λ q=>?_) λ _=>.ret rfl;refine bV (by omega) (cM (by simp;omega) λ x p _=>bV (by omega) (cM (by simp;omega) λ y j _=>bu (λ q=>?_) λ q=>?_))
  ·rw[p]at j;cases j;simp at q
  ·rw[w1 (by omega)]
   exact k (i+1) (by omega) (by omega)) FF 0 (YL _) (by simp only[FF];omega)
 obtain⟨o,e,rfl⟩:=this;unfold Dd;rw[show((0:Int))=((0:Nat):Int)from rfl,e]
 simp
def ZG(a:eU)(c:aa)(br:Bool)(gs:List (Int×ai))(last:Int)(tb:Bool)(l:List bx)(n7 n8:aa)(n9:List da)(n10:List cD)(m:List (ax×Int))(h:n10.length≤1000000)(ha: -9223372036854775808≤a.Id):
 dh (C3 FF a c br gs last tb l n7 n8 n9 n10 m) λ _=>True:=by
 unfold C3;refine bJ (Zq7 c br gs last tb l n7 n8 n9 n10 m h) ?_;rw[Ya];refine bh (Q:=λ t=>t=true→a.Id≤0∧0<n10.length) (cq (λ q=>.ret λ e=>⟨q,by have:=YM e;omega⟩) λ _=>.ret (by simp)) λ t _ i=>bh (Q:=λ _=>True) (bu (λ e=>?_) λ _=>.ret trivial) λ _ _ _=>.ret trivial
 obtain⟨h1,h2⟩:=i e;refine bh (Q:=λ n=>0≤n) (bu (λ _=>.ret (by decide)) λ e=>.ret ?_) λ n _ hn=>?_
 ·have e:a.Id≠0:=by simpa using e
  rw[dj (x:=a.Id+1) (by omega) (by omega),dj (by omega) (by omega)];omega
 ·have t0:0≤Int.tmod n (n10.length:Int):=Int.tmod_nonneg _ hn;have t1:Int.tmod n (n10.length:Int)<(n10.length:Int):=Int.tmod_lt_of_pos _ (by omega)
  exact bV (by omega) (bV t0 (cM (by omega) λ _ _ _=>cM (by omega) λ _ _ _=>.ret trivial))
section
variable {ag:aa}{a:eU}{c:aa}{br:Bool}{gs:List (Int×ai)}{last:Int}{tb:Bool}{l:List bx}{n7 n8:aa}{n9:List da}{n10:List cD}{m:List (ax×Int)}{b:Nat}{w:Wd}
def Xn(A:CO ag)(B:b≤2000000)(C:GC ag b w c br gs l n7 n8 n9 n10)(p:a.Kind=10):dh (pA FF a c br gs last tb l n7 n8 n9 n10 m) λ z=>∃e i,z=(e,c,br,i,last,tb,m,l,n7,n8,n9,n10)∧(∃w',w'.G=w.G∧GC ag b w' c br i l n7 n8 n9 n10)∧
 (e=3∨i=gs∧(e=1∧az a.Node gs=none∨e=4∧∃d,az a.Node gs=some (.inl d))∨e=0∧∃u j,az a.Node gs=some (.inr u)∧az a.Node i=some (.inr j)∧Qt u j):=by
 have no:∀{k:Int},(a.Kind==k)=true→k≠10→False:=λ h1 x=>x (by rw[←p];exact(Vy.1 h1).symm)
 unfold pA CD;simp only[Y1];refine bu (λ q=>(no q (by decide)).elim) λ _=>bu (λ q=>(no q (by decide)).elim) λ _=>bu (λ q=>(no q (by decide)).elim) λ _=>bu (λ q=>(no q (by decide)).elim) λ _=>bu (λ q=>(no q (by decide)).elim) λ _=>bu (λ q=>(no q (by decide)).elim) λ _=>bu (λ q=>(no q (by decide)).elim) λ _=>bu (λ q=>(no q (by decide)).elim) λ _=>bu (λ q=>(no q (by decide)).elim) λ _=>bu (λ _=>?_) λ q=>?_
 ·exact bh (ME A B C) λ y _ o=>.ret ⟨y.1,y.2,rfl,o.1,o.2⟩
 ·rw[p]at q;cases q
end
abbrev KO:=aa×Bool×(List (Int×ai))×Int×Bool×(List (ax×Int))×(List bx)×aa×aa×(List da)×(List cD)
def XR(ag:aa)(R:CO ag)(b:Nat)(hb:b≤2000000)(c:aa)(br:Bool)(gs:List (Int×ai))(last:Int)(tb:Bool)(l:List bx)(n7 n8:aa)(n9:List da)(n10:List cD)(m:List (ax×Int)){w:Wd}(A:GC ag b w c br gs l n7 n8 n9 n10):
 dh (yG FF ag FF 0 c br gs last tb l n7 n8 n9 n10 m) λ o=>o=.inl true∨∃j w',o=.inr (c,br,j,last,tb,l,n7,n8,n9,n10,m)∧GC ag b w' c br j l n7 n8 n9 n10:=by
 have h7:=R.ok.n7;have hl:l.length≤2000000:=by have:=A.le;omega
 have:=dM (λ n (s:Nat×List (Int×ai))=>yG FF ag n (s.1:Int) c br s.2 last tb l n7 n8 n9 n10 m) (λ s=>s.1≤ag.length∧∃w',GC ag b w' c br s.2 l n7 n8 n9 n10) (λ s=>ag.length-s.1) (λ o=>o=.inl true∨∃j w',o=.inr (c,br,j,last,tb,l,n7,n8,n9,n10,m)∧GC ag b w' c br j l n7 n8 n9 n10) (by
  rintro n ⟨i,gs⟩ ⟨Y,w,A⟩ k;simp only at Y A k⊢;simp only[yG];refine cq (λ q=>?_) λ q=>.ret (.inr ⟨gs,w,rfl,A⟩);refine bV (by omega) (cM (by simp;omega) λ id B hm=>bJ (Mc id c br gs last tb l n7 n8 n9 n10 m) (bJ (NT c br gs last tb l n7 n8 n9 n10 m (by omega)) (bV (by omega) (cM (by simp;omega) λ O p _=>?_))))
  rw[B]at p;cases p;refine bh (Xn (last:=last) (tb:=tb) (m:=m) R hb A rfl) λ z _ X=>?_;obtain⟨e,j,rfl,⟨w',my,C⟩,y⟩:=X
  simp only at y⊢;refine bV (by omega) (cM (by simp;omega) λ O p _=>?_)
  rw[B]at p;cases p;refine bJ (Mc id c br j last tb l n7 n8 n9 n10 m) ?_;have F:=C.br;refine bu (λ _=>.ret (.inl rfl)) λ J=>?_;have J:e≠3:=by simpa using J
  have key:(e=4∧(seen (az id gs)).Up=false∨e=0∧(seen (az id gs)).Up=true∧(seen (az id j)).an=(seen (az id gs)).ah)∧((seen (az id j)).Up=(seen (az id gs)).Up∧(seen (az id j)).bE=(seen (az id gs)).bE∧(seen (az id j)).Term=(seen (az id gs)).Term∧(seen (az id j)).bn=(seen (az id gs)).bn∧(seen (az id j)).ah=(seen (az id gs)).ah∧(seen (az id j)).Count=(seen (az id gs)).Count∧(seen (az id j)).Sum=(seen (az id gs)).Sum):=by
   rcases y with q|⟨rfl,q⟩|⟨e0,u,U,h1,h2,k1,k2,k3,k4,k5,k6,k7⟩
   ·exact absurd q J
   ·refine⟨.inl ?_,rfl,rfl,rfl,rfl,rfl,rfl,rfl⟩;rcases q with ⟨-,q⟩|⟨q,d,q2⟩
    ·obtain⟨x,hx⟩:=A.al id hm;rw[hx]at q;cases q
    ·exact⟨q,by rw[show az id j=some (.inl d)from q2];rfl⟩
   ·rw[show az id gs=some (.inr u)from h1,show az id j=some (.inr U)from h2]
    exact⟨.inr ⟨e0,rfl,k7⟩,rfl,k1,k2,k3,k4,k5,k6⟩
  obtain⟨V,s1,Z,s3,s4,T,s6,s7⟩:=key;refine bh (Q:=λ t=>t=false) ?_ λ t _ M=>bu (λ q=>by rw[M]at q;cases q) λ _=>?_
  ·rcases V with ⟨rfl,E⟩|⟨rfl,E,H⟩
   ·rw[E];exact .ret rfl
   ·rw[E];refine bu (λ q=>by cases q) λ _=>bu (λ q=>by cases q) λ _=>bu (λ _=>.ret ?_) λ _=>.ret rfl
    rw[H];simp
  refine bh (Q:=λ t=>t=false) ?_ λ t _ M=>bu (λ q=>by rw[M]at q;cases q) λ _=>?_
  ·rw[s1,Z,s3,s4,T,s6,s7];refine bu (λ q=>by simp at q) λ _=>bJ (NT c br j last tb l n7 n8 n9 n10 m (by omega)) (bJ (Znd l (by omega)) (bu (λ q=>by cases q) λ _=>bJ (show FX FF c br j last tb l n7 n8 n9 n10 m=some br from rfl) (.ret F)))
  ·rw[w1 (by omega)]
   exact k (i+1,j) ⟨by simp only;omega,w',C⟩ (by simp only;omega)) FF (0,gs) ⟨YL _,w,A⟩ (by simp only[FF];omega)
 exact this
def Gn(ag:aa)(b:Nat)(s:KO):Prop:=∃w,Gp ag b w (0,s)
def XQ(ag:aa)(F:CO ag)(j:List eU)(R:∀a∈j, -9223372036854775808≤a.Id)(s0:KO)(h:Gn ag 0 s0):
 dh (yF FF ag j FF 0 s0.1 s0.2.1 s0.2.2.1 s0.2.2.2.1 s0.2.2.2.2.1 s0.2.2.2.2.2.2.1 s0.2.2.2.2.2.2.2.1 s0.2.2.2.2.2.2.2.2.1 s0.2.2.2.2.2.2.2.2.2.1 s0.2.2.2.2.2.2.2.2.2.2 s0.2.2.2.2.2.1) λ o=>o=.inl true∨o=.inr ():=by
 have h7:=F.ok.n7;have:=dM (λ n (s:Nat×KO)=>yF FF ag j n (s.1:Int) s.2.1 s.2.2.1 s.2.2.2.1 s.2.2.2.2.1 s.2.2.2.2.2.1 s.2.2.2.2.2.2.2.1 s.2.2.2.2.2.2.2.2.1 s.2.2.2.2.2.2.2.2.2.1 s.2.2.2.2.2.2.2.2.2.2.1 s.2.2.2.2.2.2.2.2.2.2.2 s.2.2.2.2.2.2.1)
  (λ s=>s.1≤300∧Gn ag (s.1*4097) s.2) (λ s=>300-s.1) (λ o=>o=.inl true∨o=.inr ()) (by
  rintro n ⟨i,c,br,gs,last,tb,m,l,n7,n8,n9,n10⟩ ⟨X,w,J,O⟩ k;simp only at X J O k⊢;simp only[yF];have hp:=J.pk.pk.1;refine bh (Q:=λ t=>t=true→i<j.length∧i<300) (cq (λ q=>.ret λ e=>⟨by omega,by have:=YM e;omega⟩) λ _=>.ret (by simp)) λ t _ V=>bu (λ e=>?_) λ e=>.ret (.inr rfl)
  obtain⟨q1,q2⟩:=V e;refine jm (Pr:=λ r=>r=true) (Ps:=λ z:aa×Bool×(List (Int×ai))×Int×Bool×(List bx)×aa×aa×(List da)×(List cD)×(List (ax×Int))=>Gn ag ((i+1)*4097) (z.1,z.2.1,z.2.2.1,z.2.2.2.1,z.2.2.2.2.1,z.2.2.2.2.2.2.2.2.2.2,z.2.2.2.2.2.1,z.2.2.2.2.2.2.1,z.2.2.2.2.2.2.2.1,z.2.2.2.2.2.2.2.2.1,z.2.2.2.2.2.2.2.2.2.1)) ?_ (λ r h=>.ret (.inl (by rw[h]))) λ z E=>?_
  ·refine bV (by omega) (cM (by simp;omega) λ a _ ha=>bh (ZG a c br gs last tb l n7 n8 n9 n10 m (by omega) (R a ha)) λ a' _ _=>?_)
   refine bh (Ip (a:=a') (last:=last) (tb:=tb) F (by omega) J O) λ y _ hd=>?_
   obtain⟨e,c1,A,B,p,H,M,l1,a7,U,Z,C⟩:=y;obtain⟨w', -,u,x⟩:=hd;simp only at u x⊢;have u:=u.mono (b':=(i+1)*4097) (by omega)
   have x:M.length≤(i+1)*4097:=by omega
   refine bu (λ _=>.ret ⟨(λ r q=>by cases q),λ z q=>by cases q;exact⟨w',u,x⟩⟩) λ _=>?_
   refine jm (Pr:=λ r=>r=true) (Ps:=λ z:aa×Bool×(List (Int×ai))×Int×Bool×(List bx)×aa×aa×(List da)×(List cD)×(List (ax×Int))=>Gn ag ((i+1)*4097) (z.1,z.2.1,z.2.2.1,z.2.2.2.1,z.2.2.2.2.1,z.2.2.2.2.2.2.2.2.2.2,z.2.2.2.2.2.1,z.2.2.2.2.2.2.1,z.2.2.2.2.2.2.2.1,z.2.2.2.2.2.2.2.2.1,z.2.2.2.2.2.2.2.2.2.1)) ((XR ag F ((i+1)*4097) (by omega) c1 A B p H l1 a7 U Z C M u).mono λ o ho=>?_) (λ r h=>.ret ⟨(λ r' q=>by cases q;exact h),λ z q=>by cases q⟩) λ z E=>.ret ⟨(λ r q=>by cases q),λ z' q=>by cases q;exact E⟩
   rcases ho with rfl|⟨gs2,T,rfl,Y⟩
   ·exact⟨(λ r q=>by cases q;rfl),λ z q=>by cases q⟩
   ·exact⟨(λ r q=>by cases q),λ z q=>by cases q;exact⟨T,Y,x⟩⟩
  ·obtain⟨c,br,gs,last,tb,l,n7,n8,n9,n10,m⟩:=z;rw[w1 (by omega)]
   exact k (i+1,c,br,gs,last,tb,m,l,n7,n8,n9,n10) ⟨by simp only;omega,E⟩ (by simp only;omega)) FF (0,s0) ⟨YL _,by simpa using h⟩ (by simp only[FF];omega)
 exact this
def ZnK:FN FF=some true:=by kernel_rfl
def Zk6(ag:aa)(i:List eU)(u:∀x∈ag,x<9223372036854775808)(p:∀a∈i, -9223372036854775808≤a.Id):Ad FF ag i=some true:=by
 suffices h:dh (Ad FF ag i) λ b=>b=true by
  obtain⟨b,e,rfl⟩:=h;exact e
 unfold Ad;refine bJ ZnK ?_;simp only[YV,Y7];refine bh (AM ag u) λ o _ h=>?_;rcases o with y|y
 ·simp only[Wr];exact .ret rfl
 ·obtain⟨gs,rfl,j,q⟩:=h.2 y rfl;simp only[YG];refine bh (XQ ag j i p (ag,false,gs,0,false,[],[],[0],[0],[],[]) ⟨w0,q,Yg _⟩) λ o _ ho=>?_;rcases ho with rfl|rfl
  ·exact .ret rfl
  ·exact .ret rfl
def Zli(ag:aa)(i:List eU)(q:ag.length≤1048576∧∀y∈ag,eM IntKind.i64 y)(j:i.length≤1048576∧∀y∈i,eU.ok 1048576 y):Ad FF ag i=some true:=
 Zk6 ag i (λ x p=>by have:=(MC (q.2 x p)).2;omega) λ a o=>by
  obtain⟨-, -, -, -,h, -⟩:=j.2 a o;exact(MC h).1
end Go.T
