import Derived.Test.YtjpmdkgonlmddaaGreatDoorLF
import Derived.Test.YtjpmdkgonlmddaaGreatDoorLC
set_option linter.unusedVariables false
set_option maxRecDepth 20000
namespace Go.T
open Go Go.Ab
theorem HI(kind:Int)(fs:List bW)(hk:kind<9223372036854775808)(hf:∀f,f∈fs→okF f)(hl:fs.length≤100):cr (qO FF kind fs) fun b=>(cX b∧b.length≤6700000)∧(kind=2∨kind=3∨kind=4→b[0]? ≠some 1):=by
 unfold qO nj;simp only[Y1]
 refine tG (by unfold bm;omega) ?_
 have e:=Dx (bW.mk 1 kind []::fs) (fun f hm=>by
  rcases Yh.1 hm with rfl|q
  ·exact .inl ⟨rfl,hk⟩
  ·exact hf f q) (by simp;omega)
 refine tO e ?_
 cases hb:cV (bW.mk 1 kind []::fs)with
 |none=>exact .ret ⟨⟨(fun y hy=>by cases hy),by decide⟩,fun _=>by simp⟩
 |some b=>
  have h1:=Ba hb
  have h2:=(Hr hb).2
  simp only[Ye]at h2
  exact .ret ⟨⟨h1,by simp only;omega⟩,fun q=>by rw[Lx (.inr q) hb];intro z;cases z;omega⟩
theorem Ku(t:cD)(n tm:Int)(hl:t.Entries.length≤10000):cr (wx FF t n tm) fun r=>r.Entries.length≤10000:=by
 unfold wx
 refine tB (xH _ _ (by omega)) fun z _ _=>tB (Q:=fun _=>True) (tC (fun _=>.ret trivial) fun _=>.ret trivial) fun b _ _=>tC (fun _=>tB (GN t n (by omega)) fun y _ hy=>.ret ?_) fun _=>.ret (by simp)
 by_cases e:y.2=true
 ·obtain⟨-,k,e⟩:=hy.1 e
  rw[e,YH];omega
 ·rw[hy.2 (by simpa using e)];simp
theorem RZ(dm:bn)(c:List bj)(hc:c.length≤10000):cr (wD FF dm c FF 0) fun r=>0≤r∧r≤c.length∧r≤dm.Trail.Entries.length:=by
 have:=dk (fun n (i:Nat)=>wD FF dm c n (i:Int)) (fun i=>i≤c.length∧i≤dm.Trail.Entries.length) (fun i=>c.length-i) (fun r=>0≤r∧r≤(c.length:Int)∧r≤(dm.Trail.Entries.length:Int)) (by
  rintro n i ⟨h1,h2⟩ k;simp only[wD]
  refine tB (Q:=fun b=>b=true→i<c.length∧i<dm.Trail.Entries.length) (tT (fun a=>tT (fun b=>tG (by omega) (tE (by simp;omega) fun _ _ _=>tG (by omega) (tE (by simp;omega) fun _ _ _=>.ret fun _=>⟨by omega,by omega⟩))) fun _=>.ret (by simp)) fun _=>.ret (by simp)) fun b _ hb=>tC (fun e=>?_) fun _=>.ret ⟨by omega,by omega,by omega⟩
  obtain⟨a,b⟩:=hb e
  rw[w1 (by omega)]
  exact k (i+1) ⟨a,b⟩ (by omega)) FF 0 ⟨YC _,YC _⟩ (by simp only[FF];omega)
 exact this
def qZ(p q:Int×Int)(k:Nat)(l:List (List Int)):Prop:=l.length≤k∧(∀x,x∈l→cX x∧x.length≤6700000)∧kM p q l
theorem qZ.add{p q:Int×Int}{k:Nat}{l:List (List Int)}{x:List Int}(h:qZ p q k l)(hx:(cX x∧x.length≤6700000)∧x[0]? ≠some 1):qZ p q (k+1) (l++[x]):=
 ⟨by have:=h.1;simp;omega,fun y hy=>by
  rcases Yw.1 hy with q|q
  ·exact h.2.1 y q
  ·simp only[Ys]at q;subst q;exact hx.1,h.2.2.add hx.2⟩
theorem R0{p q:Int×Int}(dm:bn)(c s:Int)(k0:Nat)(l0:List (List Int))(ht:dm.Trail.Entries.length≤10000)(hT:∀e,e∈dm.Trail.Entries→e.Term<9223372036854775808)(h0:qZ p q k0 l0)(mV:k0≤10)(hs:0≤s):
 cr (wE FF dm c s FF 0 l0) (qZ p q (k0+10000)):=by
 have:=dk (fun n (q:Nat×List (List Int))=>wE FF dm c s n (q.1:Int) q.2) (fun z=>z.1≤dm.Trail.Entries.length-s.toNat∧qZ p q (k0+z.1) z.2) (fun z=>dm.Trail.Entries.length-s.toNat-z.1) (qZ p q (k0+10000)) (by
  rintro n ⟨i,l⟩ ⟨h1,h2⟩ k;simp only at h1 h2 k⊢;simp only[wE];simp only[JU,YH,Yb]
  refine tT (fun a=>?_) fun _=>.ret ⟨by have:=h2.1;omega,h2.2⟩
  have hl:=h2.1
  refine tG (by omega) (tE (by simp;omega) fun y _ hy=>?_)
  simp only[nj,xP,Y1]
  refine tB (HI 2 _ (by decide) (fun f hf=>?_) (by simp)) fun x _ hx=>tG (by unfold bm;omega) ?_
  ·simp only[Yh,WQ,or_false]at hf
   rcases hf with rfl|rfl|rfl
   ·exact sX (xf _)
   ·exact sX (hT _ (Wm hy))
   ·exact Dq _
  ·rw[w1 (by omega)]
   exact k (i+1,_) ⟨by simp only;omega,h2.add ⟨hx.1,hx.2 (.inl rfl)⟩⟩ (by simp only;omega)) FF (0,l0) ⟨YC _,h0⟩ (by simp only[FF];omega)
 exact this
theorem mD.F'{l:List Int}(h:mD l):∀(i:Nat) (a:Int),l[i]? =some a→1≤a
 |0,a,e=>by
  obtain⟨x,h1,h2⟩:=h.pos
  rw[h1]at e;cases e;exact h2
 |i+1,a,e=>by
  have hi:i+1<l.length:=by
   by_cases q:i+1<l.length
   ·exact q
   ·rw[Wq (by omega)]at e;cases e
  obtain⟨x,y,h1,h2,h3⟩:=h.inc i hi
  rw[h2]at e;cases e
  have:=mD.F' h i x h1
  omega
structure KK(k:bn):Prop where
 c:k.au.length≤7
 e:k.Trail.Entries.length≤4096
 tm:n63 k.Term
 vt:n63 k.bg
 bs:k.Trail.ar<9223372036854775808
 bt:k.Trail.aq<9223372036854775808
 et:∀e,e∈k.Trail.Entries→e.Term<9223372036854775808
theorem RK.kk{r:bn}(h:RK r):KK r:=by
 refine⟨h.ok.cf.n7,h.ok.tr.len,⟨h.ok.IM,by have:=h.ok.IL;omega⟩,?_,by have:=h.ok.tr.b1;omega,by have:=h.ok.tr.t1;omega,fun e he=>by have:=(h.ok.tr.Gc e he).2.1;omega⟩
 rcases h.ok.vt with q|q
 ·rw[q];exact⟨by decide,by decide⟩
 ·obtain⟨i,hi,e⟩:=Wg q
  have:=h.ok.cf.F' i r.bg (by rw[Y3 hi,e])
  exact⟨by omega,h.cb _ q⟩
theorem KK.nE{r:bn}(h:KK r)(a b c d e:Int)(v n m:List Int):KK (bn.mk r.Id r.au r.Term r.bg a b r.Trail r.bM c d e v n m):=⟨h.c,h.e,h.tm,h.vt,h.bs,h.bt,h.et⟩
theorem LQ(k dm:bn)(hk:k.Trail.Entries.length≤10000)(ht:KK dm):cr (xM FF k dm) (qZ (k.Term,k.bg) (dm.Term,dm.bg) 10010):=by
 unfold xM
 refine tB (Q:=fun b=>b=false→(k.Term,k.bg)=(dm.Term,dm.bg)) (tC (fun _=>.ret (by simp)) fun e=>.ret fun e2=>?_) fun b _ hb=>?_
 ·have e:k.Term=dm.Term:=by simpa using e
  have e2:k.bg=dm.bg:=by simpa using e2
  rw[e,e2]
 refine tB (Q:=qZ (k.Term,k.bg) (dm.Term,dm.bg) 1) (tC (fun _=>?_) fun e=>.ret ⟨by simp,(fun x hx=>by cases hx),by rw[hb e];exact kM.nil⟩) fun l1 _ h1=>?_
 ·simp only[nj,Y1]
  obtain⟨x,hx,iP,N0⟩:=Q9 ht.tm ht.vt
  refine tO hx (tG (by decide) (.ret ⟨by simp,fun y hy=>?_,kM.one (N0 _)⟩))
  rcases Yw.1 hy with q|q
  ·cases q
  ·simp only[Ys]at q;subst q;exact iP
 refine tB (Q:=fun _=>True) (tC (fun _=>.ret trivial) fun _=>tC (fun _=>.ret trivial) fun _=>.ret trivial) fun b2 _ _=>?_
 refine tB (Q:=fun y:List (List Int)×Int×Int×List bj=>qZ (k.Term,k.bg) (dm.Term,dm.bg) 2 y.1∧y.2.2.2.length≤10000) (tC (fun _=>?_) fun _=>.ret ⟨⟨by have:=h1.1;simp only;omega,h1.2⟩,hk⟩) fun y _ hy=>?_
 ·simp only[nj,xP,Y1]
  refine tB (HI 3 _ (by decide) (fun f hf=>?_) (by simp)) fun x _ hx=>tG (by have:=h1.1;unfold bm;omega) ?_
  ·simp only[Yh,WQ,or_false]at hf
   rcases hf with rfl|rfl|rfl
   ·exact sX ht.bs
   ·exact sX ht.bt
   ·exact Dq _
  ·exact tB (Ku _ _ _ hk) fun z _ hz=>.ret ⟨h1.add ⟨hx.1,hx.2 (.inr (.inl rfl))⟩,hz⟩
 obtain⟨l2,c1,c2,c3⟩:=y
 obtain⟨hy,hc⟩:=hy
 simp only at hy hc⊢
 have he:=ht.e
 refine tB (RZ dm c3 hc) fun s _ hs=>tG (by omega) (tG (by omega) (tG (by omega) ?_))
 refine tB (R0 dm c1 s 2 l2 (by omega) ht.et hy (by decide) (by omega)) fun l3 _ h3=>?_
 refine tB (Q:=fun _=>True) (tC (fun _=>.ret trivial) fun _=>.ret trivial) fun b3 _ _=>?_
 refine tB (Q:=qZ (k.Term,k.bg) (dm.Term,dm.bg) 10010) (tC (fun _=>?_) fun _=>.ret ⟨by have:=h3.1;omega,h3.2⟩) fun l4 _ h4=>.ret h4
 simp only[nj,Y1]
 refine tB (HI 4 _ (by decide) (fun f hf=>?_) (by simp)) fun x _ hx=>tG (by have:=h3.1;unfold bm;omega) (.ret ?_)
 ·simp only[Yh,WQ,or_false]at hf
  rw[hf];exact sX (xf _)
 ·have:=h3.add ⟨hx.1,hx.2 (.inr (.inr rfl))⟩
  exact⟨by have:=this.1;omega,this.2⟩
theorem RT(a b:List Int)(ha:a.length≤1000000):cr (BZ FF a b) fun r=>r=true→a=b:=by
 unfold BZ
 refine tC (fun _=>.ret (by simp)) fun e=>?_
 have e:a.length=b.length:=by
  have e:((a.length:Int)==(b.length:Int))=true:=by simpa using e
  exact Int.ofNat.inj (by simpa using e)
 refine tL (Pr:=fun r=>r=false) (Ps:=fun _=>a=b) ?_ (fun r h=>.ret (by rw[h];simp)) fun _ h=>.ret fun _=>h
 have:=dk (fun m (i:Nat)=>yC FF a b m (i:Int)) (fun i=>i≤a.length∧a.take i=b.take i) (fun i=>a.length-i) (fun o=>(∀r,o=.inl r→r=false)∧∀u,o=.inr u→a=b) (by
  rintro m i ⟨h1,h2⟩ k;simp only[yC]
  refine tT (fun h=>?_) fun h=>.ret ⟨(fun r q=>by cases q),fun u _=>by rwa [YV (by omega),YV (by omega)]at h2⟩
  refine tG (by omega) (tE (by simp;omega) fun x hx _=>tG (by omega) (tE (by simp;omega) fun y hy _=>tC (fun _=>.ret ⟨(fun r q=>by cases q;rfl),fun u q=>by cases q⟩) fun q=>?_))
  rw[Int.toNat_natCast]at hx hy
  rw[w1 (by omega)]
  have q:x=y:=by simpa using q
  exact k (i+1) ⟨by omega,by rw[Wc,Wc,hx,hy,h2,q]⟩ (by omega)) FF 0 ⟨YC _,by simp⟩ (by simp only[FF];omega)
 exact this
theorem LG(ks:List Int):∀(n:Nat) (b:List Int) (t:Int) (a:List bW),yv FF ks n b t a=mG FF ks n b t a
 |0,_,_,_=>rfl
 |n+1,b,t,a=>by
  simp only[yv,mG]
  cases ks[t.toNat]? with
  |none=>rfl
  |some k=>simp only[Y1,LG ks n]
theorem LF(ks b:List Int):yj FF b ks=kK FF ks b:=by
 unfold yj kK;rw[LG]
theorem DG(ks b:List Int)(hK:ks.length≤1000)(hk:∀k,k∈ks→k=1∨k=3)(hb:cX b)(hL:b.length≤1073741824):cr (kK FF ks b) fun y=>(y.1=0→oI ks y.2∧(ks=[]→b=[]))∧(y.1≠0→y.2=[]):=by
 rcases LS ks b hK hk hb hL with ⟨fs,h1,h2⟩|⟨-,e,he,h⟩
 ·refine⟨_,h2,fun _=>⟨h1.1,fun q=>?_⟩,by simp⟩
  subst q
  obtain⟨h3,a,h4,h5⟩:=h1
  cases fs with
  |nil=>simp[cV]at h4;subst h4;simpa using h5
  |cons f r=>exact absurd h3 (by simp[oI])
 ·exact⟨_,h,fun q=>absurd q he,fun _=>rfl⟩
theorem nH:∀{ks:List Int} {fs:List bW},oI ks fs→∀(i:Nat) (y:bW),fs[i]? =some y→y.N<9223372036854775808∧0≤y.N
 | [],[],_,i,y,h=>by simp at h
 | [],f::r,h,_,_,_=>absurd h (by simp[oI])
 |k::ks,[],h,_,_,_=>absurd h (by simp[oI])
 |k::ks,f::r,h,i,y,hy=>by
  obtain⟨h1,h2⟩:=h
  cases i with
  |zero=>
   simp only[List.getElem?_cons_zero,Y2]at hy
   subst hy
   obtain⟨-,h|h⟩:=h1
   ·exact⟨h.2.2.1,h.2.1⟩
   ·rw[h.2.1];exact⟨by decide,by decide⟩
  |succ i=>exact nH h2 i y (by simpa using hy)
def uZ:List (Int×List Int):=bw (4:Int) ((1:Int)::((1:Int)::[])) (bw (3:Int) ((1:Int)::((1:Int)::((1:Int)::((3:Int)::[])))) (bw (2:Int) ((1:Int)::((1:Int)::((1:Int)::((3:Int)::[])))) (bw (1:Int) ((1:Int)::((1:Int)::((1:Int)::[]))) [])))
theorem SE:DO FF=some uZ:=by kernel_rfl
theorem PQ:uZ=[(1,[1,1,1]),(2,[1,1,1,3]),(3,[1,1,1,3]),(4,[1,1])]:=by decide
theorem Qb(x:Int):(x=1∧ak x uZ=some [1,1,1])∨(x=2∧ak x uZ=some [1,1,1,3])∨(x=3∧ak x uZ=some [1,1,1,3])∨(x=4∧ak x uZ=some [1,1])∨ak x uZ=none:=by
 rw[PQ]
 by_cases h1:x=1
 ·subst h1;exact .inl ⟨rfl,by decide⟩
 by_cases h2:x=2
 ·subst h2;exact .inr (.inl ⟨rfl,by decide⟩)
 by_cases h3:x=3
 ·subst h3;exact .inr (.inr (.inl ⟨rfl,by decide⟩))
 by_cases h4:x=4
 ·subst h4;exact .inr (.inr (.inr (.inl ⟨rfl,by decide⟩)))
 ·refine .inr (.inr (.inr (.inr ?_)))
  simp[ak,h1,h2,h3,h4]
def rj(r:bn):bn:=bn.mk r.Id r.au r.Term r.bg 0 0 r.Trail r.bM r.Trail.ar 10 10 [] [] []
theorem De(r:bn)(hr:RK r)(a:Int)(b:Int)(t:cD)(s:List UInt8)(ht:t.Entries.length≤10000)(p:Int×Int)(hp:(a,b)=p):
 cr (Option.bind (np FF (bn.mk r.Id r.au a b r.bx r.bf t s r.aj r.Left r.bY r.bB r.Next r.Match)) fun y=>Option.bind (kz FF y) fun z=>some (y,z)) fun y=>y.2=true→RK y.1∧y.1.au=r.au∧y.1.Id=r.Id∧rj y.1=y.1∧(y.1.Term,y.1.bg)=p:=by
 have hm:=hr.ok.small
 refine tO (HS _ ⟨hm.c,by show t.Entries.length≤_;omega,hm.v,hm.n,hm.m⟩) (tB (HH _ ⟨hm.c,by show t.Entries.length≤_;omega,by simp,by simp,by simp⟩) fun z hz h=>.ret fun e=>?_)
 have e:z=true:=e
 subst e;exact⟨⟨hz,h rfl,hr.cb⟩,rfl,rfl,rfl,hp⟩
theorem RD(r:bn)(hr:RK r)(b:List Int)(hb:cX b)(hl:b.length≤1073741824):cr (xL FF r b) fun y=>y.2=true→RK y.1∧y.1.au=r.au∧y.1.Id=r.Id∧rj y.1=y.1∧(y.1.Term,y.1.bg)=hv (r.Term,r.bg) b:=by
 unfold xL
 have hm:=hr.ok.small
 have hT:=hr.ok.tr
 have Zn:=hT.last
 have Zo:=hT.b0
 refine tC (fun _=>.ret (by simp)) fun e=>tO SE ?_
 have hne:0<b.length:=by
  cases b with
  |nil=>simp at e
  |cons=>simp
 refine tE (by simpa using hne) fun x hx _=>?_
 rw[Int.toNat_zero]at hx
 have key:∀ks,(∀k,k∈ks→k=1∨k=3)→ks.length≤4→cr (yj FF b ks) fun y=>(y.1=0→oI ks y.2∧(ks=[]→b=[]))∧(y.1≠0→y.2=[]):=fun ks h1 h2=>by
  rw[LF];exact DG ks b (by omega) h1 hb hl
 have zt:∀(y:Int×List bW),cr (bif y.1 != 0 then some true else some (((List.map bW.c y.2).length:Int)==0)) fun c=>c=false→y.1=0:=fun y=>tC (fun _=>.ret (by simp)) fun e=>.ret fun _=>by simpa using e
 have w1:∀n:Int,0≤n→n<9223372036854775808→IntKind.wrap IntKind.i64 (n-r.Trail.ar)=n-r.Trail.ar:=fun n h1 h2=>dh (by omega) (by omega)
 have w2:IntKind.wrap IntKind.i64 (r.Trail.ar+(r.Trail.Entries.length:Int))=r.Trail.ar+(r.Trail.Entries.length:Int):=dh (by omega) (by omega)
 have w3:IntKind.wrap IntKind.i64 (r.Trail.ar+(r.Trail.Entries.length:Int)+1)=r.Trail.ar+(r.Trail.Entries.length:Int)+1:=dh (by omega) (by omega)
 have ua:=hT.len
 rcases Qb x with ⟨rfl,h⟩|⟨rfl,h⟩|⟨rfl,h⟩|⟨rfl,h⟩|h
 ·rw[h]
  simp only[Option.isSome_some,Y5,Yv]
  refine tB (key _ (by simp) (by simp)) fun y NY hy=>tB (zt y) fun c _ hc=>tC (fun _=>.ret (by simp)) fun e=>?_
  have hn:=(hy.1 (hc e)).1
  have hlen:=vX hn
  refine tE (by rw[hlen];decide) fun _ _ _=>tE (by rw[hlen];decide) fun z hz _=>tE (by simpa using hne) fun x' hx' _=>?_
  rw[Int.toNat_zero,hx]at hx';cases hx'
  simp only[show((1:Int)==1)=true from rfl,Y5]
  exact tE (by rw[hlen];decide) fun _ _ _=>tE (by rw[hlen];decide) fun z2 hz2 _=>De r hr _ _ _ _ (by omega) _ (JD hx (by rw[←LF];exact NY) hz hz2).symm
 ·rw[h]
  simp only[Option.isSome_some,Y5,Yv]
  refine tB (key _ (by simp) (by simp)) fun y _ hy=>tB (zt y) fun c _ hc=>tC (fun _=>.ret (by simp)) fun e=>?_
  have hn:=(hy.1 (hc e)).1
  have hlen:=vX hn
  refine tE (by rw[hlen];decide) fun z _ _=>tE (by rw[hlen];decide) fun z hz _=>tE (by simpa using hne) fun x' hx' _=>?_
  rw[Int.toNat_zero,hx]at hx';cases hx'
  simp only[show((2:Int)==1)=false from rfl,show((2:Int)==2)=true from rfl,Y5,Y8,Yb]
  obtain⟨n1,n0⟩:=nH hn _ _ hz
  rw[w2,w3,w1 z.N n0 n1]
  refine tB (Q:=fun c=>c=false→r.Trail.ar<z.N∧z.N≤r.Trail.ar+(r.Trail.Entries.length:Int)+1) (tT (fun _=>.ret (by simp)) fun a=>.ret fun q=>⟨by omega,by have:=We q;omega⟩) fun c _ hc=>tC (fun _=>.ret (by simp)) fun e=>?_
  obtain⟨q1,q2⟩:=hc e
  have w4:IntKind.wrap IntKind.i64 (z.N-r.Trail.ar-1)=z.N-r.Trail.ar-1:=dh (by omega) (by omega)
  simp only[w4]
  refine tG (by omega) (tG (by omega) (tG (by omega) (tO (xI _ (by rw[YD];unfold bm;omega)) ?_)))
  refine tE (by rw[hlen];decide) fun z _ _=>tE (by rw[hlen];decide) fun z _ _=>tE (by rw[hlen];decide) fun z _ _=>tE (by rw[hlen];decide) fun z _ _=>tG (by rw[YD];unfold bm;omega) (De r hr _ _ _ _ ?_ _ (AD (by rw[hx];decide)).symm)
  simp only[Ya,YD,Ye,YB];omega
 ·rw[h]
  simp only[Option.isSome_some,Y5,Yv]
  refine tB (key _ (by simp) (by simp)) fun y _ hy=>tB (zt y) fun c _ hc=>tC (fun _=>.ret (by simp)) fun e=>?_
  have hn:=(hy.1 (hc e)).1
  have hlen:=vX hn
  refine tE (by rw[hlen];decide) fun z _ _=>tE (by rw[hlen];decide) fun z hz _=>tE (by simpa using hne) fun x' hx' _=>?_
  rw[Int.toNat_zero,hx]at hx';cases hx'
  simp only[show((3:Int)==1)=false from rfl,show((3:Int)==2)=false from rfl,show((3:Int)==3)=true from rfl,Y5,Y8]
  refine tL (Pr:=fun q:bn×Bool=>q.2=false) (Ps:=fun q:Int×Int×List bj×List UInt8=>q.2.2.1.length≤10000) ?_ (fun q hq=>.ret (by rw[hq];simp)) (fun q hq=>De r hr _ _ _ _ hq _ (AD (by rw[hx];decide)).symm)
  refine tE (by rw[hlen];decide) fun z1 _ _=>tE (by rw[hlen];decide) fun z1 _ _=>tB (Ku _ _ _ (by omega)) fun t _ ht=>tE (by rw[hlen];decide) fun z1 _ _=>tE (by rw[hlen];decide) fun z1 _ _=>.ret ⟨(fun q e=>by cases e),fun q e=>by cases e;exact ht⟩
 ·rw[h]
  simp only[Option.isSome_some,Y5,Yv]
  refine tB (key _ (by simp) (by simp)) fun y _ hy=>tB (zt y) fun c _ hc=>tC (fun _=>.ret (by simp)) fun e=>?_
  have hn:=(hy.1 (hc e)).1
  have hlen:=vX hn
  refine tE (by rw[hlen];decide) fun z _ _=>tE (by rw[hlen];decide) fun z hz _=>tE (by simpa using hne) fun x' hx' _=>?_
  rw[Int.toNat_zero,hx]at hx';cases hx'
  simp only[show((4:Int)==1)=false from rfl,show((4:Int)==2)=false from rfl,show((4:Int)==3)=false from rfl,show((4:Int)==4)=true from rfl,Y5,Y8,Yb]
  obtain⟨n1,n0⟩:=nH hn _ _ hz
  refine tL (Pr:=fun q:bn×Bool=>q.2=false) (Ps:=fun q:Int×Int×List bj×List UInt8=>q.2.2.1.length≤10000) ?_ (fun q hq=>.ret (by rw[hq];simp)) (fun q hq=>De r hr _ _ _ _ hq _ (AD (by rw[hx];decide)).symm)
  rw[w2,w1 z.N n0 n1]
  refine tB (Q:=fun c=>c=false→r.Trail.ar≤z.N∧z.N≤r.Trail.ar+(r.Trail.Entries.length:Int)) (tT (fun _=>.ret (by simp)) fun a=>.ret fun q=>⟨by omega,by have:=We q;omega⟩) fun c _ hc=>tC (fun _=>.ret ⟨(fun q e=>by cases e;rfl),fun q e=>by cases e⟩) fun e=>?_
  obtain⟨q1,q2⟩:=hc e
  refine tG (by omega) (tG (by omega) (tG (by omega) (tO (xI _ (by rw[YD];unfold bm;omega)) (.ret ⟨(fun q e=>by cases e),fun q e=>by cases e;simp only[YD];omega⟩))))
 ·rw[h]
  simp only[Option.isSome_none,Y8]
  refine tB (DG [] b (by simp) (by simp) hb hl) fun y _ hy=>tB (zt y) fun c _ hc=>tC (fun _=>.ret (by simp)) fun e=>?_
  have:=(hy.1 (hc e)).2 rfl
  rw[this]at hne;simp at hne
theorem Ha(l:List Int)(h:l.length≤1000000):qX FF l=some l:=A' l (lim _ h)
def r0(id:Int)(ah:List Int):bn:=bn.mk id ah 0 0 0 0 (cD.mk 0 0 []) [] 0 10 10 [] [] []
theorem Sp(id:Int)(ah:List Int)(hl:ah.length≤1000000)(hc:∀x,x∈ah→x<9223372036854775808):cr (wb FF id ah) fun y=>y.2=0→y.1=r0 id ah∧RK (r0 id ah):=by
 unfold wb
 refine tO (Ha _ hl) (tB (HH (r0 id ah) ⟨hl,by simp[r0],by simp[r0],by simp[r0],by simp[r0]⟩) fun b e h=>tC (fun _=>.ret (by simp)) fun q=>.ret fun _=>⟨rfl,?_⟩)
 have q:b=true:=by simpa using q
 subst q;exact⟨e,h rfl,hc⟩
abbrev XQ:=bn×Int×Int×Fs×List bp
abbrev EH:=Int×Int×List Int×Int×Int×Int×Int×Int×Int×List bj×List UInt8×Int×Int×Int×List Int×List Int×List Int
def eR(q:EH):bn:=bn.mk q.2.1 q.2.2.1 q.2.2.2.1 q.2.2.2.2.1 q.2.2.2.2.2.1 q.2.2.2.2.2.2.1 (cD.mk q.2.2.2.2.2.2.2.1 q.2.2.2.2.2.2.2.2.1 q.2.2.2.2.2.2.2.2.2.1) q.2.2.2.2.2.2.2.2.2.2.1 q.2.2.2.2.2.2.2.2.2.2.2.1 q.2.2.2.2.2.2.2.2.2.2.2.2.1 q.2.2.2.2.2.2.2.2.2.2.2.2.2.1 q.2.2.2.2.2.2.2.2.2.2.2.2.2.2.1 q.2.2.2.2.2.2.2.2.2.2.2.2.2.2.2.1 q.2.2.2.2.2.2.2.2.2.2.2.2.2.2.2.2
theorem P2(id:Int)(ah:List Int)(rs:List (List Int))(hR:eu rs)(hl:rs.length≤1048576)(c:Int)(fs:Fs)(file:List UInt8)(n dO:Int)(l:List bp)(r:bn)(hr:RK r)(h1:r.au=ah)(h2:r.Id=id)(h3:rj r=r)(h4:(r.Term,r.bg)=(0,0)):
 cr (qS FF (rs,0,c,fs,file,n,dO,l) FF (rs.length:Int) 0 0 r.Id r.au r.Term r.bg r.bx r.bf r.Trail.ar r.Trail.aq r.Trail.Entries r.bM r.aj r.Left r.bY r.bB r.Next r.Match) fun o=>
  (∀y,o=.inl y→∃r,y=.inl (r,21,c,fs,l))∧∀y:EH,o=.inr y→RK (eR y)∧(eR y).au=ah∧(eR y).Id=id∧rj (eR y)=eR y∧((eR y).Term,(eR y).bg)=jZ (0,0) rs:=by
 have:=dk (fun m (s:Nat×bn)=>qS FF (rs,0,c,fs,file,n,dO,l) m (rs.length:Int) (s.1:Int) 0 s.2.Id s.2.au s.2.Term s.2.bg s.2.bx s.2.bf s.2.Trail.ar s.2.Trail.aq s.2.Trail.Entries s.2.bM s.2.aj s.2.Left s.2.bY s.2.bB s.2.Next s.2.Match)
  (fun s=>s.1≤rs.length∧RK s.2∧s.2.au=ah∧s.2.Id=id∧rj s.2=s.2∧(s.2.Term,s.2.bg)=jZ (0,0) (rs.take s.1)) (fun s=>rs.length-s.1) (fun o=>(∀y,o=.inl y→∃r,y=.inl (r,21,c,fs,l))∧∀y:EH,o=.inr y→RK (eR y)∧(eR y).au=ah∧(eR y).Id=id∧rj (eR y)=eR y∧((eR y).Term,(eR y).bg)=jZ (0,0) rs) (by
   rintro m ⟨i,r⟩ ⟨g0,g1,g2,g3,g4,g5⟩ k;simp only at g0 g1 g2 g3 g4 g5 k⊢;simp only[qS]
   refine tT (fun a=>?_) fun a=>.ret ⟨(fun y e=>by cases e),fun y e=>by cases e;exact⟨g1,g2,g3,g4,by rwa [YV (by omega)]at g5⟩⟩
   refine tG (by omega) (tE (by simp;omega) fun b Jf hb=>tB (RD r g1 b (hR b hb).2 (by have:=(hR b hb).1;omega)) fun y _ hy=>tC (fun _=>.ret ⟨(fun y e=>by cases e;exact⟨_,rfl⟩),fun y e=>by cases e⟩) fun e=>?_)
   obtain⟨q1,q2,q3,q4,q5⟩:=hy (by simpa using e)
   rw[Int.toNat_natCast]at Jf
   rw[w1 (by omega)]
   exact k (i+1,y.1) ⟨by simp only;omega,q1,q2.trans g2,q3.trans g3,q4,by simp only;rw[Wc,Jf,Option.toList_some,AK,←g5,q5];rfl⟩ (by simp only;omega)) FF (0,r) ⟨YC _,hr,h1,h2,h3,h4⟩ (by simp only[FF];omega)
 exact this
structure CF(ah:List Int):Prop where
 ck:pE FF ah=some true
 ok:mD ah
 lt:∀x,x∈ah→x<9223372036854775808
theorem Sw{ah:List Int}(eL:CF ah){id:Int}(h:id∈ah):cr (kz FF (r0 id ah)) fun b=>b=true:=by
 have h1:1≤id:=by
  obtain⟨i,hi,e⟩:=Wg h
  exact eL.ok.F' i id (by rw[Y3 hi,e])
 have hl:=eL.ok.n7
 have hin:cr (qN FF id (r0 id ah)) fun b=>b=true:=by
  unfold qN
  exact tC (fun _=>.ret rfl) fun _=>tB (wz ah id (by omega)) fun b _ hb=>.ret (hb.2 h)
 have h0:qN FF 0 (r0 id ah)=some true:=rfl
 have hc:kz FF (r0 id ah)=Option.bind (Option.bind (pE FF ah) fun Nt=>bif !Nt then some true else bif id==0 then some true else Option.bind (qN FF id (r0 id ah)) fun Ns=>bif !Ns then some true else some false) fun t=>bif t then some false else some true:=by
  have t1:lj FF (cD.mk 0 0 [])=some true:=by kernel_rfl
  have t2:mQ FF (cD.mk 0 0 [])=some (0,0):=by kernel_rfl
  unfold kz
  simp only[show(r0 id ah).au=ah from rfl,show(r0 id ah).Id=id from rfl,show(r0 id ah).bg=0 from rfl,show(r0 id ah).bf=0 from rfl,h0,Y1,show(r0 id ah).Trail=cD.mk 0 0 []from rfl,t1,t2]
  rfl
 rw[hc]
 refine tB (Q:=fun t=>t=false) (tO eL.ck ?_) fun t _ ht=>by subst ht;exact .ret rfl
 refine tC (fun e=>by cases e) fun _=>tC (fun e=>absurd (show id=0 by simpa using e) (by omega)) fun _=>tB hin fun b _ hb=>by subst hb;exact .ret rfl
theorem Kb{ah:List Int}(eL:CF ah){id:Int}(h:id∈ah):wb FF id ah=some (r0 id ah,0):=by
 obtain⟨b,hb,rfl⟩:=Sw eL h
 unfold wb
 rw[Ha _ (by have:=eL.ok.n7;omega)]
 simp only[Y1]
 rw[show kz FF (bn.mk id ah 0 0 0 0 (cD.mk 0 0 []) [] 0 10 10 [] [] [])=some true from hb]
 rfl
def EG(X:List Int)(R:List (List Int)):Prop:=∃k t,X=bH k R t∧k≤R.length∧eu R∧Un t
def NW(Y:List Int):Prop:=∀size R,mF FF Y≠some (size,true,R)
theorem EG.read{X:List Int}{R:List (List Int)}(h:EG X R)(hl:X.length≤1048576):∃size:Nat,mF FF X=some ((size:Int),true,R)∧R.length≤1048576∧(size=X.length→∃k,X=bH k R []∧k≤R.length):=by
 obtain⟨k,t,rfl,hk,hR,hu⟩:=h
 have hlen:=AM k R t
 refine⟨(bH k R t).length-t.length,?_,by omega,fun e=>?_⟩
 ·rw[G2 k R t (by omega) hR hu hl,Y4 hk]
 ·have ht:t.length≤(bH k R t).length:=by unfold bH;simp;omega
  have:t=[]:=WD (by
   have h1:1≤(cw (bJ k)).length:=by have:=GD (bJ k);omega
   have h2:(bH k R t).length=(cw (bJ k)).length+((R.flatMap cw).length+t.length):=by unfold bH;simp
   omega)
  subst this;exact⟨k,rfl,hk⟩
structure DR(c:Int)(fs:Fs)(l:List bp)(R:List (List Int)):Prop where
 di:DI c fs
 wi:WI fs l
 al:∀e,e∈fs→∃z,1≤z∧z≤999999999∧e.1=ai z
 ct:(R=[]∧∀z Y,1≤z→z≤999999999→ak (ai z) fs=some Y→NW Y)∨
  ∃f X,1≤f∧f≤999999999∧ak (ai f) fs=some X∧EG X R∧(∀z Y,f<z→z≤999999999→ak (ai z) fs=some Y→NW Y)∧∀w,w∈l→w.name≠ai f
theorem Tr(fs:Fs):(iB fs).Pairwise (fun a b=>b≤a):=by
 unfold iB;rw[List.pairwise_reverse]
 have:=List.pairwise_mergeSort (le:=fun x y:Int=>decide (x≤y)) (fun a b c h1 h2=>by simp only[Yx]at*;omega) (fun a b=>by simp only[Bool.or_eq_true,Yx];omega) (((fY (fs.map Prod.fst)).map jz).filter fun z=>decide (0<z))
 exact this.imp fun h=>YI h
structure RJ(R:List (List Int))(zs:List Nat)(c:Int)(fs:Fs)(rs:List (List Int))(cl:Bool)(file:List UInt8)(last:Nat)(l:List bp):Prop where
 di:DI c fs
 wi:WI fs l
 al:∀e,e∈fs→∃z,1≤z∧z≤999999999∧e.1=ai z
 de:zs.Pairwise (fun a b=>b<a)
 yT:∀z,z∈zs→1≤z∧z≤999999999∧∃x,ak (ai z) fs=some x
 la:last≤999999999
 fl:(file=[]∧rs=[]∧cl=false∧(∀e,e∈fs→∃z,z∈zs∧e.1=ai z)∧DR c fs l R)∨
  ∃f X size,file=ai f∧1≤f∧f≤last∧(∀z,z∈zs→z<f)∧ak (ai f) fs=some X∧EG X R∧rs=R∧mF FF X=some (((size:Nat):Int),true,R)∧cl=decide (size=X.length)∧(∀w,w∈l→w.name≠ai f)∧∀e,e∈fs→(∃z,z∈zs∧e.1=ai z)∨e.1=ai f
theorem J2{q:List UInt8}{l:List bp}{w:bp}(h:w∈fx q l):w∈l∧w.name≠q:=by
 have:=Wp.1 h
 exact⟨this.1,by simpa using this.2⟩
theorem P7(R:List (List Int)):∀(zs:List Nat) (c:Int) (fs:Fs) (rs:List (List Int)) (cl:Bool) (l:List bp) (file:List UInt8) (last:Nat) (dO:Int),RJ R zs c fs rs cl file last l→(file≠[]→dO=(rs.length:Int))→
 ∃c' fs' eA xz l' im eH iM,kB FF (zs.map (fun n:Nat=>(n:Int))) c fs rs cl l file (last:Int) dO=some (c',fs',eA,xz,l',im,((eH:Nat):Int),iM)∧RJ R [] c' fs' eA xz im eH l'∧(im≠[]→iM=(eA.length:Int)):=by
 intro zs
 induction zs with
 |nil=>
  intro c fs rs cl l file last dO h hc
  exact⟨c,fs,rs,cl,l,file,last,dO,by rw[Vr];rfl,h,hc⟩
 |cons z zs ih=>
  intro c fs rs cl l file last dO h hc
  obtain⟨z1,z2,x,hx⟩:=h.yT z (Yl ..)
  have zZ:=List.pairwise_cons.1 h.de
  have Cv:=oY hx
  have iu:=uo Cv
  simp only at iu
  have hle:=h.di.le
  have hl:=h.wi.len h.di
  have Fx:=h.la
  obtain⟨size,whole,pq,hr, -⟩:=Tz x (h.di.vO _ Cv) (by omega)
  rw[Yp,P6 z z2 _ c fs rs cl l file (last:Int) dO h.di (by omega) x hx size whole pq hr,NK]
  by_cases j9:file≠[]∨whole=false
  ·rw[if_pos j9]
   have hD:=h.di.del (ai z) x hx
   have iW:∀p,p≠ai z→ak p (dI (ai z) fs)=ak p fs:=fun p hp=>HD hp fs
   have mh:∀e,e∈dI (ai z) fs→e∈fs∧e.1≠ai z:=fun e he=>⟨(Hg fs).subset he,DC.1 (Hv h.di.nk) e he⟩
   have hzs:∀z',z'∈zs→ai z'≠ai z:=fun z' hz' q=>by
    have:=zZ.1 z' hz'
    have:=wa (h.yT z' (Yk _ hz')).2.1 z2 q
    omega
   have tY:∀Y,ak (ai z) (dI (ai z) fs)=some Y→False:=fun Y q=>by rw[Hv h.di.nk]at q;cases q
   have hN:RJ R zs (c-(x.length:Int)) (dI (ai z) fs) rs cl file (max z last) (fx (ai z) l):=by
    refine⟨hD,h.wi.del _,fun e he=>h.al e (mh e he).1,zZ.2,fun z' hz'=>?_,by omega,?_⟩
    ·obtain⟨a,b,x',hx'⟩:=h.yT z' (Yk _ hz')
     exact⟨a,b,x',by rw[iW _ (hzs z' hz'),hx']⟩
    ·rcases h.fl with ⟨q1,q2,q3,q4,q5⟩|⟨f,X,sz,q1,q2,q3,q4,q5,q6,q7,q8,q9,Co,ET⟩
     ·refine .inl ⟨q1,q2,q3,fun e he=>?_,hD,h.wi.del _,fun e he=>h.al e (mh e he).1,?_⟩
      ·obtain⟨he1,xu⟩:=mh e he
       obtain⟨z',hz',hq⟩:=q4 e he1
       rcases Yh.1 hz' with rfl|hz'
       ·exact absurd hq xu
       ·exact⟨z',hz',hq⟩
      ·have hw:whole=false:=j9.resolve_left (fun k=>k q1)
       rcases q5.ct with ⟨a1,a2⟩|⟨f,X,f1,f2,f3,f4,f5,f6⟩
       ·refine .inl ⟨a1,fun z' Y b1 b2 b3=>?_⟩
        by_cases k:ai z'=ai z
        ·rw[k]at b3;exact(tY Y b3).elim
        ·rw[iW _ k]at b3;exact a2 z' Y b1 b2 b3
       ·have hfz:ai f≠ai z:=fun k=>by
         rw[k,hx]at f3;cases f3
         obtain⟨sz,r1, -⟩:=f4.read (by omega)
         rw[r1]at hr;cases hr;cases hw
        refine .inr ⟨f,X,f1,f2,by rw[iW _ hfz];exact f3,f4,fun z' Y b1 b2 b3=>?_,fun w hw=>f6 w (J2 hw).1⟩
        by_cases k:ai z'=ai z
        ·rw[k]at b3;exact(tY Y b3).elim
        ·rw[iW _ k]at b3;exact f5 z' Y b1 b2 b3
     ·have hfz:ai f≠ai z:=fun k=>by
       have:=q4 z (Yl ..)
       have:=wa (by omega) z2 k
       omega
      refine .inr ⟨f,X,sz,q1,q2,by omega,fun z' hz'=>q4 z' (Yk _ hz'),by rw[iW _ hfz];exact q5,q6,q7,q8,q9,fun w hw=>Co w (J2 hw).1,fun e he=>?_⟩
      obtain⟨he1,xu⟩:=mh e he
      rcases ET e he1 with ⟨z',hz',hq⟩|hq
      ·rcases Yh.1 hz' with rfl|hz'
       ·exact absurd hq xu
       ·exact .inl ⟨z',hz',hq⟩
      ·exact .inr hq
   exact ih _ _ rs cl (fx (ai z) l) file (max z last) dO hN hc
  ·rw[if_neg j9]
   have qd:file=[]:=Classical.byContradiction fun q=>j9 (.inl q)
   have hw:whole=true:=by
    cases whole with
    |true=>rfl
    |false=>exact absurd (.inr rfl) j9
   subst hw
   have hN:RJ R zs c fs pq (decide (size=x.length)) (ai z) (max z last) l∧pq=R:=by
    rcases h.fl with ⟨q1,q2,q3,q4,q5⟩|⟨f,X,sz,q1,_⟩
    ·
     rcases q5.ct with ⟨a1,a2⟩|⟨f,X,f1,f2,f3,f4,f5,f6⟩
     ·exact absurd hr (a2 z x z1 z2 hx _ _)
     ·have hfz:f=z:=by
       obtain⟨z',hz',hq⟩:=q4 _ (oY f3)
       have hz2:=h.yT z' hz'
       have e:=wa f2 hz2.2.1 hq
       subst e
       rcases Yh.1 hz' with e|hz'
       ·exact e
       ·have:=zZ.1 f hz'
        exact absurd hr (f5 z x this z2 hx _ _)
      subst hfz;rw[hx]at f3;cases f3
      obtain⟨sz,r1, -⟩:=f4.read (by omega)
      have hsz:sz=size∧pq=R:=by rw[r1]at hr;cases hr;exact⟨rfl,rfl⟩
      obtain⟨rfl,rfl⟩:=hsz
      refine⟨⟨h.di,h.wi,h.al,zZ.2,fun z' hz'=>h.yT z' (Yk _ hz'),by omega,.inr ⟨f,x,sz,rfl,z1,by omega,fun z' hz'=>zZ.1 z' hz',hx,f4,rfl,r1,rfl,f6,fun e he=>?_⟩⟩,rfl⟩
      obtain⟨z',hz',hq⟩:=q4 e he
      rcases Yh.1 hz' with rfl|hz'
      ·exact .inr hq
      ·exact .inl ⟨z',hz',hq⟩
    ·rw[qd]at q1
     exact absurd q1.symm (C7 f)
   exact ih _ _ pq _ l (ai z) (max z last) (pq.length:Int) hN.1 fun _=>rfl
theorem PH{k:Nat}{rs:List (List Int)}(hk:rs.length<k)(hk2:k≤1048576)(h:eu rs)(hl:(bH k rs []).length≤1048576):NW (bH k rs []):=fun size R q=>by
 rw[G2 k rs [] (by omega) h rG hl,Ym (by omega)]at q
 cases q
theorem rL{f z:Nat}{X Y:List Int}(hf:f≤999999999)(hz:z≤999999999)(h:ak (ai z) [(ai f,X)]=some Y):z=f∧Y=X:=by
 simp only[ak]at h;split at h
 ·rename_i e;cases h;exact⟨wa hz hf e,rfl⟩
 ·cases h
structure UD(f:Nat)(rs:List (List Int))(X:List Int):Prop where
 f1:1≤f
 f2:f≤999999999
 k:∃k,X=bH k rs []∧k≤rs.length
 rc:eu rs
 xl:X.length≤1048576
theorem KW{fs:Fs}{f:Nat}{X:List Int}(hn:(fs.map Prod.fst).Nodup)(ha:∀e,e∈fs→e.1=ai f)(hg:ak (ai f) fs=some X):fs=[(ai f,X)]:=by
 match fs with
 | []=>cases hg
 | [e]=>
  have:=ha e (Yl ..)
  obtain⟨a,b⟩:=e
  simp only at this;subst this;simp only[ak,Yi]at hg;cases hg;rfl
 |e::g::r=>
  exfalso
  have h1:=ha e (Yl ..)
  have h2:=ha g (Yk _ (Yl ..))
  simp only[Yp,Va,Yh]at hn;exact hn.1 (.inl (h1.trans h2.symm))
theorem KU{f:Nat}{X:List Int}{l:List bp}(h:WI [(ai f,X)] l)(hw:∀w,w∈l→w.name≠ai f):l=[]:=by
 match l with
 | []=>rfl
 |w::r=>
  exfalso
  have h1:=h.pos w (Yl ..)
  have h2:=Dw h.pos (Yl ..)
  have h3:=h.le w.name
  have h4:=hw w (Yl ..)
  simp only[ak,if_neg h4,Option.getD_none,YB]at h3;omega
theorem PZ(c:Int)(fs:Fs)(l:List bp)(R:List (List Int))(h:DR c fs l R):
 (∃c' fs' l',s9 FF c fs l=some (.inl (3,c',fs',[],l'))∧DR c' fs' l' R)∨
 ∃f n X,s9 FF c fs l=some (.inr (R,0,(X.length:Int),[(ai f,X)],ai f,((n:Nat):Int),(R.length:Int),[]))∧UD f R X∧f≤n∧n≤999999999:=by
 have hD:=h.di
 obtain⟨zs,z1,z2,z3,z4⟩:=Sr fs hD.nk
 have zY:zs.Pairwise (fun a b=>b<a):=by
  have h1:=Tr fs
  rw[z1,List.pairwise_map]at h1
  exact(h1.and z2).imp fun⟨a,b⟩=>by omega
 have eg:∀e,e∈fs→∃z,z∈zs∧e.1=ai z:=fun e he=>by
  obtain⟨z,a,b,q⟩:=h.al e he
  exact z4 e he (by rw[q,Rn a b];omega)
 have hI:RJ R zs c fs [] false [] 0 l:=⟨hD,h.wi,h.al,zY,z3,by omega,.inl ⟨rfl,rfl,rfl,eg,h⟩⟩
 obtain⟨c',fs',eA,xz,l',im,eH,iM,g1,g2,gc⟩:=P7 R zs c fs [] false l [] 0 0 hI fun q=>absurd rfl q
 rw[P0 c fs l hD,z1,show kB FF (zs.map (fun n:Nat=>(n:Int))) c fs [] false l [] 0 0=_ from g1,Y1]
 have Fx:=g2.la
 have hle:=g2.di.le
 have hl':=g2.wi.len g2.di
 have key:xz=false→eA=R→R.length≤1048576→eu R→(∀e,e∈base im fs'→False)→(∀k:Nat,eH<k→k≤999999999→ak (ai k) fs'=none)→(im=[]∨∃x,ak im fs'=some x)→DR c' fs' l' R→(∀f X,ak (ai f) fs'=some X→f≤999999999→f≤eH)→
  (∃c2 Ju l2,ux (c',fs',eA,xz,l',im,(eH:Int),iM)=some (.inl (3,c2,Ju,[],l2))∧DR c2 Ju l2 R)∨
  ∃f n X,ux (c',fs',eA,xz,l',im,(eH:Int),iM)=some (.inr (R,0,(X.length:Int),[(ai f,X)],ai f,((n:Nat):Int),(R.length:Int),[]))∧UD f R X∧f≤n∧n≤999999999:=by
  intro hcl hrs zA hR hno hfr FM j8 mj;subst hcl;subst hrs
  rcases L2 eA im eH iM c' fs' l' zA (fun x hx=>(hR x hx).2) Fx g2.di (by omega) hfr FM with ⟨g,x,hx,iP⟩|⟨c2,c3,Pe,l3,g,_,gd,gq,gf⟩|⟨k1,k2,c3,l3,g,k3,k4,k5,kw⟩
  ·have:=(hR x hx).1
   omega
  ·refine .inl ⟨c3,Pe,l3,Q2 g,?_⟩
   obtain⟨d1,d2⟩:=gd g2.wi
   rcases gf with rfl|⟨_,n9,j,hj,rfl⟩
   ·refine⟨d1,d2,j8.al,?_⟩
    rcases j8.ct with a|⟨f,X,f1,f2,f3,f4,f5,f6⟩
    ·exact .inl a
    ·refine .inr ⟨f,X,f1,f2,f3,f4,f5,fun w hw=>?_⟩
     rcases gq w hw with q|q
     ·exact f6 w q
     ·have:=mj f X f3 f2
      intro e;rw[q]at e;unfold ai at e
      have:=Dm (a:=eH+1) (b:=f) (by omega) (by omega) (WG e)
      omega
   ·have fD:=hfr (eH+1) (by omega) n9
    have ho:∀z Y,z≤999999999→ak (ai z) (fs'++[(ai (eH+1),bH eA.length (eA.take j) [])])=some Y→z=eH+1∧Y=bH eA.length (eA.take j) []∨ak (ai z) fs'=some Y:=fun z Y hz q=>by
     cases e:ak (ai z) fs' with
     |some W=>rw[Bb e]at q;cases q;exact .inr rfl
     |none=>rw[wj e]at q;exact .inl (rL n9 hz q)
    have hm:=uo (oY (show ak (ai (eH+1)) (fs'++[(ai (eH+1),bH eA.length (eA.take j) [])])=some _ by rw[wj fD];exact pA _ _))
    simp only at hm
    have:=d1.le
    have hnw:NW (bH eA.length (eA.take j) []):=PH (by rw[YD];omega) (by omega) (fun x hx=>hR x (YN hx)) (by omega)
    refine⟨d1,d2,fun e he=>?_,?_⟩
    ·rcases Yw.1 he with he|he
     ·exact j8.al e he
     ·simp only[Ys]at he;subst he;exact⟨eH+1,by omega,n9,rfl⟩
    ·rcases j8.ct with ⟨a1,a2⟩|⟨f,X,f1,f2,f3,f4,f5,f6⟩
     ·refine .inl ⟨a1,fun z Y b1 b2 b3=>?_⟩
      rcases ho z Y b2 b3 with ⟨-,rfl⟩|q
      ·exact hnw
      ·exact a2 z Y b1 b2 q
     ·refine .inr ⟨f,X,f1,f2,Bb f3,f4,fun z Y b1 b2 b3=>?_,fun w hw=>?_⟩
      ·rcases ho z Y b2 b3 with ⟨-,rfl⟩|q
       ·exact hnw
       ·exact f5 z Y b1 b2 q
      ·rcases gq w hw with q|q
       ·exact f6 w q
       ·rw[q];intro e
        have:=wa n9 f2 e
        have:=mj f X f3 f2
        omega
  ·right
   have hb:base im fs'=[]:=List.eq_nil_iff_forall_not_mem.2 hno
   rw[hb,YL]at g k3 kw
   have hX:(bH eA.length eA []).length≤1048576:=by
    have:=k3.le
    rw[vZ]at this;omega
   have jo:l3=[]:=KU (kw g2.wi) fun w hw=>(k4 w hw).2.1
   have z8:c3=((bH eA.length eA []).length:Int):=by have:=k3.dV;rwa [vZ]at this
   refine⟨eH+1,eH+1,bH eA.length eA [],?_,⟨by omega,k2,⟨_,rfl,Yg _⟩,k1,hX⟩,Yg _,k2⟩
   have:=Pz g
   rw[jo,z8]at this;exact this
 rcases g2.fl with ⟨q1,q2,q3,q4,q5⟩|⟨f,X,sz,q1,q2,q3,q4,q5,q6,q7,q8,q9,Co,ET⟩
 ·have hno:fs'=[]:=List.eq_nil_iff_forall_not_mem.2 fun e he=>by
   obtain⟨z,hz,_⟩:=q4 e he;cases hz
  have F2:R=[]:=by
   rcases q5.ct with a|⟨f,X,f1,f2,f3,_⟩
   ·exact a.1
   ·rw[hno]at f3;cases f3
  refine key q3 (by rw[q2,F2]) (by rw[F2];simp) (by rw[F2];intro r hr;cases hr) (by rw[q1,hno];intro e he;cases he) (fun k _ _=>by rw[hno];rfl) (.inl q1) q5 (fun f X h1 h2=>by rw[hno]at h1;cases h1)
 ·have Oj:∀e,e∈fs'→e.1=ai f:=fun e he=>by
   rcases ET e he with ⟨z,hz,_⟩|q
   ·cases hz
   ·exact q
  have hone:=KW g2.di.nk Oj q5
  have iu:=uo (oY q5)
  simp only at iu
  obtain⟨IN,r1,r2,r3⟩:=q6.read (by omega)
  have hsz:IN=sz:=by rw[q8]at r1;cases r1;rfl
  subst hsz
  have Jn:eu R:=by obtain⟨_,_,_,_,a,_⟩:=q6;exact a
  by_cases hs:IN=X.length
  ·obtain⟨k,e1,e2⟩:=r3 hs
   right
   rw[q9,Y4 hs,q1,gc (by rw[q1];exact C7 f)]
   have hl0:l'=[]:=KU (f:=f) (X:=X) (by rw[←hone];exact g2.wi) Co
   have hc0:c'=(X.length:Int):=by have:=g2.di.dV;rwa [hone,vZ]at this
   refine⟨f,eH,X,?_,⟨q2,by omega,⟨k,e1,e2⟩,Jn,by omega⟩,q3,Fx⟩
   rw[S7,q7,hone,hl0,hc0]
  ·refine key (by rw[q9,Ym hs]) q7 r2 Jn ?_ ?_ (.inr ⟨X,by rw[q1];exact q5⟩) ⟨g2.di,g2.wi,g2.al,.inr ⟨f,X,q2,by omega,q5,q6,fun z Y b1 b2 b3=>?_,Co⟩⟩ (fun z Y b1 b2=>?_)
   ·intro e he
    rw[q1,base,if_neg (C7 f),hone,KR]at he;cases he
   ·intro k h1 h2
    cases e:ak (ai k) fs' with
    |none=>rfl
    |some Y=>
     rw[hone]at e
     have:=(rL (by omega) h2 e).1;omega
   ·rw[hone]at b3
    have:=(rL (by omega) b2 b3).1;omega
   ·rw[hone]at b1
    have:=(rL (by omega) b2 b1).1;omega
theorem L0:∀(rs:List (List Int)) (q:List Int),eu rs→q<+:rs.flatMap cw→∃j t,q=(rs.take j).flatMap cw++t∧j≤rs.length∧Un t
 | [],q,_,h=>⟨0,[],by rw[List.flatMap_nil,List.prefix_nil]at h;simp[h],Yg _,rG⟩
 |r::rs,q,hR,h=>by
  rw[Vl]at h
  have hr:=hR r (Yl ..)
  by_cases k:q.length<(cw r).length
  ·exact⟨0,q,by simp,YC _,Da r q hr.1 hr.2 (WA h (WU ..) (by omega)) k⟩
  ·obtain⟨q',rfl⟩:cw r<+:q:=WA (WU ..) h (by omega)
   have h':q'<+:rs.flatMap cw:=(List.prefix_append_right_inj _).1 h
   obtain⟨j,t,e,h1,h2⟩:=L0 rs q' (fun x hx=>hR x (Yk _ hx)) h'
   exact⟨j+1,t,by rw[e,List.take_succ_cons,Vl,Yq],by simp only[Ye];omega,h2⟩
theorem Qa{b:List Int}(h:Un b):NW b:=fun size R q=>by
 obtain⟨e,he,hc⟩:=h
 unfold mF at q;rw[hc,Y1]at q;simp only at q
 rw[show((e != 0)=true)from by simpa using he,Y5]at q
 cases q
theorem PI{k:Nat}{rs:List (List Int)}{Y:List Int}(hk:rs.length<k)(hk2:k≤1048576)(h:eu rs)(hl:(bH k rs []).length≤1048576)(hp:Y<+:bH k rs []):NW Y:=by
 have hlen:=hp.length_le
 have hp2:(bJ k).length≤10:=(oZ 9 k).2
 by_cases q:Y.length<(cw (bJ k)).length
 ·exact Qa (Da (bJ k) Y (by omega) (AY _ _) (WA hp (by unfold bH;exact WU ..) (by omega)) q)
 ·obtain⟨Z,rfl⟩:cw (bJ k) <+:Y:=WA (by unfold bH;exact WU ..) hp (by omega)
  have h':Z<+:rs.flatMap cw:=by
   unfold bH at hp;rw[YE]at hp;exact(List.prefix_append_right_inj _).1 hp
  obtain⟨j,t,e,h1,h2⟩:=L0 rs Z h h'
  have hR:eu (rs.take j):=fun x hx=>h x (YN hx)
  intro size R z
  have e2:cw (bJ k)++Z=bH k (rs.take j) t:=by rw[e];rfl
  rw[e2,G2 k (rs.take j) t (by omega) hR h2 (by rw[←e2];omega),Ym (by rw[YD];omega)]at z
  cases z
theorem Lt(dj dW:Int)(c:Int)(fs:Fs)(l:List bp)(hD:DI c fs)(hW:WI fs l):cr (pd FF dj dW c fs l) fun r=>DI r.1 r.2∧r.2.map Prod.fst=fs.map Prod.fst∧(∀p,(∀w,w∈l→w.name≠p)→ak p r.2=ak p fs)∧∀p Y,ak p r.2=some Y→∃X,ak p fs=some X∧Y<+:X:=by
 unfold pd
 have hl:=hW.len hD
 refine tB (Q:=fun r=>DI r.1 r.2∧r.2.map Prod.fst=fs.map Prod.fst∧(∀p,(∀w,w∈l→w.name≠p)→ak p r.2=ak p fs)∧∀p Y,ak p r.2=some Y→∃X,ak p fs=some X∧Y<+:X) ?_ fun r _ hr=>.ret hr
 rw[Yb,dh (by omega) (by omega)]
 obtain⟨K,hK⟩:∃K:Nat,(if((l.length:Int)<(if((0:Int)>dj)then(0:Int)else dj))then(l.length:Int)else(if((0:Int)>dj)then(0:Int)else dj))=(K:Int):=by
  refine⟨Int.toNat _,(Int.toNat_of_nonneg ?_).symm⟩
  (repeat' split)<;>omega
 have:=dk (fun n (s:Nat×Int×Fs)=>oq FF dj dW l n ((s.1:Int)-1) s.2.1 s.2.2) (fun s=>s.1≤l.length∧DI s.2.1 s.2.2∧WI s.2.2 (l.take s.1)∧s.2.2.map Prod.fst=fs.map Prod.fst∧(∀p,(∀w,w∈l→w.name≠p)→ak p s.2.2=ak p fs)∧∀p Y,ak p s.2.2=some Y→∃X,ak p fs=some X∧Y<+:X) (fun s=>s.1) (fun r=>DI r.1 r.2∧r.2.map Prod.fst=fs.map Prod.fst∧(∀p,(∀w,w∈l→w.name≠p)→ak p r.2=ak p fs)∧∀p Y,ak p r.2=some Y→∃X,ak p fs=some X∧Y<+:X) (by
  rintro n ⟨i,c,gs⟩ ⟨h1,h2,h3,h4,h5,h6⟩ k;simp only at h1 h2 h3 h4 h5 h6 k⊢;simp only[oq];rw[hK]
  refine tT (fun hi=>?_) fun _=>.ret ⟨h2,h4,h5,h6⟩
  obtain⟨j,rfl⟩:∃j,i=j+1:=⟨i-1,by omega⟩
  have hj:((j+1:Nat):Int)-1=(j:Int):=by omega
  rw[hj]at hi⊢
  refine tG (by omega) (tE (by simp;omega) fun _ _ _=>tE (by simp;omega) fun w hw hm=>?_)
  rw[Int.toNat_natCast]at hw
  have ht:l.take (j+1)=l.take j++[w]:=by rw[Wc,hw];rfl
  have E8:w∈l.take (j+1):=by rw[ht];simp
  have sv:w∈l:=YN E8
  have w5:=h3.pos w E8
  have ws:=Dw h3.pos E8
  have wl:=h3.le w.name
  have hle:=h2.le
  cases hg:ak w.name gs with
  |none=>rw[hg]at wl;simp only[Option.getD_none,YB]at wl;omega
  |some x=>
   rw[hg,Yv]at wl
   have iu:=uo (oY hg)
   simp only at iu
   refine tB (Q:=fun z=>∃k:Nat,z=(k:Int)∧(k:Int)≤w.size) ?_ fun z _ hz=>?_
   ·refine tC (fun _=>.ret (zh w.size dW w5 (by omega))) fun _=>.ret ⟨w.size.toNat,by omega,by omega⟩
   ·obtain⟨z,rfl,hz⟩:=hz
    simp only[Option.isSome_some,Y5,Yv,Yb]
    have e1:IntKind.wrap IntKind.i64 ((x.length:Int)-(z:Int))=(x.length:Int)-(z:Int):=dh (by omega) (by omega)
    simp only[e1]
    refine tG (by omega) (tG (by omega) (tG (by have:=h2.n64;unfold bm;omega) ?_))
    rw[dh (by omega) (by omega),dh (by have:=h2.dV;omega) (by have:=h2.dV;omega),show((x.length:Int)-(z:Int)).toNat=x.length-z by omega]
    have Jq:=h2.yV w.name x (x.length-z) hg (by omega)
    rw[show x.length-(x.length-z)=z by omega]at Jq
    refine k (j,_,_) ⟨by simp only;omega,Jq,⟨fun v hv=>h3.pos v (by rw[ht];exact WL _ hv),fun p=>?_⟩,by rw[(DD (x.take (x.length-z)) x hg).1];exact h4,fun p hp=>?_,fun p Y hp=>?_⟩ (by simp only;omega)
    ·have hp:=h3.le p
     rw[ht,G7]at hp;simp only[fh]at hp;simp only;rw[Hh]
     by_cases e:p=w.name
     ·rw[if_pos e,Yv,YD]
      subst e;rw[if_pos rfl,hg,Yv]at hp;omega
     ·rw[if_neg e]
      rw[if_neg (fun q=>e q.symm)]at hp
      omega
    ·simp only
     rw[HF (fun e:p=w.name=>hp w sv e.symm)];exact h5 p hp
    ·simp only at hp
     rw[Hh]at hp;split at hp
     ·rename_i e
      cases hp
      obtain⟨X,a,b⟩:=h6 w.name x hg
      exact⟨X,by rw[e];exact a,(List.take_prefix ..).trans b⟩
     ·exact h6 p Y hp) FF (l.length,c,fs) ⟨Yg _,hD,by rw[Wl];exact hW,rfl,fun _ _=>rfl,fun p Y h=>⟨Y,h,List.prefix_refl _⟩⟩ (by simp only[FF];omega)
 exact this
theorem QL(k:Nat)(rs bA:List (List Int)):bH k (rs++bA) []=bH k rs []++bA.flatMap cw:=by
 unfold bH;rw[V8];simp[Yq]
theorem GY(dj dW:Int)(f k:Nat)(rs bA:List (List Int))(f1:1≤f)(f2:f≤999999999)(hk:k≤rs.length)(hR:eu (rs++bA))(hl:(bH k (rs++bA) []).length≤1048576):
 ∃j c' fs',j≤bA.length∧pd FF dj dW ((bH k (rs++bA) []).length:Int) [(ai f,bH k (rs++bA) [])] (bA.map (wv (ai f)))=some (c',fs')∧DR c' fs' [] (rs++bA.take j):=by
 have hp:eu bA:=fun x hx=>hR x (List.mem_append_right _ hx)
 have hrs:eu rs:=fun x hx=>hR x (WL _ hx)
 have nU:=KJ bA
 have sG:=QL k rs bA
 have xr:(bH k rs []).length+(bA.flatMap cw).length≤1048576:=by rw[sG,Ya]at hl;exact hl
 obtain⟨j,t,c',h1,h2,h3,h4,h5,h6, -⟩:=Ry dj dW (ai f) (bH k rs []) bA hp (by omega) (by rw[←sG];exact hl)
 rw[←sG]at h4
 have hX:bH k rs []++(bA.take j).flatMap cw++t=bH k (rs++bA.take j) t:=by
  unfold bH;rw[V8];simp[Yq]
 rw[hX]at h4 h5 h6
 have Jo:eu (rs++bA.take j):=fun x hx=>(Yw.1 hx).elim (hrs x) fun q=>hp x (YN q)
 have hD:DI c' [(ai f,bH k (rs++bA.take j) t)]:=by rw[h5];exact CZ f _ f2 h6 (Dh Jo h3)
 refine⟨j,c',_,h1,h4,⟨hD,WI.nil _,fun e he=>?_,.inr ⟨f,_,f1,f2,pA _ _,⟨k,t,rfl,by rw[Ya];omega,Jo,h2⟩,fun z Y b1 b2 b3=>?_,fun w hw=>by cases hw⟩⟩⟩
 ·simp only[Ys]at he;subst he;exact⟨f,f1,f2,rfl⟩
 ·have:=(rL f2 b2 b3).1;omega
end Go.T
