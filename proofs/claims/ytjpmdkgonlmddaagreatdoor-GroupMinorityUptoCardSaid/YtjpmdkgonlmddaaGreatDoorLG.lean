import Derived.Test.YtjpmdkgonlmddaaGreatDoorLE
import Derived.Test.YtjpmdkgonlmddaaGreatDoorLF
import Derived.Test.YtjpmdkgonlmddaaGreatDoorLC
set_option linter.unusedVariables false
set_option maxRecDepth 20000
namespace Go.T
open Go Go.Ab
theorem ZhX(kind:Int)(fs:List Zaf)(hk:kind<9223372036854775808)(hf:∀f,f∈fs→okF f)(hl:fs.length≤100):Tot (ZdJ FF kind fs) fun b=>Byt b∧b.length≤6700000:=by
 unfold ZdJ ZcN;simp only[Y0]
 refine tG (by unfold LIM;omega) ?_
 have e:=Zki (Zaf.mk 1 kind []::fs) (fun f hm=>by
  rcases Yj.1 hm with rfl|q
  ·exact .inl ⟨rfl,hk⟩
  ·exact hf f q) (by simp;omega)
 refine tO e ?_
 cases hb:encFs (Zaf.mk 1 kind []::fs)with
 |none=>exact .ret ⟨(fun y hy=>by cases hy),by decide⟩
 |some b=>
  have h1:=ZiS hb
  have h2:=(Zmy hb).2
  simp only[Yf]at h2
  exact .ret ⟨h1,by simp only;omega⟩
theorem Znr(t:Zag)(n tm:Int)(hl:t.Entries.length≤10000):Tot (Zf8 FF t n tm) fun r=>r.Entries.length≤10000:=by
 unfold Zf8
 refine tB (Zhy _ _ (by omega)) fun z _ _=>tB (Q:=fun _=>True) (tC (fun _=>.ret trivial) fun _=>.ret trivial) fun b _ _=>tC (fun _=>tB (Zqc t n (by omega)) fun y _ hy=>.ret ?_) fun _=>.ret (by simp)
 by_cases e:y.2=true
 ·obtain⟨-,k,e⟩:=hy.1 e
  rw[e,Yz];omega
 ·rw[hy.2 (by simpa using e)];simp
theorem ZqQ(to_:Zad)(c:List Zab)(hc:c.length≤10000):Tot (Zdh FF to_ c FF 0) fun r=>0≤r∧r≤c.length∧r≤to_.Trail.Entries.length:=by
 have:=loopT (fun n (i:Nat)=>Zdh FF to_ c n (i:Int)) (fun i=>i≤c.length∧i≤to_.Trail.Entries.length) (fun i=>c.length-i) (fun r=>0≤r∧r≤(c.length:Int)∧r≤(to_.Trail.Entries.length:Int)) (by
  rintro n i ⟨h1,h2⟩ k;simp only[Zdh]
  refine tB (Q:=fun b=>b=true→i<c.length∧i<to_.Trail.Entries.length) (tT (fun a=>tT (fun b=>tG (by omega) (tE (by simp;omega) fun _ _ _=>tG (by omega) (tE (by simp;omega) fun _ _ _=>.ret fun _=>⟨by omega,by omega⟩))) fun _=>.ret (by simp)) fun _=>.ret (by simp)) fun b _ hb=>tC (fun e=>?_) fun _=>.ret ⟨by omega,by omega,by omega⟩
  obtain⟨a,b⟩:=hb e
  rw[w1 (by omega)]
  exact k (i+1) ⟨a,b⟩ (by omega)) FF 0 ⟨Yv _,Yv _⟩ (by simp only[FF];omega)
 exact this
def Rcs(k:Nat)(l:List (List Int)):Prop:=l.length≤k∧∀x,x∈l→Byt x∧x.length≤6700000
theorem Rcs.add{k:Nat}{l:List (List Int)}{x:List Int}(h:Rcs k l)(hx:Byt x∧x.length≤6700000):Rcs (k+1) (l++[x]):=
 ⟨by have:=h.1;simp;omega,fun y hy=>by
  rcases Yy.1 hy with q|q
  ·exact h.2 y q
  ·simp only[YB]at q;subst q;exact hx⟩
theorem ZqP(to_:Zad)(c s:Int)(k0:Nat)(l0:List (List Int))(ht:to_.Trail.Entries.length≤10000)(hT:∀e,e∈to_.Trail.Entries→e.Term<9223372036854775808)(h0:Rcs k0 l0)(hk0:k0≤10)(hs:0≤s):
 Tot (Zdg FF to_ c s FF 0 l0) (Rcs (k0+10000)):=by
 have:=loopT (fun n (q:Nat×List (List Int))=>Zdg FF to_ c s n (q.1:Int) q.2) (fun q=>q.1≤to_.Trail.Entries.length-s.toNat∧Rcs (k0+q.1) q.2) (fun q=>to_.Trail.Entries.length-s.toNat-q.1) (Rcs (k0+10000)) (by
  rintro n ⟨i,l⟩ ⟨h1,h2⟩ k;simp only at h1 h2 k⊢;simp only[Zdg];simp only[ZrO,Yz,Ya]
  refine tT (fun a=>?_) fun _=>.ret ⟨by have:=h2.1;omega,h2.2⟩
  have hl:=h2.1
  refine tG (by omega) (tE (by simp;omega) fun y _ hy=>?_)
  simp only[ZcN,ZfZ,Y0]
  refine tB (ZhX 2 _ (by decide) (fun f hf=>?_) (by simp)) fun x _ hx=>tG (by unfold LIM;omega) ?_
  ·simp only[Yj,WL,or_false]at hf
   rcases hf with rfl|rfl|rfl
   ·exact Zgd (wlt _)
   ·exact Zgd (hT _ (Wc hy))
   ·exact ZjI _
  ·rw[w1 (by omega)]
   exact k (i+1,_) ⟨by simp only;omega,h2.add hx⟩ (by simp only;omega)) FF (0,l0) ⟨Yv _,h0⟩ (by simp only[FF];omega)
 exact this
structure KK(k:Zad):Prop where
 c:k.Conf.length≤7
 e:k.Trail.Entries.length≤4096
 tm:k.Term<9223372036854775808
 vt:k.Vote<9223372036854775808
 bs:k.Trail.Base<9223372036854775808
 bt:k.Trail.BaseTerm<9223372036854775808
 et:∀e,e∈k.Trail.Entries→e.Term<9223372036854775808
theorem RK.kk{r:Zad}(h:RK r):KK r:=by
 refine⟨h.ok.cf.n7,h.ok.tr.len,by have:=h.ok.tm1;omega,?_,by have:=h.ok.tr.b1;omega,by have:=h.ok.tr.t1;omega,fun e he=>by have:=(h.ok.tr.ent e he).2.1;omega⟩
 rcases h.ok.vt with q|q
 ·rw[q];decide
 ·exact h.cb _ q
theorem KK.restart{r:Zad}(h:KK r)(a b c d e:Int)(v n m:List Int):KK (Zad.mk r.Id r.Conf r.Term r.Vote a b r.Trail r.Snap c d e v n m):=⟨h.c,h.e,h.tm,h.vt,h.bs,h.bt,h.et⟩
theorem ZlV(k to_:Zad)(hk:k.Trail.Entries.length≤10000)(ht:KK to_):Tot (Zfs FF k to_) (Rcs 10010):=by
 unfold Zfs
 refine tB (Q:=fun _=>True) (tC (fun _=>.ret trivial) fun _=>.ret trivial) fun b _ _=>?_
 refine tB (Q:=Rcs 1) (tC (fun _=>?_) fun _=>.ret ⟨by simp,fun x hx=>by cases hx⟩) fun l1 _ h1=>?_
 ·simp only[ZcN,Y0]
  refine tB (ZhX 1 _ (by decide) (fun f hf=>?_) (by simp)) fun x _ hx=>tG (by decide) (.ret ?_)
  ·simp only[Yj,WL,or_false]at hf
   rcases hf with rfl|rfl
   ·exact Zgd ht.tm
   ·exact Zgd ht.vt
  ·exact Rcs.add (k:=0) ⟨by simp,fun x hx=>by cases hx⟩ hx
 refine tB (Q:=fun _=>True) (tC (fun _=>.ret trivial) fun _=>tC (fun _=>.ret trivial) fun _=>.ret trivial) fun b2 _ _=>?_
 refine tB (Q:=fun y:List (List Int)×Int×Int×List Zab=>Rcs 2 y.1∧y.2.2.2.length≤10000) (tC (fun _=>?_) fun _=>.ret ⟨⟨by have:=h1.1;simp only;omega,h1.2⟩,hk⟩) fun y _ hy=>?_
 ·simp only[ZcN,ZfZ,Y0]
  refine tB (ZhX 3 _ (by decide) (fun f hf=>?_) (by simp)) fun x _ hx=>tG (by have:=h1.1;unfold LIM;omega) ?_
  ·simp only[Yj,WL,or_false]at hf
   rcases hf with rfl|rfl|rfl
   ·exact Zgd ht.bs
   ·exact Zgd ht.bt
   ·exact ZjI _
  ·exact tB (Znr _ _ _ hk) fun z _ hz=>.ret ⟨h1.add hx,hz⟩
 obtain⟨l2,c1,c2,c3⟩:=y
 obtain⟨hy,hc⟩:=hy
 simp only at hy hc⊢
 have he:=ht.e
 refine tB (ZqQ to_ c3 hc) fun s _ hs=>tG (by omega) (tG (by omega) (tG (by omega) ?_))
 refine tB (ZqP to_ c1 s 2 l2 (by omega) ht.et hy (by decide) (by omega)) fun l3 _ h3=>?_
 refine tB (Q:=fun _=>True) (tC (fun _=>.ret trivial) fun _=>.ret trivial) fun b3 _ _=>?_
 refine tB (Q:=Rcs 10010) (tC (fun _=>?_) fun _=>.ret ⟨by have:=h3.1;omega,h3.2⟩) fun l4 _ h4=>.ret h4
 simp only[ZcN,Y0]
 refine tB (ZhX 4 _ (by decide) (fun f hf=>?_) (by simp)) fun x _ hx=>tG (by have:=h3.1;unfold LIM;omega) (.ret ?_)
 ·simp only[Yj,WL,or_false]at hf
  rw[hf];exact Zgd (wlt _)
 ·have:=h3.add hx
  exact⟨by have:=this.1;omega,this.2⟩
structure WK(file:List UInt8)(n cnt c:Int)(fs:Fs)(l:List Zaa):Prop where
 di:DI c fs
 wi:WI fs l
 ex:∃f k:Nat,file=nameL f∧n=(k:Int)∧1≤f∧f≤k∧k≤999999999∧Only fs f
 ct:∃X,mget file fs=some X∧0≤cnt∧cnt≤(X.length:Int)
theorem WK.fl{file:List UInt8}{n cnt c:Int}{fs:Fs}{l:List Zaa}(h:WK file n cnt c fs l):file.length≤14:=by
 obtain⟨f,k,rfl, -, -,h1,h2, -⟩:=h.ex
 exact ZpA f (by omega)
theorem ZqD(r:List Int)(file:List UInt8)(n cnt c:Int)(fs:Fs)(l:List Zaa)(h:WK file n cnt c fs l)(hb:Byt r):
 Tot (Zcd FF r file n cnt c fs l) fun y=>WK y.2.1 y.2.2.1 y.2.2.2.1 y.2.2.2.2.1 y.2.2.2.2.2.1 y.2.2.2.2.2.2:=by
 obtain⟨X,hX,h0,h1⟩:=h.ct
 have hxl:=Zhx (ZeA hX)
 simp only at hxl
 have hle:=h.di.le
 have hll:=h.wi.len h.di
 rcases ZlQ r file n cnt c fs l (by have:=h.fl;omega) h.di (by omega) ⟨h0,by omega⟩with ⟨e, -,g, -⟩|⟨g, -,g2,g3,g4⟩
 ·exact⟨_,g,h⟩
 ·refine⟨_,g,?_⟩
  have f5:=ZpV r
  obtain⟨f,k,e1,e2,e3,e4,e5,e6⟩:=h.ex
  refine⟨h.di.put file (Za8 r) g2 (ZiP _ hb) g3 g4,h.wi.app file (Za8 r) f5,⟨f,k,e1,e2,e3,e4,e5,fun e he hz=>?_⟩,⟨_,Zj4 _ _,by show(0:Int)≤cnt+1;omega,?_⟩⟩
  ·rcases Zh0 he with rfl|he
   ·exact e1
   ·exact e6 e he hz
  ·rw[hX,Yu,Yd];show cnt+1≤_;omega
theorem ZqA(kept:Zad)(rs:List (List Int))(hr:Rcs 10010 rs)(file:List UInt8)(n cnt c:Int)(fs:Fs)(l:List Zaa)(h:WK file n cnt c fs l):
 Tot (Zbj FF kept rs FF 0 file n cnt c fs l) fun o=>(∀y,o=.inl y→y.1=3∧y.2.1=kept∧WK y.2.2.1 y.2.2.2.1 y.2.2.2.2.1 y.2.2.2.2.2.1 y.2.2.2.2.2.2.1 y.2.2.2.2.2.2.2)∧∀y,o=.inr y→WK y.1 y.2.1 y.2.2.1 y.2.2.2.1 y.2.2.2.2.1 y.2.2.2.2.2:=by
 have:=loopT (fun m (s:Nat×List UInt8×Int×Int×Int×Fs×List Zaa)=>Zbj FF kept rs m (s.1:Int) s.2.1 s.2.2.1 s.2.2.2.1 s.2.2.2.2.1 s.2.2.2.2.2.1 s.2.2.2.2.2.2) (fun s=>s.1≤rs.length∧WK s.2.1 s.2.2.1 s.2.2.2.1 s.2.2.2.2.1 s.2.2.2.2.2.1 s.2.2.2.2.2.2) (fun s=>rs.length-s.1)
  (fun o=>(∀y,o=.inl y→y.1=3∧y.2.1=kept∧WK y.2.2.1 y.2.2.2.1 y.2.2.2.2.1 y.2.2.2.2.2.1 y.2.2.2.2.2.2.1 y.2.2.2.2.2.2.2)∧∀y,o=.inr y→WK y.1 y.2.1 y.2.2.1 y.2.2.2.1 y.2.2.2.2.1 y.2.2.2.2.2) (by
   rintro m ⟨i,file,n,cnt,c,fs,l⟩ ⟨h1,h2⟩ k;simp only at h1 h2 k⊢;simp only[Zbj]
   have hl:=hr.1
   refine tT (fun a=>?_) fun _=>.ret ⟨(fun y e=>by cases e),fun y e=>by cases e;exact h2⟩
   refine tG (by omega) (tE (by simp;omega) fun r _ hm=>tB (ZqD r _ _ _ _ _ _ h2 (hr.2 r hm).1) fun y _ hy=>tC (fun _=>.ret ⟨(fun z e=>by cases e;exact⟨rfl,rfl,hy⟩),fun y e=>by cases e⟩) fun _=>?_)
   rw[w1 (by omega)]
   exact k (i+1,y.2) ⟨by simp only;omega,hy⟩ (by simp only;omega)) FF (0,file,n,cnt,c,fs,l) ⟨Yv _,h⟩ (by have:=hr.1;simp only[FF];omega)
 exact this
theorem Zp5(a b:List Int)(ha:a.length≤1000000):Tot (ZbY FF a b) fun r=>r=true→a=b:=by
 unfold ZbY
 refine tC (fun _=>.ret (by simp)) fun e=>?_
 have e:a.length=b.length:=by
  have e:((a.length:Int)==(b.length:Int))=true:=by simpa using e
  exact Int.ofNat.inj (by simpa using e)
 refine tL (Pr:=fun r=>r=false) (Ps:=fun _=>a=b) ?_ (fun r h=>.ret (by rw[h];simp)) fun _ h=>.ret fun _=>h
 have:=loopT (fun m (i:Nat)=>Zbf FF a b m (i:Int)) (fun i=>i≤a.length∧a.take i=b.take i) (fun i=>a.length-i) (fun o=>(∀r,o=.inl r→r=false)∧∀u,o=.inr u→a=b) (by
  rintro m i ⟨h1,h2⟩ k;simp only[Zbf]
  refine tT (fun h=>?_) fun h=>.ret ⟨(fun r q=>by cases q),fun u _=>by rwa [YS (by omega),YS (by omega)]at h2⟩
  refine tG (by omega) (tE (by simp;omega) fun x hx _=>tG (by omega) (tE (by simp;omega) fun y hy _=>tC (fun _=>.ret ⟨(fun r q=>by cases q;rfl),fun u q=>by cases q⟩) fun q=>?_))
  rw[Int.toNat_natCast]at hx hy
  rw[w1 (by omega)]
  have q:x=y:=by simpa using q
  exact k (i+1) ⟨by omega,by rw[W5,W5,hx,hy,h2,q]⟩ (by omega)) FF 0 ⟨Yv _,by simp⟩ (by simp only[FF];omega)
 exact this
theorem ZlP(r kept:Zad)(file:List UInt8)(n cnt c:Int)(fs:Fs)(l:List Zaa)(h:WK file n cnt c fs l)(hk:KK kept)(hs:Small r)(hc:∀x,x∈r.Conf→x<9223372036854775808):
 Tot (Zb7 FF r kept file n cnt c fs l) fun y=>WK y.2.2.1 y.2.2.2.1 y.2.2.2.2.1 y.2.2.2.2.2.1 y.2.2.2.2.2.2.1 y.2.2.2.2.2.2.2∧KK y.2.1∧(y.1=0→RK r):=by
 unfold Zb7
 refine tB (Q:=fun b=>b=false→RK r) ?_ fun b _ hb=>tC (fun _=>.ret ⟨h,hk,by simp⟩) fun e=>?_
 ·refine tB (Zi6 r hs) fun b e1 h1=>tC (fun _=>.ret (by simp)) fun e2=>?_
  have e2:b=true:=by simpa using e2
  subst e2
  exact tC (fun _=>.ret (by simp)) fun e=>tB (Zp5 _ _ hs.c) fun b2 _ _=>.ret fun _=>⟨e1,h1 rfl,hc⟩
 have hR:=hb e
 refine tB (ZlV kept r (by have:=hk.e;omega) hR.kk) fun rs _ hrs=>tL (ZqA kept rs hrs file n cnt c fs l h) (fun y hy=>.ret ⟨hy.2.2,by rw[hy.2.1];exact hk,by rw[hy.1];simp⟩) fun y hy=>?_
 obtain⟨a1,a2,a3,a4,a5,a6⟩:=y
 exact tO (Zi5 r hs) (.ret ⟨hy,hR.kk.restart ..,fun _=>hR⟩)
theorem Zno(kept:Zad)(file:List UInt8)(n cnt c:Int)(fs:Fs)(l:List Zaa)(h:WK file n cnt c fs l):
 Zce FF kept file n cnt c fs l=some (0,c,fgt file l)∧WK file n cnt c fs (fgt file l):=by
 obtain⟨X,hX,h0,h1⟩:=h.ct
 have hll:=h.wi.len h.di
 unfold Zce
 rw[show Zdy FF file n cnt c fs l=some (0,c,fgt file l)from Zn2 hX (by omega)]
 exact⟨rfl,h.di,h.wi.fgt _,h.ex,h.ct⟩
theorem ZlY(kept:Zad)(file:List UInt8)(n cnt c:Int)(fs:Fs)(l:List Zaa)(h:WK file n cnt c fs l)(hk:KK kept):
 Tot (Zcf FF kept file n cnt c fs l) fun y=>(y.1=0→WK y.2.1 y.2.2.1 y.2.2.2.1 y.2.2.2.2.1 y.2.2.2.2.2.1 y.2.2.2.2.2.2)∧DI y.2.2.2.2.1 y.2.2.2.2.2.1∧WI y.2.2.2.2.2.1 y.2.2.2.2.2.2:=by
 unfold Zcf
 obtain⟨X,hX,h0,h1⟩:=h.ct
 have hll:=h.wi.len h.di
 obtain⟨f,k,e1,e2,e3,e4,e5,e6⟩:=h.ex
 refine tB (ZlV _ kept (by simp) hk) fun rs _ hrs=>?_
 have hfr:∀q:Nat,k<q→q≤999999999→mget (nameL q) fs=none:=fun q h1 h2=>Zmp (by omega) e6 q (by omega) h2
 have hrl:=hrs.1
 rw[e2]
 rcases ZkL rs file k cnt c fs l (by omega) (fun x hx=>(hrs.2 x hx).1) e5 h.di (by omega) hfr (.inr ⟨X,hX⟩)with ⟨g, -⟩|⟨c2,c',fs',l',g, -,g2⟩|⟨g1,g2,c',l',g,g3,g4,g5,g6⟩
 ·exact tO g (.ret ⟨fun q=>(by cases q),h.di,h.wi⟩)
 ·exact tO g (.ret ⟨fun q=>(by cases q),g2 h.wi⟩)
 ·have hw:=g6 h.wi
  refine tO g (.ret ⟨fun _=>⟨g3,hw,⟨k+1,k+1,rfl,rfl,by omega,by omega,g2,fun e he hz=>?_⟩,⟨logL rs.length rs [],?_,by simp only;omega,?_⟩⟩,g3,hw⟩)
  ·simp only at he
   rcases Yy.1 he with he|he
   ·exfalso
    have hf:file≠[]:=by rw[e1];exact Zlr f
    rw[base,if_neg hf]at he
    have hs:=(Zh1 (q:=file) fs).subset he
    have:=e6 e hs hz
    exact Zfe.1 (ZiH h.di.nk) e he (by rw[this,e1])
   ·simp only[YB]at he
    subst he;rfl
  ·simp only
   rw[ZiG]
   ·exact ZnG _ _
   ·have:=hfr (k+1) (by omega) g2
    unfold base;split
    ·exact this
    ·cases hq:mget (nameL (k+1)) (mdel file fs)with
     |none=>rfl
     |some y=>exact absurd rfl (Zfe.1 this _ ((Zh1 (q:=file) fs).subset (ZeA hq)))
  ·simp only
   have:=Zsr rs.length rs []
   omega
theorem Zk4(ks:List Int):∀(n:Nat) (b:List Int) (t:Int) (a:List Zaf),ZcI FF ks n b t a=ZaR FF ks n b t a
 |0,_,_,_=>rfl
 |n+1,b,t,a=>by
  simp only[ZcI,ZaR]
  cases ks[t.toNat]? with
  |none=>rfl
  |some k=>simp only[Y0,Zk4 ks n]
theorem Zow(ks b:List Int):Zeb FF b ks=Zbi FF ks b:=by
 unfold Zeb Zbi;rw[Zk4]
theorem Zh6(ks b:List Int)(hK:ks.length≤1000)(hk:∀k,k∈ks→k=1∨k=3)(hb:Byt b)(hL:b.length≤1073741824):Tot (Zbi FF ks b) fun y=>(y.1=0→nfs ks y.2∧(ks=[]→b=[]))∧(y.1≠0→y.2=[]):=by
 rcases Zm7 ks b hK hk hb hL with ⟨fs,h1,h2⟩|⟨-,e,he,h⟩
 ·refine⟨_,h2,fun _=>⟨h1.1,fun q=>?_⟩,by simp⟩
  subst q
  obtain⟨h3,a,h4,h5⟩:=h1
  cases fs with
  |nil=>simp[encFs]at h4;subst h4;simpa using h5
  |cons f r=>exact absurd h3 (by simp[nfs])
 ·exact⟨_,h,fun q=>absurd q he,fun _=>rfl⟩
theorem nfs_i:∀{ks:List Int} {fs:List Zaf},nfs ks fs→∀(i:Nat) (y:Zaf),fs[i]? =some y→y.N<9223372036854775808∧0≤y.N
 | [],[],_,i,y,h=>by simp at h
 | [],f::r,h,_,_,_=>absurd h (by simp[nfs])
 |k::ks,[],h,_,_,_=>absurd h (by simp[nfs])
 |k::ks,f::r,h,i,y,hy=>by
  obtain⟨h1,h2⟩:=h
  cases i with
  |zero=>
   simp only[List.getElem?_cons_zero,Y1]at hy
   subst hy
   obtain⟨-,h|h⟩:=h1
   ·exact⟨h.2.2.1,h.2.1⟩
   ·rw[h.2.1];exact⟨by decide,by decide⟩
  |succ i=>exact nfs_i h2 i y (by simpa using hy)
def shp:List (Int×List Int):=mput (4:Int) ((1:Int)::((1:Int)::[])) (mput (3:Int) ((1:Int)::((1:Int)::((1:Int)::((3:Int)::[])))) (mput (2:Int) ((1:Int)::((1:Int)::((1:Int)::((3:Int)::[])))) (mput (1:Int) ((1:Int)::((1:Int)::((1:Int)::[]))) [])))
theorem Zo2:Zgu FF=some shp:=by kernel_rfl
theorem ZsZ:shp=[(1,[1,1,1]),(2,[1,1,1,3]),(3,[1,1,1,3]),(4,[1,1])]:=by decide
theorem Zsc(x:Int):(x=1∧mget x shp=some [1,1,1])∨(x=2∧mget x shp=some [1,1,1,3])∨(x=3∧mget x shp=some [1,1,1,3])∨(x=4∧mget x shp=some [1,1])∨mget x shp=none:=by
 rw[ZsZ]
 by_cases h1:x=1
 ·subst h1;exact .inl ⟨rfl,by decide⟩
 by_cases h2:x=2
 ·subst h2;exact .inr (.inl ⟨rfl,by decide⟩)
 by_cases h3:x=3
 ·subst h3;exact .inr (.inr (.inl ⟨rfl,by decide⟩))
 by_cases h4:x=4
 ·subst h4;exact .inr (.inr (.inr (.inl ⟨rfl,by decide⟩)))
 ·refine .inr (.inr (.inr (.inr ?_)))
  simp[mget,h1,h2,h3,h4]
def rst(r:Zad):Zad:=Zad.mk r.Id r.Conf r.Term r.Vote 0 0 r.Trail r.Snap r.Trail.Base 10 10 [] [] []
theorem ZlB(r:Zad)(hr:RK r)(a:Int)(b:Int)(t:Zag)(s:List UInt8)(ht:t.Entries.length≤10000):
 Tot (Option.bind (Zbt FF (Zad.mk r.Id r.Conf a b r.Role r.Leader t s r.Commit r.Left r.Wait r.Votes r.Next r.Match)) fun y=>Option.bind (Zbg FF y) fun z=>some (y,z)) fun y=>y.2=true→RK y.1∧y.1.Conf=r.Conf∧y.1.Id=r.Id∧rst y.1=y.1:=by
 have hm:=hr.ok.small
 refine tO (Zi5 _ ⟨hm.c,by show t.Entries.length≤_;omega,hm.v,hm.n,hm.m⟩) (tB (Zi6 _ ⟨hm.c,by show t.Entries.length≤_;omega,by simp,by simp,by simp⟩) fun z hz h=>.ret fun e=>?_)
 have e:z=true:=e
 subst e;exact⟨⟨hz,h rfl,hr.cb⟩,rfl,rfl,rfl⟩
theorem Zqp(r:Zad)(hr:RK r)(b:List Int)(hb:Byt b)(hl:b.length≤1073741824):Tot (Zft FF r b) fun y=>y.2=true→RK y.1∧y.1.Conf=r.Conf∧y.1.Id=r.Id∧rst y.1=y.1:=by
 unfold Zft
 have hm:=hr.ok.small
 have hT:=hr.ok.tr
 have hTl:=hT.last
 have hTb:=hT.b0
 refine tC (fun _=>.ret (by simp)) fun e=>tO Zo2 ?_
 have hne:0<b.length:=by
  cases b with
  |nil=>simp at e
  |cons=>simp
 refine tE (by simpa using hne) fun x hx _=>?_
 rw[Int.toNat_zero]at hx
 have key:∀ks,(∀k,k∈ks→k=1∨k=3)→ks.length≤4→Tot (Zeb FF b ks) fun y=>(y.1=0→nfs ks y.2∧(ks=[]→b=[]))∧(y.1≠0→y.2=[]):=fun ks h1 h2=>by
  rw[Zow];exact Zh6 ks b (by omega) h1 hb hl
 have zt:∀(y:Int×List Zaf),Tot (bif y.1 != 0 then some true else some (((List.map Zaf.c y.2).length:Int)==0)) fun c=>c=false→y.1=0:=fun y=>tC (fun _=>.ret (by simp)) fun e=>.ret fun _=>by simpa using e
 have w1:∀n:Int,0≤n→n<9223372036854775808→IntKind.wrap IntKind.i64 (n-r.Trail.Base)=n-r.Trail.Base:=fun n h1 h2=>wi64 (by omega) (by omega)
 have w2:IntKind.wrap IntKind.i64 (r.Trail.Base+(r.Trail.Entries.length:Int))=r.Trail.Base+(r.Trail.Entries.length:Int):=wi64 (by omega) (by omega)
 have w3:IntKind.wrap IntKind.i64 (r.Trail.Base+(r.Trail.Entries.length:Int)+1)=r.Trail.Base+(r.Trail.Entries.length:Int)+1:=wi64 (by omega) (by omega)
 have hel:=hT.len
 rcases Zsc x with ⟨rfl,h⟩|⟨rfl,h⟩|⟨rfl,h⟩|⟨rfl,h⟩|h
 ·rw[h]
  simp only[Option.isSome_some,Y4,Yu]
  refine tB (key _ (by simp) (by simp)) fun y _ hy=>tB (zt y) fun c _ hc=>tC (fun _=>.ret (by simp)) fun e=>?_
  have hn:=(hy.1 (hc e)).1
  have hlen:=Zin hn
  refine tE (by rw[hlen];decide) fun z _ _=>tE (by rw[hlen];decide) fun z _ _=>tE (by simpa using hne) fun x' hx' _=>?_
  rw[Int.toNat_zero,hx]at hx';cases hx'
  simp only[show((1:Int)==1)=true from rfl,Y4]
  exact tE (by rw[hlen];decide) fun z _ _=>tE (by rw[hlen];decide) fun z _ _=>ZlB r hr _ _ _ _ (by omega)
 ·rw[h]
  simp only[Option.isSome_some,Y4,Yu]
  refine tB (key _ (by simp) (by simp)) fun y _ hy=>tB (zt y) fun c _ hc=>tC (fun _=>.ret (by simp)) fun e=>?_
  have hn:=(hy.1 (hc e)).1
  have hlen:=Zin hn
  refine tE (by rw[hlen];decide) fun z _ _=>tE (by rw[hlen];decide) fun z hz _=>tE (by simpa using hne) fun x' hx' _=>?_
  rw[Int.toNat_zero,hx]at hx';cases hx'
  simp only[show((2:Int)==1)=false from rfl,show((2:Int)==2)=true from rfl,Y4,Y7,Ya]
  obtain⟨n1,n0⟩:=nfs_i hn _ _ hz
  rw[w2,w3,w1 z.N n0 n1]
  refine tB (Q:=fun c=>c=false→r.Trail.Base<z.N∧z.N≤r.Trail.Base+(r.Trail.Entries.length:Int)+1) (tT (fun _=>.ret (by simp)) fun a=>.ret fun q=>⟨by omega,by have:=Wd q;omega⟩) fun c _ hc=>tC (fun _=>.ret (by simp)) fun e=>?_
  obtain⟨q1,q2⟩:=hc e
  have w4:IntKind.wrap IntKind.i64 (z.N-r.Trail.Base-1)=z.N-r.Trail.Base-1:=wi64 (by omega) (by omega)
  simp only[w4]
  refine tG (by omega) (tG (by omega) (tG (by omega) (tO (Zgl _ (by rw[Yw];unfold LIM;omega)) ?_)))
  refine tE (by rw[hlen];decide) fun z _ _=>tE (by rw[hlen];decide) fun z _ _=>tE (by rw[hlen];decide) fun z _ _=>tE (by rw[hlen];decide) fun z _ _=>tG (by rw[Yw];unfold LIM;omega) (ZlB r hr _ _ _ _ ?_)
  simp only[Yd,Yw,Yf,Yx];omega
 ·rw[h]
  simp only[Option.isSome_some,Y4,Yu]
  refine tB (key _ (by simp) (by simp)) fun y _ hy=>tB (zt y) fun c _ hc=>tC (fun _=>.ret (by simp)) fun e=>?_
  have hn:=(hy.1 (hc e)).1
  have hlen:=Zin hn
  refine tE (by rw[hlen];decide) fun z _ _=>tE (by rw[hlen];decide) fun z hz _=>tE (by simpa using hne) fun x' hx' _=>?_
  rw[Int.toNat_zero,hx]at hx';cases hx'
  simp only[show((3:Int)==1)=false from rfl,show((3:Int)==2)=false from rfl,show((3:Int)==3)=true from rfl,Y4,Y7]
  refine tL (Pr:=fun q:Zad×Bool=>q.2=false) (Ps:=fun q:Int×Int×List Zab×List UInt8=>q.2.2.1.length≤10000) ?_ (fun q hq=>.ret (by rw[hq];simp)) (fun q hq=>ZlB r hr _ _ _ _ hq)
  refine tE (by rw[hlen];decide) fun z1 _ _=>tE (by rw[hlen];decide) fun z1 _ _=>tB (Znr _ _ _ (by omega)) fun t _ ht=>tE (by rw[hlen];decide) fun z1 _ _=>tE (by rw[hlen];decide) fun z1 _ _=>.ret ⟨(fun q e=>by cases e),fun q e=>by cases e;exact ht⟩
 ·rw[h]
  simp only[Option.isSome_some,Y4,Yu]
  refine tB (key _ (by simp) (by simp)) fun y _ hy=>tB (zt y) fun c _ hc=>tC (fun _=>.ret (by simp)) fun e=>?_
  have hn:=(hy.1 (hc e)).1
  have hlen:=Zin hn
  refine tE (by rw[hlen];decide) fun z _ _=>tE (by rw[hlen];decide) fun z hz _=>tE (by simpa using hne) fun x' hx' _=>?_
  rw[Int.toNat_zero,hx]at hx';cases hx'
  simp only[show((4:Int)==1)=false from rfl,show((4:Int)==2)=false from rfl,show((4:Int)==3)=false from rfl,show((4:Int)==4)=true from rfl,Y4,Y7,Ya]
  obtain⟨n1,n0⟩:=nfs_i hn _ _ hz
  refine tL (Pr:=fun q:Zad×Bool=>q.2=false) (Ps:=fun q:Int×Int×List Zab×List UInt8=>q.2.2.1.length≤10000) ?_ (fun q hq=>.ret (by rw[hq];simp)) (fun q hq=>ZlB r hr _ _ _ _ hq)
  rw[w2,w1 z.N n0 n1]
  refine tB (Q:=fun c=>c=false→r.Trail.Base≤z.N∧z.N≤r.Trail.Base+(r.Trail.Entries.length:Int)) (tT (fun _=>.ret (by simp)) fun a=>.ret fun q=>⟨by omega,by have:=Wd q;omega⟩) fun c _ hc=>tC (fun _=>.ret ⟨(fun q e=>by cases e;rfl),fun q e=>by cases e⟩) fun e=>?_
  obtain⟨q1,q2⟩:=hc e
  refine tG (by omega) (tG (by omega) (tG (by omega) (tO (Zgl _ (by rw[Yw];unfold LIM;omega)) (.ret ⟨(fun q e=>by cases e),fun q e=>by cases e;simp only[Yw];omega⟩))))
 ·rw[h]
  simp only[Option.isSome_none,Y7]
  refine tB (Zh6 [] b (by simp) (by simp) hb hl) fun y _ hy=>tB (zt y) fun c _ hc=>tC (fun _=>.ret (by simp)) fun e=>?_
  have:=(hy.1 (hc e)).2 rfl
  rw[this]at hne;simp at hne
theorem ZlI(l:List Int)(h:l.length≤1000000):Zaz FF l=some l:=ZhP l (lim _ h)
def r0(id:Int)(conf:List Int):Zad:=Zad.mk id conf 0 0 0 0 (Zag.mk 0 0 []) [] 0 10 10 [] [] []
theorem ZqV(id:Int)(conf:List Int)(hl:conf.length≤1000000)(hc:∀x,x∈conf→x<9223372036854775808):Tot (ZgX FF id conf) fun y=>y.2=0→y.1=r0 id conf∧RK (r0 id conf):=by
 unfold ZgX
 refine tO (ZlI _ hl) (tB (Zi6 (r0 id conf) ⟨hl,by simp[r0],by simp[r0],by simp[r0],by simp[r0]⟩) fun b e h=>tC (fun _=>.ret (by simp)) fun q=>.ret fun _=>⟨rfl,?_⟩)
 have q:b=true:=by simpa using q
 subst q;exact⟨e,h rfl,hc⟩
abbrev OpB:=Zad×Int×Int×Fs×Zad×List Zaa×List UInt8×Int×Int
abbrev OpE:=Zad×Int×Int×Fs×List Zaa
abbrev L17:=Int×Int×List Int×Int×Int×Int×Int×Int×Int×List Zab×List UInt8×Int×Int×Int×List Int×List Int×List Int
def of17(q:L17):Zad:=Zad.mk q.2.1 q.2.2.1 q.2.2.2.1 q.2.2.2.2.1 q.2.2.2.2.2.1 q.2.2.2.2.2.2.1 (Zag.mk q.2.2.2.2.2.2.2.1 q.2.2.2.2.2.2.2.2.1 q.2.2.2.2.2.2.2.2.2.1) q.2.2.2.2.2.2.2.2.2.2.1 q.2.2.2.2.2.2.2.2.2.2.2.1 q.2.2.2.2.2.2.2.2.2.2.2.2.1 q.2.2.2.2.2.2.2.2.2.2.2.2.2.1 q.2.2.2.2.2.2.2.2.2.2.2.2.2.2.1 q.2.2.2.2.2.2.2.2.2.2.2.2.2.2.2.1 q.2.2.2.2.2.2.2.2.2.2.2.2.2.2.2.2
theorem Zsk(id:Int)(conf:List Int)(rs:List (List Int))(hR:Recs rs)(hl:rs.length≤1048576)(c:Int)(fs:Fs)(file:List UInt8)(n cnt:Int)(l:List Zaa)(r:Zad)(hr:RK r)(h1:r.Conf=conf)(h2:r.Id=id)(h3:rst r=r):
 Tot (ZbX FF (rs,0,c,fs,file,n,cnt,l) FF (rs.length:Int) 0 0 r.Id r.Conf r.Term r.Vote r.Role r.Leader r.Trail.Base r.Trail.BaseTerm r.Trail.Entries r.Snap r.Commit r.Left r.Wait r.Votes r.Next r.Match) fun o=>
  (∀y,o=.inl y→∃r,y=.inl (r,21,c,fs,l))∧∀y:L17,o=.inr y→RK (of17 y)∧(of17 y).Conf=conf∧(of17 y).Id=id∧rst (of17 y)=of17 y:=by
 have:=loopT (fun m (s:Nat×Zad)=>ZbX FF (rs,0,c,fs,file,n,cnt,l) m (rs.length:Int) (s.1:Int) 0 s.2.Id s.2.Conf s.2.Term s.2.Vote s.2.Role s.2.Leader s.2.Trail.Base s.2.Trail.BaseTerm s.2.Trail.Entries s.2.Snap s.2.Commit s.2.Left s.2.Wait s.2.Votes s.2.Next s.2.Match)
  (fun s=>s.1≤rs.length∧RK s.2∧s.2.Conf=conf∧s.2.Id=id∧rst s.2=s.2) (fun s=>rs.length-s.1) (fun o=>(∀y,o=.inl y→∃r,y=.inl (r,21,c,fs,l))∧∀y:L17,o=.inr y→RK (of17 y)∧(of17 y).Conf=conf∧(of17 y).Id=id∧rst (of17 y)=of17 y) (by
   rintro m ⟨i,r⟩ ⟨g0,g1,g2,g3,g4⟩ k;simp only at g0 g1 g2 g3 g4 k⊢;simp only[ZbX]
   refine tT (fun a=>?_) fun _=>.ret ⟨(fun y e=>by cases e),fun y e=>by cases e;exact⟨g1,g2,g3,g4⟩⟩
   refine tG (by omega) (tE (by simp;omega) fun b _ hb=>tB (Zqp r g1 b (hR b hb).2 (by have:=(hR b hb).1;omega)) fun y _ hy=>tC (fun _=>.ret ⟨(fun y e=>by cases e;exact⟨_,rfl⟩),fun y e=>by cases e⟩) fun e=>?_)
   obtain⟨q1,q2,q3,q4⟩:=hy (by simpa using e)
   rw[w1 (by omega)]
   exact k (i+1,y.1) ⟨by simp only;omega,q1,q2.trans g2,q3.trans g3,q4⟩ (by simp only;omega)) FF (0,r) ⟨Yv _,hr,h1,h2,h3⟩ (by simp only[FF];omega)
 exact this
structure CF(conf:List Int):Prop where
 ck:Zbu FF conf=some true
 ok:Zej conf
 lt:∀x,x∈conf→x<9223372036854775808
theorem Zej.ge1{l:List Int}(h:Zej l):∀(i:Nat) (a:Int),l[i]? =some a→1≤a
 |0,a,e=>by
  obtain⟨x,h1,h2⟩:=h.pos
  rw[h1]at e;cases e;exact h2
 |i+1,a,e=>by
  have hi:i+1<l.length:=by
   by_cases q:i+1<l.length
   ·exact q
   ·rw[Wo (by omega)]at e;cases e
  obtain⟨x,y,h1,h2,h3⟩:=h.inc i hi
  rw[h2]at e;cases e
  have:=Zej.ge1 h i x h1
  omega
theorem Zpe{conf:List Int}(hcf:CF conf){id:Int}(h:id∈conf):Tot (Zbg FF (r0 id conf)) fun b=>b=true:=by
 have h1:1≤id:=by
  obtain⟨i,hi,e⟩:=YY h
  exact hcf.ok.ge1 i id (by rw[Y3 hi,e])
 have hl:=hcf.ok.n7
 have hin:Tot (Zcr FF id (r0 id conf)) fun b=>b=true:=by
  unfold Zcr
  exact tC (fun _=>.ret rfl) fun _=>tB (ZdM conf id (by omega)) fun b _ hb=>.ret (hb.2 h)
 have h0:Zcr FF 0 (r0 id conf)=some true:=rfl
 have hc:Zbg FF (r0 id conf)=Option.bind (Option.bind (Zbu FF conf) fun y_6=>bif !y_6 then some true else bif id==0 then some true else Option.bind (Zcr FF id (r0 id conf)) fun y_7=>bif !y_7 then some true else some false) fun t=>bif t then some false else some true:=by
  have t1:Za4 FF (Zag.mk 0 0 [])=some true:=by kernel_rfl
  have t2:Zb6 FF (Zag.mk 0 0 [])=some (0,0):=by kernel_rfl
  unfold Zbg
  simp only[show(r0 id conf).Conf=conf from rfl,show(r0 id conf).Id=id from rfl,show(r0 id conf).Vote=0 from rfl,show(r0 id conf).Leader=0 from rfl,h0,Y0,show(r0 id conf).Trail=Zag.mk 0 0 []from rfl,t1,t2]
  rfl
 rw[hc]
 refine tB (Q:=fun t=>t=false) (tO hcf.ck ?_) fun t _ ht=>by subst ht;exact .ret rfl
 refine tC (fun e=>by cases e) fun _=>tC (fun e=>absurd (show id=0 by simpa using e) (by omega)) fun _=>tB hin fun b _ hb=>by subst hb;exact .ret rfl
theorem Zpb{conf:List Int}(hcf:CF conf){id:Int}(h:id∈conf):ZgX FF id conf=some (r0 id conf,0):=by
 obtain⟨b,hb,rfl⟩:=Zpe hcf h
 unfold ZgX
 rw[ZlI _ (by have:=hcf.ok.n7;omega)]
 simp only[Y0]
 rw[show Zbg FF (Zad.mk id conf 0 0 0 0 (Zag.mk 0 0 []) [] 0 10 10 [] [] [])=some true from hb]
 rfl
theorem ZoZ(id:Int)(conf:List Int)(c:Int)(fs:Fs)(l:List Zaa)(hcf:CF conf)(hid:id∈conf)(hD:DI c fs)(hW:WI fs l):
 Tot (Zd8 FF id conf c fs l) fun o=>(∀y:OpE,o=.inl y→(y.2.1=3∨y.2.1=21)∧DI y.2.2.1 y.2.2.2.1∧WI y.2.2.2.1 y.2.2.2.2)∧
  ∀y,o=.inr y→∃z:OpB,y=.inr z∧z.2.1=0∧WK z.2.2.2.2.2.2.1 z.2.2.2.2.2.2.2.1 z.2.2.2.2.2.2.2.2 z.2.2.1 z.2.2.2.1 z.2.2.2.2.2.1∧KK z.2.2.2.2.1∧RK z.1∧z.1.Conf=conf∧z.1.Id=id∧z.1.Role=0:=by
 unfold Zd8
 have hr:RK (r0 id conf):=by
  obtain⟨y,e,h⟩:=ZqV id conf (by have:=hcf.ok.n7;omega) hcf.lt
  rw[Zpb hcf hid]at e;cases e;exact(h rfl).2
 refine tO (Zpb hcf hid) ?_
 simp only[show((0:Int) != 0)=false from rfl,Y7]
 rcases Zq1 c fs l hD hW with ⟨c',fs',l',g,g1,g2⟩|⟨rs,c',fs',f,l',X,n,g,g1,g2,g3,g4⟩
 ·exact tO g (.ret ⟨(fun z e=>by cases e;exact⟨.inl rfl,g1,g2⟩),fun y e=>by cases e⟩)
 ·have hxm:=ZeA g1.get
  have hxl:=Zhx hxm
  simp only at hxl
  have hle:=g1.di.le
  have hrl:rs.length≤X.length:=by
   obtain⟨size,whole,rs2,hr,r1,r2,r3,r4⟩:=ZkM X (g1.di.byt _ hxm) (by omega)
   have hrd:=g1.rd
   rw[hr]at hrd
   injection hrd with hrd
   injection hrd with e1 hrd;injection hrd with e2 e3
   subst e3;exact r3
  have hwk:WK (nameL f) (n:Int) (rs.length:Int) c' fs' l':=⟨g1.di,g2,⟨f,n,rfl,rfl,g1.f1,g3,g4,g1.only⟩,⟨X,g1.get,by omega,by omega⟩⟩
  refine tO g ?_
  simp only[Sum.elim_inr,Ya,show((0:Int) != 0)=false from rfl,Y7]
  refine tL (Pr:=fun y=>∃r,y=.inl (r,21,c',fs',l')) (Ps:=fun y:L17=>RK (of17 y)∧(of17 y).Conf=conf∧(of17 y).Id=id∧rst (of17 y)=of17 y) (Zsk id conf rs g1.rcs (by omega) c' fs' (nameL f) n _ l' (r0 id conf) hr rfl rfl rfl) (fun y hy=>?_) fun y hy=>?_
  ·obtain⟨r,rfl⟩:=hy
   exact .ret ⟨(fun z e=>by cases e;exact⟨.inr rfl,g1.di,g2⟩),fun y e=>by cases e⟩
  ·obtain⟨q1,q2,q3,q4⟩:=hy
   refine tO (show Zbt FF (of17 y)=some (rst (of17 y))from Zi5 _ q1.ok.small) (.ret ⟨(fun z e=>by cases e),fun z e=>?_⟩)
   cases e
   exact⟨_,rfl,rfl,hwk,q1.kk,by simp only;rw[q4];exact q1,by simp only;rw[q4];exact q2,by simp only;rw[q4];exact q3,rfl⟩
end Go.T
