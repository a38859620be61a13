import Derived.Test.YtjpmdkgonlmddaaGreatDoorLB
import Derived.KernelRfl
set_option linter.unusedVariables false
namespace Go.T
open Go Go.Ab
theorem uX(t:cD):(List.map bj.c t.Entries).length=t.Entries.length:=Yb ..
theorem nz{t:cD}(h0:0≤t.ar)(h1:t.ar≤1099511627776)(hl:t.Entries.length≤2000000):qL FF t=some (t.ar+(t.Entries.length:Int)):=by
 unfold qL;rw[uX,dh (by omega) (by omega)]
theorem RH(t:cD)(hl:t.Entries.length≤2000000):cr (lj FF t) fun b=>b=true→iz t:=by
 unfold lj
 refine tT (fun h0=>?_) fun _=>.ret (by simp)
 refine tT (fun h1=>?_) fun _=>.ret (by simp)
 refine tT (fun h2=>?_) fun _=>.ret (by simp)
 refine tT (fun h3=>?_) fun _=>.ret (by simp)
 have fin:cr (Option.bind (qL FF t) fun y=>(bif decide (y≤(1099511627776:Int))then(Option.bind (uH FF t.aq t.Entries) fun y=>some y)else some false)) fun b=>b=true→((t.Entries.length:Int)≤4096)→iz t:=by
  refine tO (nz h0 h1 hl) (tT (fun h5=>?_) fun _=>.ret (by simp))
  exact tB (Mb _ _ hl) fun y _ hy=>.ret fun e h4=>⟨h0,h1,h2,h3,by omega,h5,hy e⟩
 refine tT (fun _=>tT (fun h4=>fin.mono fun b h e=>h e h4) fun _=>.ret (by simp)) fun _=>tC (fun _=>tT (fun h4=>fin.mono fun b h e=>h e h4) fun _=>.ret (by simp)) fun _=>.ret (by simp)
theorem Kx{t:cD}(h:iz t){n:Int}(h1:t.ar≤n)(h2:n≤t.ar+(t.Entries.length:Int)):cr (xQ FF t n) fun r=>0≤r∧r≤1099511627776:=by
 obtain⟨a0,a1,a2,a3,a4,a5,a6⟩:=h
 unfold xQ
 refine tC (fun _=>.ret ⟨a2,a3⟩) fun hn=>?_
 have hn:n≠t.ar:=by simpa using hn
 rw[dh (x:=n-t.ar) (by omega) (by omega),dh (by omega) (by omega)]
 refine tG (by omega) (tE (by omega) fun y _ hy=>.ret ?_)
 have:=a6 y hy;omega
theorem rC(t:cD)(hl:t.Entries.length≤2000000):(lj FF t=some true∧iz t)∨lj FF t=some false:=by
 obtain⟨b,hb,h⟩:=RH t hl
 cases b with
 |true=>exact .inl ⟨hb,h rfl⟩
 |false=>exact .inr hb
theorem A0{t:cD}(hc:lj FF t=some true)(h:iz t):cr (mQ FF t) fun r=>r.1=t.ar+(t.Entries.length:Int)∧0≤r.2∧r.2≤1099511627776:=by
 have hl:=nz h.b0 h.b1 (by have:=h.len;omega)
 unfold mQ
 have:=h.b0;have:=h.b1
 simp only[hc,hl,Y1,W4,Y8]
 exact tB (Kx h (by omega) (by omega)) fun y _ hy=>.ret ⟨rfl,hy⟩
theorem Ua(t:cD)(hl:t.Entries.length≤2000000):cr (mQ FF t) fun _=>True:=by
 rcases rC t hl with ⟨hc,h⟩|hc
 ·exact(A0 hc h).mono fun _ _=>trivial
 ·unfold mQ;exact tO hc (.ret trivial)
theorem xH(t:cD)(n:Int)(hl:t.Entries.length≤2000000):cr (rO FF t n) fun r=>(r.2=true→iz t∧t.ar≤n∧n≤t.ar+(t.Entries.length:Int))∧0≤r.1∧r.1≤1099511627776:=by
 unfold rO
 rcases rC t hl with ⟨hc,h⟩|hc
 ·have hl:=nz h.b0 h.b1 hl
  refine tB (Q:=fun b=>b=false→t.ar≤n∧n≤t.ar+(t.Entries.length:Int)) (tO hc (tT (fun _=>.ret (by simp)) fun h1=>tO hl (.ret fun h2=>⟨by omega,by have:=We h2;omega⟩)))
   fun b _ hb=>tC (fun _=>.ret ⟨by simp,by decide,by decide⟩) fun e=>?_
  obtain⟨h1,h2⟩:=hb e
  exact tB (Kx h h1 h2) fun y _ hy=>.ret ⟨fun _=>⟨h,h1,h2⟩,hy⟩
 ·simp only[hc,Y1,WM,Y5]
  exact .ret ⟨by simp,by decide,by decide⟩
theorem SZ(t:cD)(n f:Int)(hl:t.Entries.length≤2000000):cr (wB FF t n f) fun _=>True:=by
 unfold wB
 rcases rC t hl with ⟨hc,h⟩|hc
 ·exact tO hc (tB (Ua t hl) fun y _ _=>tC (fun _=>.ret trivial) fun _=>tC (fun _=>.ret trivial) fun _=>.ret trivial)
 ·exact tO hc (.ret trivial)
theorem xI(l:List bj)(h:l.length≤bm):pG FF l=some l:=by
 unfold pG;rw[Y4 h];rfl
theorem KB(t:cD)(dj:Nat)(more:List bj)(hk:dj≤t.Entries.length)(hl:t.Entries.length≤1000000)(hm:more.length≤1000000):
 cr (td FF t (dj:Int) more) fun r=>r.2=true→iz r.1∧r.1.ar=t.ar∧r.1.aq=t.aq∧r.1.Entries=t.Entries.take dj++more:=by
 unfold td
 have e:(@cut (List AV) none (some (Operand.tmp 18)) (List.map bj.c t.Entries) 0 dj).length=dj:=by simp;omega
 rw[Int.toNat_natCast,e]
 refine tG (by omega) (tG (by omega) (tG hk (tG (by unfold bm;omega) (tG (by unfold bm;omega) ?_))))
 rcases rC (cD.mk t.ar t.aq (t.Entries.take dj++more)) (by simp;omega)with ⟨hc,h⟩|hc
 ·exact tO hc (.ret fun _=>⟨h,rfl,rfl,rfl⟩)
 ·exact tO hc (.ret (by simp))
theorem LA(t:cD)(e:bj)(hl:t.Entries.length≤1000000):cr (yc FF t e) fun r=>r.2=true→iz r.1∧r.1.ar=t.ar∧r.1.aq=t.aq∧r.1.Entries=t.Entries++[e]:=by
 unfold yc
 rcases rC t (by omega)with ⟨hc,h⟩|hc
 ·refine tO hc ?_
  rw[uX]
  refine tB (KB t t.Entries.length [e] (Yg _) hl (by simp)) fun y _ hy=>.ret fun hb=>?_
  have:=hy hb
  rwa [Wl]at this
 ·exact tO hc (.ret (by simp))
theorem GN(t:cD)(n:Int)(hl:t.Entries.length≤1000000):cr (wy FF t n) fun r=>(r.2=true→r.1.ar=n∧∃k,r.1.Entries=t.Entries.drop k)∧(r.2=false→r.1=cD.mk 0 0 []):=by
 unfold wy
 refine tB (xH t n (by omega)) fun y _ hy=>tC (fun e=>.ret ⟨by simp,fun _=>rfl⟩) fun e=>?_
 obtain⟨h,h1,h2⟩:=hy.1 (by simpa using e)
 have:=h.b0;have:=h.b1
 rw[dh (by omega) (by omega)]
 refine tG (by omega) (tG (by omega) (tG (Yg _) (tO (xI _ (by simp;unfold bm;omega)) (.ret ⟨fun _=>⟨rfl,_,rfl⟩,by simp⟩))))
structure mD(l:List Int):Prop where
 n1:1≤l.length
 n7:l.length≤7
 inc:∀i:Nat,i+1<l.length→∃a b,l[i]? =some a∧l[i+1]? =some b∧a<b
 pos:∃a,l[0]? =some a∧1≤a
theorem Qy(l:List Int)(h7:l.length≤7)(h1:1≤l.length):cr (tu FF l FF 0) fun o=>(∀r,o=.inl r→r=false)∧(∀s,o=.inr s→∀i:Nat,i+1<l.length→∃a b,l[i]? =some a∧l[i+1]? =some b∧a<b):=by
 have e:(@cut (List AV) (some (Operand.const (Value.int IntKind.i64 (1:Int)))) none (List.map (bG IntKind.i64) l) (Int.toNat (1:Int)) (List.length l)).length=l.length-1:=by simp
 have:=dk (fun n (i:Nat)=>tu FF l n (i:Int)) (fun k=>k+1≤l.length∧∀i:Nat,i<k→∃a b,l[i]? =some a∧l[i+1]? =some b∧a<b) (fun i=>l.length-i)
  (fun o=>(∀r,o=.inl r→r=false)∧(∀s,o=.inr s→∀i:Nat,i+1<l.length→∃a b,l[i]? =some a∧l[i+1]? =some b∧a<b)) (by
   rintro n i ⟨hi,hp⟩ k;simp only[tu];rw[e]
   refine tT (fun h=>?_) fun h=>.ret ⟨(fun r e=>by cases e),fun s _ j hj=>hp j (by omega)⟩
   refine tG (by omega) (tE (by simp;omega) fun y hy _=>tG (by omega) (tE (by simp;omega) fun z hz _=>?_))
   refine tT (fun _=>.ret ⟨(fun r e=>by cases e;rfl),fun s e=>by cases e⟩) fun XZ=>?_
   rw[w1 (by omega)]
   refine k (i+1) ⟨by omega,fun j hj=>?_⟩ (by omega)
   by_cases hji:j=i
   ·subst hji
    refine⟨z,y,by simpa using hz,?_,by omega⟩
    rw[YR]at hy
    rw[←hy];congr 1;simp;omega
   ·exact hp j (by omega)) FF 0 ⟨by omega,fun i hi=>absurd hi (W9 _)⟩ (by simp only[FF];omega)
 exact this
theorem Dj(l:List Int):cr (pE FF l) fun b=>b=true→mD l:=by
 unfold pE
 refine tB (Q:=fun b=>b=false→1≤l.length∧l.length≤7∧∃a,l[0]? =some a∧1≤a) ?_ fun b _ hb=>tC (fun _=>.ret (by simp)) fun e=>?_
 ·refine tT (fun _=>.ret (by simp)) fun h1=>tT (fun _=>.ret (by simp)) fun h7=>tE (by simp;omega) fun y hy _=>.ret fun h=>⟨by omega,by omega,y,by simpa using hy,by have:=We h;omega⟩
 ·obtain⟨h1,h7,hp⟩:=hb e
  refine tG (by simp;omega) (tG (Yg _) (tL (Qy l h7 h1) (fun r hr=>.ret fun q=>by subst hr;cases q) fun s hs=>.ret fun _=>⟨h1,h7,hs,hp⟩))
theorem Ht(s:List Int)(v:Int)(hl:s.length≤2000000):cr (wP FF s v) fun r=> -1≤r∧r<s.length∧(0≤r→s[r.toNat]? =some v)∧(v∈s→0≤r):=by
 unfold wP
 have:=dk (fun n (i:Nat)=>yD FF s v n (i:Int)) (fun k=>k≤s.length∧v∉s.take k) (fun i=>s.length-i)
  (fun o=>(∀r,o=.inl r→0≤r∧r<s.length∧s[r.toNat]? =some v)∧(∀u:Unit,o=.inr u→v∉s)) (by
   rintro n i ⟨hi,hp⟩ k;simp only[yD]
   refine tT (fun h=>?_) fun h=>.ret ⟨(fun r e=>by cases e),fun u _=>by rwa [YV (by omega)]at hp⟩
   refine tG (by omega) (tE (by simp;omega) fun y hy _=>tC (fun q=>.ret ⟨fun r e=>?_,fun s e=>by cases e⟩) fun q=>?_)
   ·cases e
    have:v=y:=by simpa using q
    subst this;exact⟨by omega,by omega,hy⟩
   ·rw[w1 (by omega)]
    refine k (i+1) ⟨by omega,?_⟩ (by omega)
    rw[Int.toNat_natCast]at hy;rw[Wc,Yw,hy]
    have:v≠y:=by simpa using q
    simpa using⟨hp,this⟩) FF 0 ⟨YC _,by simp⟩ (by simp only[FF];omega)
 exact tL this (fun r hr=>.ret ⟨by omega,hr.2.1,fun _=>hr.2.2,fun _=>hr.1⟩) fun u hu=>.ret ⟨by decide,by omega,fun h=>absurd h (by decide),fun h=>absurd h hu⟩
theorem wz(s:List Int)(v:Int)(hl:s.length≤2000000):cr (rX FF s v) fun b=>b=true↔v∈s:=by
 unfold rX
 refine tB (Ht s v hl) fun y _ hy=>.ret ⟨fun h=>?_,fun h=>Y4 (hy.2.2.2 h)⟩
 exact YA (hy.2.2.1 (YI h))
theorem G6(ah set:List Int)(hc:ah.length≤2000000)(hs:set.length≤2000000):cr (wA FF ah set) fun _=>True:=by
 unfold wA
 refine tB (Q:=fun _=>True) ?_ fun y _ _=>tB (Dj ah) fun b _ _=>tC (fun _=>.ret trivial) fun _=>.ret trivial
 have:=dk (fun n (s:Int×Nat)=>yl FF ah set n s.1 (s.2:Int)) (fun s=>s.2≤ah.length) (fun s=>ah.length-s.2) (fun _=>True) (by
  rintro n ⟨c,i⟩ hi k;simp only at hi k⊢;simp only[yl]
  refine tT (fun h=>?_) fun _=>.ret trivial
  refine tB (Q:=fun _=>True) (tG (by omega) (tE (by simp;omega) fun y _ _=>tB (wz set y hs) fun b _ _=>tC (fun _=>.ret trivial) fun _=>.ret trivial)) fun c' _ _=>?_
  rw[w1 (by omega)]
  exact k (c',i+1) (by simp only;omega) (by simp only;omega)) FF (0,0) (YC _) (by simp only[FF];omega)
 exact this
theorem Ln:∀(l c:List Int),l.Nodup→(∀x,x∈l→x∈c)→l.length≤c.length
 | [],c,_,_=>YC _
 |a::r,c,hn,hs=>by
  obtain⟨ha,hr⟩:=Va.1 hn
  have Ji:=hs a Yl
  have:=Ln r (c.erase a) hr fun x hx=>(List.mem_erase_of_ne (show x≠a from fun e=>by subst e;exact ha hx)).2 (hs x (Yk _ hx))
  rw[List.length_erase_of_mem Ji]at this
  have:0<c.length:=List.length_pos_of_mem Ji
  simp only[Ye];omega
theorem TL(r:bn)(hc:mD r.au)(hv:r.bB.length≤2000000):cr (Bq FF r) fun b=>b=true→r.bB.Nodup∧∀v,v∈r.bB→v∈r.au:=by
 have hcl:=hc.n7
 unfold Bq
 refine tB (Q:=fun _=>True) ?_ fun b _ _=>tC (fun _=>.ret (by simp)) fun _=>?_
 ·refine tC (fun _=>.ret trivial) fun _=>tT (fun _=>.ret trivial) fun h=>tE (by simp;omega) fun y _ _=>tC (fun _=>.ret trivial) fun _=>tB (G6 _ _ (by omega) hv) fun b _ _=>.ret trivial
 have:=dk (fun n (i:Nat)=>xY FF r n (i:Int)) (fun i=>i≤r.bB.length∧(r.bB.take i).Nodup∧∀v,v∈r.bB.take i→v∈r.au) (fun i=>r.bB.length-i)
  (fun o=>(∀b,o=.inl b→b=false)∧(∀u:Unit,o=.inr u→r.bB.Nodup∧∀v,v∈r.bB→v∈r.au)) (by
   rintro n i ⟨hi,hn,hp⟩ k;simp only[xY]
   refine tT (fun h=>?_) fun h=>.ret ⟨(fun r e=>by cases e),fun u _=>by rw[YV (by omega)]at hn hp;exact⟨hn,hp⟩⟩
   refine tG (by omega) (tE (by simp;omega) fun y hy _=>?_)
   rw[Int.toNat_natCast]at hy
   refine tB (Q:=fun b=>b=false→y∈r.au∧y∉r.bB.take i) ?_ fun b _ hb=>tC (fun _=>.ret ⟨(fun r e=>by cases e;rfl),fun s e=>by cases e⟩) fun e=>?_
   ·refine tB (wz _ _ (by omega)) fun b _ hb=>tC (fun _=>.ret (by simp)) fun e=>tG (by omega) (tG (by omega) (tG (by omega) (tB (wz _ _ (by simp;omega)) fun d _ hd=>.ret fun q=>?_)))
    rw[Int.toNat_natCast]at hd
    exact⟨hb.1 (by simpa using e),fun hm=>by rw[hd.2 hm]at q;cases q⟩
   ·obtain⟨h1,h2⟩:=hb e
    rw[w1 (by omega)]
    refine k (i+1) ⟨by omega,?_,?_⟩ (by omega)
    ·rw[Wc,hy,Option.toList_some,Vk]
     exact⟨hn,by simp,fun a ha b hb=>by simp only[Ys]at hb;subst hb;exact fun e=>h2 (e▸ha)⟩
    ·intro v hv
     rw[Wc,hy,Option.toList_some,Yw]at hv
     rcases hv with hv|hv
     ·exact hp v hv
     ·simp only[Ys]at hv;subst hv;exact h1) FF 0 ⟨YC _,by simp,by simp⟩ (by simp only[FF];omega)
 exact tL this (fun b hb=>.ret (by subst hb;simp)) fun u hu=>.ret fun _=>hu
structure Cf(r:bn):Prop where
 nl:r.Next.length=r.au.length
 ml:r.Match.length=r.au.length
 mm:∀i:Nat,i<r.au.length→∃m x,r.Match[i]? =some m∧r.Next[i]? =some x∧0≤m∧m≤r.Trail.ar+(r.Trail.Entries.length:Int)∧m<x∧x≤r.Trail.ar+(r.Trail.Entries.length:Int)+1
theorem SL(r:bn)(hc:mD r.au)(ht:lj FF r.Trail=some true)(hT:iz r.Trail):cr (Bp FF r) fun b=>b=true→Cf r:=by
 have hcl:=hc.n7
 unfold Bp
 refine tB (Q:=fun b=>b=false→r.Next.length=r.au.length∧r.Match.length=r.au.length) ?_ fun b _ hb=>tC (fun _=>.ret (by simp)) fun e=>?_
 ·refine tC (fun _=>.ret (by simp)) fun _=>tC (fun _=>.ret (by simp)) fun _=>tC (fun _=>.ret (by simp)) fun h1=>.ret fun h2=>?_
  simp only[Yb,bne_eq_false_iff_eq]at h1 h2;omega
 obtain⟨hn,hm⟩:=hb e
 refine tB (A0 ht hT) fun y _ hy=>?_
 have h0:=hT.b0;have h1:=hT.last
 have:=dk (fun n (i:Nat)=>xX FF r y n (i:Int)) (fun k=>k≤r.Match.length∧∀i:Nat,i<k→∃m x,r.Match[i]? =some m∧r.Next[i]? =some x∧0≤m∧m≤y.1∧m<x∧x≤y.1+1) (fun i=>r.Match.length-i)
  (fun o=>(∀b,o=.inl b→b=false)∧(∀u:Unit,o=.inr u→∀i:Nat,i<r.Match.length→∃m x,r.Match[i]? =some m∧r.Next[i]? =some x∧0≤m∧m≤y.1∧m<x∧x≤y.1+1)) (by
   rintro n i ⟨hi,hp⟩ k;simp only[xX]
   refine tT (fun h=>?_) fun h=>.ret ⟨(fun r e=>by cases e),fun u _ j hj=>hp j (by omega)⟩
   refine tG (by omega) (tE (by simp;omega) fun m jh _=>?_)
   rw[Int.toNat_natCast]at jh
   refine tB (Q:=fun b=>b=false→∃x,r.Next[i]? =some x∧0≤m∧m≤y.1∧m<x∧x≤y.1+1) ?_ fun b _ hb=>tC (fun _=>.ret ⟨(fun r e=>by cases e;rfl),fun s e=>by cases e⟩) fun e=>?_
   ·refine tT (fun _=>.ret (by simp)) fun a1=>tT (fun _=>.ret (by simp)) fun a2=>tG (by omega) (tE (by simp;omega) fun x hx _=>tT (fun _=>.ret (by simp)) fun a3=>tG (by omega) (tE (by simp;omega) fun x2 iP _=>.ret fun a4=>?_))
    rw[hx]at iP;cases iP;rw[Int.toNat_natCast]at hx
    have a4:=We a4
    rw[hy.1]at a4 a2⊢
    rw[dh (by omega) (by omega)]at a4
    exact⟨x,hx,by omega,by omega,by omega,by omega⟩
   ·obtain⟨x,hx⟩:=hb e
    rw[w1 (by omega)]
    refine k (i+1) ⟨by omega,fun j hj=>?_⟩ (by omega)
    by_cases hji:j=i
    ·subst hji;exact⟨m,x,jh,hx⟩
    ·exact hp j (by omega)) FF 0 ⟨YC _,fun i hi=>absurd hi (W9 _)⟩ (by simp only[FF];omega)
 exact tL this (fun b hb=>.ret (by subst hb;simp)) fun u hu=>.ret fun _=>⟨hn,hm,fun i hi=>by have:=hu i (by omega);rwa [hy.1]at this⟩
def xi(r:bn)(n:Int):Prop:=n=0∨n∈r.au
structure AH(r:bn):Prop where
 cf:mD r.au
 XY:r.Id≠0
 kR:r.Id∈r.au
 IM:0≤r.Term
 IL:r.Term≤1099511627776
 vt:xi r r.bg
 ld:xi r r.bf
 tc:lj FF r.Trail=some true
 tr:iz r.Trail
 sn:r.bM.length≤60000
 Jw:r.Trail.ar≤r.aj
 Gh:r.aj≤r.Trail.ar+(r.Trail.Entries.length:Int)
 lf:0≤r.Left∧r.Left≤100
 wt:10≤r.bY∧r.bY<20
 rl:0≤r.bx∧r.bx≤2
 vo:r.bB.length≤7∧(r.bx≠1→r.bB=[])
 kn:(r.bx=2→Cf r)∧(r.bx≠2→r.Next=[]∧r.Match=[])
structure Small(r:bn):Prop where
 c:r.au.length≤1000000
 e:r.Trail.Entries.length≤1000000
 v:r.bB.length≤1000000
 n:r.Next.length≤1000000
 m:r.Match.length≤1000000
theorem AH.small{r:bn}(h:AH r):Small r:=by
 have h7:=h.cf.n7
 refine⟨by omega,by have:=h.tr.len;omega,by have:=h.vo.1;omega,?_,?_⟩
 ·by_cases q:r.bx=2
  ·have:=(h.kn.1 q).nl;omega
  ·rw[(h.kn.2 q).1];simp
 ·by_cases q:r.bx=2
  ·have:=(h.kn.1 q).ml;omega
  ·rw[(h.kn.2 q).2];simp
theorem GA(r:bn)(n:Int)(h:r.au.length≤1000000):cr (qN FF n r) fun b=>b=true→xi r n:=by
 unfold qN
 refine tC (fun e=>.ret fun _=>.inl (by simpa using e)) fun _=>tB (wz _ _ (by omega)) fun b _ hb=>.ret fun e=>.inr (hb.1 e)
theorem HH(r:bn)(hs:Small r):cr (kz FF r) fun b=>b=true→AH r:=by
 obtain⟨s1,s2,s3,s4,s5⟩:=hs
 unfold kz
 refine tB (Q:=fun b=>b=false→mD r.au∧r.Id≠0∧xi r r.Id∧0≤r.Term∧r.Term≤1099511627776∧xi r r.bg∧xi r r.bf∧lj FF r.Trail=some true∧iz r.Trail) ?_ fun b _ hb=>tC (fun _=>.ret (by simp)) fun e=>?_
 ·refine tB (Dj _) fun b _ h1=>tC (fun _=>.ret (by simp)) fun e1=>tC (fun _=>.ret (by simp)) fun e2=>tB (GA r _ s1) fun b3 _ h3=>tC (fun _=>.ret (by simp)) fun e3=>tT (fun _=>.ret (by simp)) fun e4=>tT (fun _=>.ret (by simp)) fun e5=>tB (GA r _ s1) fun b6 _ h6=>tC (fun _=>.ret (by simp)) fun e6=>tB (GA r _ s1) fun b7 _ h7=>tC (fun _=>.ret (by simp)) fun e7=>?_
  rcases rC r.Trail (by omega)with ⟨hc,ht⟩|hc
  ·exact tO hc (.ret fun _=>⟨h1 (by simpa using e1),by simpa using e2,h3 (by simpa using e3),by omega,by omega,h6 (by simpa using e6),h7 (by simpa using e7),hc,ht⟩)
  ·exact tO hc (.ret (by simp))
 obtain⟨c1,c2,c3,c4,c5,c6,c7,c8,c9⟩:=hb e
 have h7:=c1.n7
 refine tB (A0 c8 c9) fun y _ hy=>?_
 refine tB (Q:=fun b=>b=false→r.bM.length≤60000∧r.Trail.ar≤r.aj∧r.aj≤r.Trail.ar+(r.Trail.Entries.length:Int)∧(0≤r.Left∧r.Left≤100)∧10≤r.bY∧r.bY<20) ?_ fun b _ hb2=>tC (fun _=>.ret (by simp)) fun e2=>?_
 ·refine tT (fun _=>.ret (by simp)) fun a1=>tT (fun _=>.ret (by simp)) fun a2=>tT (fun _=>.ret (by simp)) fun a3=>tT (fun _=>.ret (by simp)) fun a4=>tT (fun _=>.ret (by simp)) fun a5=>tT (fun _=>.ret (by simp)) fun a6=>tT (fun _=>.ret (by simp)) fun a7=>.ret fun a8=>?_
  have a8:=We a8
  rw[hy.1]at a4
  exact⟨by omega,by omega,by omega,⟨by omega,by omega⟩,by omega,by omega⟩
 obtain⟨d1,d2,d3,d4,d5,d6⟩:=hb2 e2
 have sum:IntKind.wrap IntKind.i64 ((((List.map (bG IntKind.i64) r.Next).length:Nat):Int)+(((List.map (bG IntKind.i64) r.Match).length:Nat):Int))=((r.Next.length+r.Match.length:Nat):Int):=by
  rw[Yb,Yb,dh (by omega) (by omega)];omega
 refine tB (Q:=fun b=>b=false→(r.bx≠1→r.bB=[])∧(r.bx≠2→r.Next=[]∧r.Match=[])) ?_ fun b _ hb3=>tC (fun _=>.ret (by simp)) fun e3=>?_
 ·have nx:∀b:Bool,b=decide ((0:Int)<((r.Next.length+r.Match.length:Nat):Int))→b=false→r.Next=[]∧r.Match=[]:=fun b hb e=>by
   rw[hb]at e;have:=We e
   exact⟨Yy.1 (by omega),Yy.1 (by omega)⟩
  rw[sum]
  refine tC (fun p1=>tT (fun _=>.ret (by simp)) fun q=>?_) fun p1=>?_
  ·have hv:r.bB=[]:=Yy.1 (by omega)
   refine tC (fun p2=>.ret fun e=>⟨fun _=>hv,fun _=>nx _ rfl e⟩) fun p2=>.ret fun _=>⟨fun _=>hv,fun h=>absurd (by simpa using p2) h⟩
  ·have h1:r.bx=1:=by simpa using p1
   refine tC (fun p2=>.ret fun e=>⟨fun h=>absurd h1 h,fun _=>nx _ rfl e⟩) fun p2=>?_
   have:r.bx=2:=by simpa using p2
   omega
 obtain⟨v1,v2⟩:=hb3 e3
 have kR:r.Id∈r.au:=c3.resolve_left c2
 refine tC (fun p=>.ret fun _=>?_) fun p=>tC (fun p1=>?_) fun p1=>tC (fun p2=>?_) fun p2=>.ret (by simp)
 ·have h0:r.bx=0:=by simpa using p
  exact⟨c1,c2,kR,c4,c5,c6,c7,c8,c9,d1,d2,d3,d4,⟨d5,d6⟩,by omega,⟨by rw[v1 (by omega)];simp,v1⟩,fun h=>by omega,v2⟩
 ·have h0:r.bx=1:=by simpa using p1
  exact tB (TL r c1 (by omega)) fun b _ hb=>.ret fun e=>⟨c1,c2,kR,c4,c5,c6,c7,c8,c9,d1,d2,d3,d4,⟨d5,d6⟩,by omega,⟨by have:=Ln _ _ (hb e).1 (hb e).2;omega,v1⟩,fun h=>by omega,v2⟩
 ·have h0:r.bx=2:=by simpa using p2
  exact tB (SL r c1 c8 c9) fun b _ hb=>.ret fun e=>⟨c1,c2,kR,c4,c5,c6,c7,c8,c9,d1,d2,d3,d4,⟨d5,d6⟩,by omega,⟨by rw[v1 (by omega)];simp,v1⟩,fun _=>hb e,v2⟩
theorem Rh(x y:Int):cr (Bz FF x y) fun _=>True:=by
 unfold Bz BJ;simp only[Y1,bne_self_eq_false,Y8];exact .ret trivial
theorem PB(a:Int)(ha:0≤a)(l:List Int)(hl:l.length≤1000000)(j:Nat)(hj:j<l.length):cr (wX FF a FF (j:Int) l) fun r=>r.length=l.length:=by
 have:=dk (fun n (s:Nat×List Int)=>wX FF a n (s.1:Int) s.2) (fun s=>s.1<l.length∧s.2.length=l.length) (fun s=>s.1) (fun r=>r.length=l.length) (by
  rintro n ⟨j,m⟩ ⟨h1,h2⟩ k;simp only at h1 h2 k⊢;simp only[wX]
  refine tB (Q:=fun b=>b=true→a<(j:Int)) (tT (fun h=>tG (by omega) (tE (by simp;omega) fun _ _ _=>tE (by simp;omega) fun _ _ _=>?_)) fun _=>.ret (by simp)) fun b _ hb=>tC (fun e=>?_) fun _=>.ret h2
  ·rw[dh (by omega) (by omega)]
   exact tG (by omega) (tE (by omega) fun _ _ _=>tE (by omega) fun _ _ _=>tB (Rh _ _) fun _ _ _=>.ret fun _=>h)
  ·have h:=hb e
   rw[dh (x:=(j:Int)-1) (by omega) (by omega)]
   refine tG (by omega) (tE (by omega) fun y _ _=>tE (by omega) fun y2 _ _=>tG (by omega) (tE (by simp;omega) fun z _ _=>tE (by simp;omega) fun z2 _ _=>tG (by omega) (tE (by simp;omega) fun _ _ _=>tE (by simp;omega) fun _ _ _=>tG (by omega) (tE (by simp;omega) fun _ _ _=>tE (by simp;omega) fun _ _ _=>?_))))
   rw[show(j:Int)-1=((j-1:Nat):Int) by omega]
   exact k (j-1,_) ⟨by simp only;omega,by simp only[List.length_set];exact h2⟩ (by simp only;omega)) FF (j,l) ⟨hj,rfl⟩ (by simp only[FF];omega)
 exact this
theorem QG(l:List Int)(hl:l.length≤1000000):cr (B8 FF 0 (l.length:Int) l) fun r=>r.length=l.length:=by
 unfold B8
 have:=dk (fun n (s:Nat×List Int)=>yM FF 0 (l.length:Int) n (s.1:Int) s.2) (fun s=>s.1≤l.length+1∧s.2.length=l.length) (fun s=>l.length+1-s.1) (fun r=>r.length=l.length) (by
  rintro n ⟨i,m⟩ ⟨h1,h2⟩ k;simp only at h1 h2 k⊢;simp only[yM]
  refine tT (fun h=>?_) fun _=>.ret h2
  refine tB (Q:=fun r=>r.length=l.length) (tB (PB 0 (by decide) m (by omega) i (by omega)) fun r _ hr=>.ret (by omega)) fun r _ hr=>?_
  rw[w1 (by omega)]
  exact k (i+1,r) ⟨by simp only;omega,hr⟩ (by simp only;omega)) FF (1,l) ⟨by simp only;omega,rfl⟩ (by simp only[FF];omega)
 rw[dh (by decide) (by decide)]
 exact tB this fun r _ hr=>.ret hr
theorem RX(l:List Int)(hl:l.length≤12):cr (B4 FF l) fun r=>r.length=l.length:=by
 unfold B4;rw[Yb]
 refine tB (Q:=fun _=>True) ?_ fun y _ _=>tB (Q:=fun r=>r.length=l.length) ?_ fun r _ hr=>.ret hr
 ·have:l.length=0∨l.length=1∨l.length=2∨l.length=3∨l.length=4∨l.length=5∨l.length=6∨l.length=7∨l.length=8∨l.length=9∨l.length=10∨l.length=11∨l.length=12:=by omega
  rcases this with h|h|h|h|h|h|h|h|h|h|h|h|h<;>rw[h]<;>exact⟨_,rfl,trivial⟩
 ·show cr (B' FF 0 (l.length:Int) y l (3999999+1)) _
  simp only[B']
  rw[dh (by omega) (by omega)]
  refine tT (fun _=>tB (QG l (by omega)) fun r _ hr=>.ret hr) fun h=>absurd h (by omega)
theorem Ty(ms:List cq)(c:Int)(hm:ms.length≤1000000):cr (wJ FF ms c FF 0 0) fun r=>r=0∨∃e,e∈ms∧r=e.At:=by
 have:=dk (fun n (s:Int×Nat)=>wJ FF ms c n s.1 (s.2:Int)) (fun s=>s.2≤ms.length∧(s.1=0∨∃e,e∈ms∧s.1=e.At)) (fun s=>ms.length-s.2) (fun r=>r=0∨∃e,e∈ms∧r=e.At) (by
  rintro n ⟨x,i⟩ ⟨h1,h2⟩ k;simp only at h1 h2 k⊢;simp only[wJ]
  refine tT (fun h=>?_) fun _=>.ret h2
  refine tB (Q:=fun r=>r=0∨∃e,e∈ms∧r=e.At) (tG (by omega) (tE (by simp;omega) fun y _ hy=>tC (fun _=>.ret (.inr ⟨y,hy,rfl⟩)) fun _=>.ret h2)) fun r _ hr=>?_
  rw[w1 (by omega)]
  exact k (r,i+1) ⟨by simp only;omega,hr⟩ (by simp only;omega)) FF (0,0) ⟨YC _,.inl rfl⟩ (by simp only[FF];omega)
 exact this
theorem Uw(ah:List Int)(ms:List cq)(hm:ms.length≤1000000):cr (BB FF ah ms) fun _=>True:=by
 unfold BB
 refine tB (Dj ah) fun b _ hb=>tC (fun _=>.ret trivial) fun e=>?_
 have hc:=hb (by simpa using e)
 have h7:=hc.n7;have h1:=hc.n1
 have:=dk (fun n (s:Nat×List Int)=>yw FF ah ms n (s.1:Int) s.2) (fun s=>s.1≤ah.length∧s.2.length=s.1) (fun s=>ah.length-s.1) (fun r=>r.length=ah.length) (by
  rintro n ⟨i,m⟩ ⟨h1,h2⟩ k;simp only at h1 h2 k⊢;simp only[yw]
  refine tT (fun h=>?_) fun _=>.ret (by omega)
  refine tB (Q:=fun r=>r.length=i+1) (tG (by omega) (tE (by simp;omega) fun y _ _=>tB (Ty ms y hm) fun z _ _=>tG (by unfold bm;omega) (.ret (by simp;omega)))) fun r _ hr=>?_
  rw[w1 (by omega)]
  exact k (i+1,r) ⟨by simp only;omega,hr⟩ (by simp only;omega)) FF (0,[]) ⟨YC _,rfl⟩ (by simp only[FF];omega)
 refine tB this fun l _ hl=>tB (RX l (by omega)) fun r _ hr=>?_
 rw[Yb]
 have hd:Int.tdiv ((r.length:Int)-1) 2=(((r.length-1)/2:Nat):Int):=by
  rw[show(r.length:Int)-1=((r.length-1:Nat):Int) by omega];rfl
 rw[dh (x:=(r.length:Int)-1) (by omega) (by omega),hd,dh (by omega) (by omega)]
 exact tG (by omega) (tE (by simp;omega) fun _ _ _=>tE (by simp;omega) fun _ _ _=>.ret trivial)
set_option maxRecDepth 20000
theorem A'(l:List Int)(h:l.length≤bm):qX FF l=some l:=by
 unfold qX;rw[Y4 h];rfl
theorem DF(l:List Int)(h:l.length≤bm):uS FF l=some l:=by
 unfold uS;rw[Y4 h];rfl
theorem lim(n:Nat)(h:n≤1000000):n≤bm:=by unfold bm;omega
theorem RL(r:bn)(h:Small r):Bw FF r=some r:=by
 unfold Bw;rw[A' _ (lim _ h.c),A' _ (lim _ h.v),DF _ (lim _ h.n),DF _ (lim _ h.m),xI _ (lim _ h.e)];rfl
def hd(r:bn):cy:=cy.mk r.Id r.au r.Term r.bg r.bx r.bf r.Trail r.bM r.aj r.Left r.bY
theorem Ds(r:bn)(h:Small r):uF FF r=some (hd r,r.bB,r.Next,r.Match,[]):=by
 unfold uF DU;rw[A' _ (lim _ h.c),A' _ (lim _ h.v),DF _ (lim _ h.n),DF _ (lim _ h.m),xI _ (lim _ h.e)];rfl
theorem HS(r:bn)(h:Small r):np FF r=some (bn.mk r.Id r.au r.Term r.bg 0 0 r.Trail r.bM r.Trail.ar 10 10 [] [] []):=by
 unfold np;rw[RL r h];rfl
structure fg(h:cy):Prop where
 cf:mD h.au
 kR:h.Id∈h.au
 tl:h.Trail.Entries.length≤10000
def MB(m:bV):Prop:=m.Kind<9223372036854775808∧m.eC<9223372036854775808∧m.To<9223372036854775808∧m.Term<9223372036854775808∧m.Index<9223372036854775808∧m.da<9223372036854775808∧m.aj<9223372036854775808∧∀e,e∈m.Entries→e.Term<9223372036854775808
structure ey(h:cy):Prop where
 id:h.Id<9223372036854775808
 cf:∀c,c∈h.au→c<9223372036854775808
 tm:h.Term<9223372036854775808
 cm:h.aj<9223372036854775808
 bs:h.Trail.ar<9223372036854775808
 bt:h.Trail.aq<9223372036854775808
theorem s8(m:bV)(h:cy)(a b c:List Int)(out:List bV)(ho:out.length≤1000):
 pc FF m h a b c out=some (h,out++[bV.mk m.Kind h.Id m.To h.Term m.Index m.da m.aj m.yN m.Entries m.Data]):=by
 unfold pc
 rw[Y4 (show out.length+1≤bm by unfold bm;omega)]
 rfl
theorem xf(x:Int):IntKind.wrap IntKind.i64 x<9223372036854775808:=by rw[Yz];omega
theorem TY(t:cD)(f:Int)(hf:f≤2000000000000)(FN: -2000000000000≤f)(hl:t.Entries.length≤10000):cr (Bx FF t f 8) fun r=>∀e,e∈r→e.Term<9223372036854775808:=by
 unfold Bx
 rcases rC t (by omega)with ⟨hc,h⟩|hc
 ·have h0:=h.b0;have h1:=h.b1
  have mj:=nz h0 h1 (by omega)
  refine tB (Q:=fun b=>b=false→f≤t.ar+(t.Entries.length:Int)) (tO hc ?_) fun b _ hb=>tC (fun _=>.ret (by simp)) fun e=>?_
  ·simp only[W4,Y8,mj,Y1]
   exact tT (fun _=>.ret (by simp)) fun h=>.ret fun _=>by omega
  have jE:=hb e
  rw[dh (x:=t.ar+1) (by omega) (by omega)]
  generalize hg:(if t.ar+1>f then t.ar+1 else f)=g
  have hg1:t.ar+1≤g∧g≤t.ar+(t.Entries.length:Int)∨g=t.ar+1:=by split at hg<;>omega
  rw[dh (x:=g-t.ar) (by omega) (by omega),dh (x:=g-t.ar-1) (by omega) (by omega)]
  have hk:(g-t.ar-1).toNat≤t.Entries.length:=by omega
  generalize tV:(g-t.ar-1).toNat=kk at hk⊢;simp only[JU,YH,Yb]
  generalize hq:(if((t.Entries.length-kk:Nat):Int)<8 then((t.Entries.length-kk:Nat):Int)else 8)=q
  have hq1:0≤q∧q≤((t.Entries.length-kk:Nat):Int):=by split at hq<;>omega
  exact tG (by omega) (tG hk (tG (Yg _) (tG hq1.1 (tG (YC _) (tG (by omega) (tO (xI _ (by rw[YD,YH];unfold bm;omega)) (.ret fun e he=>by have:=h.Gc e (Wm (YN he));omega)))))))
 ·refine tB (Q:=fun b=>b=true) (tO hc (.ret rfl)) fun b _ hb=>tC (fun _=>.ret (by simp)) fun e=>by rw[hb]at e;cases e
structure ib(h:cy)(nx mt:List Int):Prop where
 nl:nx.length=h.au.length
 ml:mt.length=h.au.length
 nb:∀x,x∈nx→ -1000000000000≤x∧x≤1900000000000
theorem G1(h:cy)(v nx mt:List Int)(out:List bV)(hn:fg h)(hu:ey h)(hx:ib h nx mt)(ho:out.length≤1000)(i:Nat)(hi:i<h.au.length):
 cr (wI FF (i:Int) h v nx mt out) fun r=>r.1=h∧∃m,r.2=out++[m]∧MB m:=by
 have hl:=hx.nl
 unfold wI
 refine tG (by omega) (tE (by simp;omega) fun y hy hm=>tE (by simp;omega) fun y2 hy2 Fv=>?_)
 have hb:=hx.nb _ Fv
 refine tT (fun _=>tG (by omega) (tE (by simp;omega) fun c _ hc=>tO (s8 _ h v nx mt out ho) (.ret ⟨rfl,_,rfl,?_⟩))) fun _=>?_
 ·exact⟨show(5:Int)<_ by decide,hu.id,hu.cf _ hc,hu.tm,hu.bs,hu.bt,show(0:Int)<_ by decide,fun e he=>by cases he⟩
 ·refine tB (xH _ _ (by have:=hn.tl;omega)) fun z _ hz=>tG (by omega) (tE (by simp;omega) fun c _ hc=>tB (TY _ _ (by omega) (by omega) hn.tl) fun s _ hs=>tO (s8 _ h v nx mt out ho) (.ret ⟨rfl,_,rfl,?_⟩))
  exact⟨show(3:Int)<_ by decide,hu.id,hu.cf _ hc,hu.tm,xf _,show z.1<9223372036854775808 by have:=hz.2.2;omega,hu.cm,hs⟩
theorem Zip(h:cy)(v nx mt:List Int)(out:List bV)(hn:fg h)(hu:ey h)(hx:ib h nx mt)(ho:out.length≤900)(hm:∀m,m∈out→MB m):
 cr (wU FF h v nx mt out) fun r=>r.1=h∧r.2.1=v∧r.2.2.1=nx∧r.2.2.2.1=mt∧r.2.2.2.2.length≤out.length+7∧∀m,m∈r.2.2.2.2→MB m:=by
 have h7:=hn.cf.n7
 unfold wU
 have:=dk (fun n (s:Nat×cy×List bV)=>yB FF h v nx mt n (s.1:Int) s.2.1 s.2.2) (fun s=>s.1≤h.au.length∧s.2.1=h∧s.2.2.length≤out.length+s.1∧∀m,m∈s.2.2→MB m) (fun s=>h.au.length-s.1)
  (fun r=>r.1=h∧r.2.length≤out.length+7∧∀m,m∈r.2→MB m) (by
   rintro n ⟨i,g,o⟩ ⟨h1,h2,h3,h4⟩ k;simp only at h1 h2 h3 h4 k⊢;subst h2;simp only[yB]
   refine tT (fun q=>?_) fun _=>.ret ⟨rfl,by simp only;omega,h4⟩
   refine tB (Q:=fun r=>r.1=g∧r.2.length≤out.length+(i+1)∧∀m,m∈r.2→MB m) (tG (by omega) (tE (by simp;omega) fun y _ _=>tC (fun _=>tB (G1 g v nx mt o hn hu hx (by omega) i (by omega)) fun r _ hr=>.ret (by
    obtain⟨e,m,e2,hb⟩:=hr
    refine⟨e,by rw[e2];simp;omega,fun m' jh=>?_⟩
    rw[e2,Yw,Ys]at jh
    rcases jh with q|rfl
    ·exact h4 _ q
    ·exact hb)) fun _=>.ret ⟨rfl,by simp only;omega,h4⟩)) fun r _ hr=>?_
   rw[w1 (by omega)]
   exact k (i+1,r.1,r.2) ⟨by simp only;omega,hr.1,hr.2.1,hr.2.2⟩ (by simp only;omega)) FF (0,h,out) ⟨YC _,rfl,Yg _,hm⟩ (by simp only[FF];omega)
 exact tB this fun r _ hr=>.ret ⟨hr.1,rfl,rfl,rfl,hr.2⟩
theorem uB(h:cy)(v nx mt:List Int)(out:List bV)(hn:fg h):cr (pI FF h v nx mt out) fun r=> -1≤r∧r≤1099511627776∧(lj FF h.Trail=some true→iz h.Trail→r=h.Trail.ar+(h.Trail.Entries.length:Int)):=by
 unfold pI
 rcases rC h.Trail (by have:=hn.tl;omega)with ⟨hc,ht⟩|hc
 ·have:=ht.b0;have:=ht.last
  exact tB (A0 hc ht) fun y _ hy=>.ret ⟨by omega,by omega,fun _ _=>hy.1⟩
 ·have:mQ FF h.Trail=some (0,0):=by unfold mQ;rw[hc];rfl
  exact tO this (.ret ⟨by decide,by decide,fun q=>by rw[hc]at q;cases q⟩)
theorem J7(h:cy)(v nx mt:List Int)(out:List bV)(hn:fg h)(hx:ib h nx mt):cr (yn FF h v nx mt out) fun r=>ib h r.1 r.2:=by
 have h7:=hn.cf.n7
 have e1:=hx.nl;have e2:=hx.ml
 unfold yn
 refine tB (Ht _ _ (by omega)) fun i _ hi=>tB (uB h v nx mt out hn) fun a _ ha=>tB (uB h v nx mt out hn) fun b _ hb=>?_
 have h0:=hi.2.2.2 hn.kR
 have h1:=hi.2.1
 refine tG h0 (tE (by omega) fun _ _ _=>tE (by omega) fun _ _ _=>tG h0 (tE (by omega) fun _ _ _=>tE (by omega) fun _ _ _=>.ret ⟨by simpa using e1,by simpa using e2,fun x hx'=>?_⟩))
 rcases List.mem_or_eq_of_mem_set hx' with q|q
 ·exact hx.nb _ q
 ·subst q;rw[dh (by omega) (by omega)];omega
theorem ES(x:Int):qU FF [x] 1=some (List.replicate 1 x):=by kernel_rfl
theorem ER(x:Int):qU FF [x] 2=some (List.replicate 2 x):=by kernel_rfl
theorem EP(x:Int):qU FF [x] 3=some (List.replicate 3 x):=by kernel_rfl
theorem EO(x:Int):qU FF [x] 4=some (List.replicate 4 x):=by kernel_rfl
theorem EN(x:Int):qU FF [x] 5=some (List.replicate 5 x):=by kernel_rfl
theorem EM(x:Int):qU FF [x] 6=some (List.replicate 6 x):=by kernel_rfl
theorem EL(x:Int):qU FF [x] 7=some (List.replicate 7 x):=by kernel_rfl
theorem TB(x:Int)(k:Nat)(h1:1≤k)(h7:k≤7):qU FF [x] (k:Int)=some (List.replicate k x):=by
 have:k=1∨k=2∨k=3∨k=4∨k=5∨k=6∨k=7:=by omega
 rcases this with h|h|h|h|h|h|h<;>subst h
 ·exact ES x
 ·exact ER x
 ·exact EP x
 ·exact EO x
 ·exact EN x
 ·exact EM x
 ·exact EL x
theorem Hk(h:cy)(v nx mt:List Int)(out:List bV)(hn:fg h)(hx:ib h nx mt):
 cr (wW FF h v nx mt out) fun g=>g=h∨(∃c,g=cy.mk h.Id h.au h.Term h.bg h.bx h.bf h.Trail h.bM c h.Left h.bY∧c≤1099511627776):=by
 have h7:=hn.cf.n7
 have e2:=hx.ml
 unfold wW
 have:=dk (fun n (s:Nat×List cq)=>yF FF h mt n (s.1:Int) s.2) (fun s=>s.1≤h.au.length∧s.2.length=s.1) (fun s=>h.au.length-s.1) (fun r=>r.length≤7) (by
  rintro n ⟨i,m⟩ ⟨h1,h2⟩ k;simp only at h1 h2 k⊢;simp only[yF]
  refine tT (fun q=>?_) fun _=>.ret (by omega)
  refine tG (by omega) (tE (by simp;omega) fun y _ _=>tG (by omega) (tE (by simp;omega) fun _ _ _=>tE (by simp;omega) fun _ _ _=>tG (by unfold bm;omega) ?_))
  rw[w1 (by omega)]
  exact k (i+1,_) ⟨by simp only;omega,by simp;omega⟩ (by simp only;omega)) FF (0,[]) ⟨YC _,rfl⟩ (by simp only[FF];omega)
 refine tB this fun ms _ Y'=>tB (Uw h.au ms (by omega)) fun c _ _=>tB (xH _ _ (by have:=hn.tl;omega)) fun z _ hz=>?_
 refine tB (Q:=fun b=>b=true→c≤1099511627776) ?_ fun b _ hb=>tC (fun e=>.ret (.inr ⟨c,rfl,hb e⟩)) fun _=>.ret (.inl rfl)
 refine tC (fun e=>tT (fun _=>.ret fun _=>?_) fun _=>.ret (by simp)) fun _=>.ret (by simp)
 obtain⟨ht,h1,h2⟩:=hz.1 e
 have:=ht.last;omega
structure NS(h:cy)(out:List bV)(k:Nat):Prop where
 nd:fg h
 nu:ey h
 ol:out.length≤k
 om:∀m,m∈out→MB m
theorem KO(h:cy)(v nx mt:List Int)(out:List bV)(hs:NS h out 100):
 cr (yu FF h v nx mt out) fun r=>NS r.1 r.2.2.2.2 107∧r.1.au=h.au∧r.1.Term=h.Term∧r.2.1=[]∧r.2.2.1.length≤7∧r.2.2.2.1.length≤7:=by
 obtain⟨hn,hu,ho,hm⟩:=hs
 have h7:=hn.cf.n7;have h1:=hn.cf.n1
 unfold yu
 refine tB (uB _ _ _ _ _ ⟨hn.cf,hn.kR,hn.tl⟩) fun a _ ha=>?_
 rw[Yb,dh (x:=a+1) (by omega) (by omega)]
 refine tO (TB (a+1) h.au.length h1 h7) (tG (by omega) (tG (by unfold bm;omega) (tB (LA _ _ (by have:=hn.tl;omega)) fun t _ ht=>?_)))
 refine tB (Q:=fun g:cy=>fg g∧ey g∧g.au=h.au∧g.Term=h.Term) ?_ fun g _ hg=>?_
 ·refine tC (fun e=>.ret ?_) fun _=>.ret ⟨⟨hn.cf,hn.kR,hn.tl⟩,⟨hu.id,hu.cf,hu.tm,hu.cm,hu.bs,hu.bt⟩,rfl,rfl⟩
  obtain⟨t1,t2,t3,t4⟩:=ht e
  exact⟨⟨hn.cf,hn.kR,show t.1.Entries.length≤10000 by have:=t1.len;omega⟩,⟨hu.id,hu.cf,hu.tm,hu.cm,show t.1.ar<_ by rw[t2];exact hu.bs,show t.1.aq<_ by rw[t3];exact hu.bt⟩,rfl,rfl⟩
 obtain⟨gn,gu,gc,gi⟩:=hg
 have hx0:ib g (List.replicate h.au.length (a+1)) (List.replicate (Int.toNat ((h.au.length:Nat):Int)) 0):=by
  rw[Int.toNat_natCast]
  exact⟨by rw[WJ,gc],by rw[WJ,gc],fun x hx=>by rw[WO hx];omega⟩
 refine tB (J7 g [] _ _ out gn hx0) fun o _ hx=>tB (Hk g [] _ _ out gn hx) fun q _ hq=>?_
 have hq2:fg q∧ey q∧q.au=g.au∧q.Term=g.Term∧ib q o.1 o.2:=by
  rcases hq with rfl|⟨c,rfl,hc⟩
  ·exact⟨gn,gu,rfl,rfl,hx⟩
  ·exact⟨⟨gn.cf,gn.kR,gn.tl⟩,⟨gu.id,gu.cf,gu.tm,show c<_ by omega,gu.bs,gu.bt⟩,rfl,rfl,⟨hx.nl,hx.ml,hx.nb⟩⟩
 obtain⟨qn,qu,qc,qi,qx⟩:=hq2
 refine tB (Zip q [] o.1 o.2 out qn qu qx (by omega) hm) fun r _ hr=>.ret ?_
 obtain⟨r1,r2,r3,r4,r5,r6⟩:=hr
 have e1:=qx.nl;have e2:=qx.ml
 rw[r1,r2,r3,r4]
 exact⟨⟨qn,qu,by simp only;omega,r6⟩,by rw[qc,gc],by rw[qi,gi],rfl,by rw[e1,qc,gc];exact h7,by rw[e2,qc,gc];exact h7⟩
end Go.T
