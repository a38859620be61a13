import Derived.Test.YtjpmdkgonlmddaaGreatDoorLB
import Derived.KernelRfl
set_option linter.unusedVariables false
namespace Go.T
open Go Go.Ab
theorem tlen(t:Zag):(List.map Zab.c t.Entries).length=t.Entries.length:=Ya ..
theorem tlast{t:Zag}(h0:0≤t.Base)(h1:t.Base≤1099511627776)(hl:t.Entries.length≤2000000):Zdr FF t=some (t.Base+(t.Entries.length:Int)):=by
 unfold Zdr;rw[tlen,wi64 (by omega) (by omega)]
theorem Zqh(t:Zag)(hl:t.Entries.length≤2000000):Tot (Za4 FF t) fun b=>b=true→TrOk t:=by
 unfold Za4
 refine tT (fun h0=>?_) fun _=>.ret (by simp)
 refine tT (fun h1=>?_) fun _=>.ret (by simp)
 refine tT (fun h2=>?_) fun _=>.ret (by simp)
 refine tT (fun h3=>?_) fun _=>.ret (by simp)
 have fin:Tot (Option.bind (Zdr FF t) fun y=>(bif decide (y≤(1099511627776:Int))then(Option.bind (ZdH FF t.BaseTerm t.Entries) fun y=>some y)else some false)) fun b=>b=true→((t.Entries.length:Int)≤4096)→TrOk t:=by
  refine tO (tlast h0 h1 hl) (tT (fun h5=>?_) fun _=>.ret (by simp))
  exact tB (ZkY _ _ hl) fun y _ hy=>.ret fun e h4=>⟨h0,h1,h2,h3,by omega,h5,hy e⟩
 refine tT (fun _=>tT (fun h4=>fin.mono fun b h e=>h e h4) fun _=>.ret (by simp)) fun _=>tC (fun _=>tT (fun h4=>fin.mono fun b h e=>h e h4) fun _=>.ret (by simp)) fun _=>.ret (by simp)
theorem Znl{t:Zag}(h:TrOk t){n:Int}(h1:t.Base≤n)(h2:n≤t.Base+(t.Entries.length:Int)):Tot (ZeY FF t n) fun r=>0≤r∧r≤1099511627776:=by
 obtain⟨a0,a1,a2,a3,a4,a5,a6⟩:=h
 unfold ZeY
 refine tC (fun _=>.ret ⟨a2,a3⟩) fun hn=>?_
 have hn:n≠t.Base:=by simpa using hn
 rw[wi64 (x:=n-t.Base) (by omega) (by omega),wi64 (by omega) (by omega)]
 refine tG (by omega) (tE (by omega) fun y _ hy=>.ret ?_)
 have:=a6 y hy;omega
theorem chk(t:Zag)(hl:t.Entries.length≤2000000):(Za4 FF t=some true∧TrOk t)∨Za4 FF t=some false:=by
 obtain⟨b,hb,h⟩:=Zqh t hl
 cases b with
 |true=>exact .inl ⟨hb,h rfl⟩
 |false=>exact .inr hb
theorem Ziw{t:Zag}(hc:Za4 FF t=some true)(h:TrOk t):Tot (Zb6 FF t) fun r=>r.1=t.Base+(t.Entries.length:Int)∧0≤r.2∧r.2≤1099511627776:=by
 have hl:=tlast h.b0 h.b1 (by have:=h.len;omega)
 unfold Zb6
 have:=h.b0;have:=h.b1
 simp only[hc,hl,Y0,YP,Y7]
 exact tB (Znl h (by omega) (by omega)) fun y _ hy=>.ret ⟨rfl,hy⟩
theorem ZoV(t:Zag)(hl:t.Entries.length≤2000000):Tot (Zb6 FF t) fun _=>True:=by
 rcases chk t hl with ⟨hc,h⟩|hc
 ·exact(Ziw hc h).mono fun _ _=>trivial
 ·unfold Zb6;exact tO hc (.ret trivial)
theorem Zhy(t:Zag)(n:Int)(hl:t.Entries.length≤2000000):Tot (Zc2 FF t n) fun r=>(r.2=true→TrOk t∧t.Base≤n∧n≤t.Base+(t.Entries.length:Int))∧0≤r.1∧r.1≤1099511627776:=by
 unfold Zc2
 rcases chk t hl with ⟨hc,h⟩|hc
 ·have hl:=tlast h.b0 h.b1 hl
  refine tB (Q:=fun b=>b=false→t.Base≤n∧n≤t.Base+(t.Entries.length:Int)) (tO hc (tT (fun _=>.ret (by simp)) fun h1=>tO hl (.ret fun h2=>⟨by omega,by have:=Wd h2;omega⟩)))
   fun b _ hb=>tC (fun _=>.ret ⟨by simp,by decide,by decide⟩) fun e=>?_
  obtain⟨h1,h2⟩:=hb e
  exact tB (Znl h h1 h2) fun y _ hy=>.ret ⟨fun _=>⟨h,h1,h2⟩,hy⟩
 ·simp only[hc,Y0,WH,Y4]
  exact .ret ⟨by simp,by decide,by decide⟩
theorem Zpw(t:Zag)(n f:Int)(hl:t.Entries.length≤2000000):Tot (ZeW FF t n f) fun _=>True:=by
 unfold ZeW
 rcases chk t hl with ⟨hc,h⟩|hc
 ·exact tO hc (tB (ZoV t hl) fun y _ _=>tC (fun _=>.ret trivial) fun _=>tC (fun _=>.ret trivial) fun _=>.ret trivial)
 ·exact tO hc (.ret trivial)
theorem Zgl(l:List Zab)(h:l.length≤LIM):Zal FF l=some l:=by
 unfold Zal;rw[Y2 h];rfl
theorem ZqB(t:Zag)(keep:Nat)(more:List Zab)(hk:keep≤t.Entries.length)(hl:t.Entries.length≤1000000)(hm:more.length≤1000000):
 Tot (Zc1 FF t (keep:Int) more) fun r=>r.2=true→TrOk r.1∧r.1.Base=t.Base∧r.1.BaseTerm=t.BaseTerm∧r.1.Entries=t.Entries.take keep++more:=by
 unfold Zc1
 have e:(@cut (List AV) none (some (Operand.tmp 18)) (List.map Zab.c t.Entries) 0 keep).length=keep:=by simp;omega
 rw[Int.toNat_natCast,e]
 refine tG (by omega) (tG (by omega) (tG hk (tG (by unfold LIM;omega) (tG (by unfold LIM;omega) ?_))))
 rcases chk (Zag.mk t.Base t.BaseTerm (t.Entries.take keep++more)) (by simp;omega)with ⟨hc,h⟩|hc
 ·exact tO hc (.ret fun _=>⟨h,rfl,rfl,rfl⟩)
 ·exact tO hc (.ret (by simp))
theorem Zqc(t:Zag)(n:Int)(hl:t.Entries.length≤1000000):Tot (Ze6 FF t n) fun r=>(r.2=true→r.1.Base=n∧∃k,r.1.Entries=t.Entries.drop k)∧(r.2=false→r.1=Zag.mk 0 0 []):=by
 unfold Ze6
 refine tB (Zhy t n (by omega)) fun y _ hy=>tC (fun e=>.ret ⟨by simp,fun _=>rfl⟩) fun e=>?_
 obtain⟨h,h1,h2⟩:=hy.1 (by simpa using e)
 have:=h.b0;have:=h.b1
 rw[wi64 (by omega) (by omega)]
 refine tG (by omega) (tG (by omega) (tG (Yg _) (tO (Zgl _ (by simp;unfold LIM;omega)) (.ret ⟨fun _=>⟨rfl,_,rfl⟩,by simp⟩))))
structure Zej(l:List Int):Prop where
 n1:1≤l.length
 n7:l.length≤7
 inc:∀i:Nat,i+1<l.length→∃a b,l[i]? =some a∧l[i+1]? =some b∧a<b
 pos:∃a,l[0]? =some a∧1≤a
theorem ZsE(l:List Int)(h7:l.length≤7)(h1:1≤l.length):Tot (ZcO FF l FF 0) fun o=>(∀r,o=.inl r→r=false)∧(∀s,o=.inr s→∀i:Nat,i+1<l.length→∃a b,l[i]? =some a∧l[i+1]? =some b∧a<b):=by
 have e:(@cut (List AV) (some (Operand.const (Value.int IntKind.i64 (1:Int)))) none (List.map (cInt IntKind.i64) l) (Int.toNat (1:Int)) (List.length l)).length=l.length-1:=by simp
 have:=loopT (fun n (i:Nat)=>ZcO FF l n (i:Int)) (fun k=>k+1≤l.length∧∀i:Nat,i<k→∃a b,l[i]? =some a∧l[i+1]? =some b∧a<b) (fun i=>l.length-i)
  (fun o=>(∀r,o=.inl r→r=false)∧(∀s,o=.inr s→∀i:Nat,i+1<l.length→∃a b,l[i]? =some a∧l[i+1]? =some b∧a<b)) (by
   rintro n i ⟨hi,hp⟩ k;simp only[ZcO];rw[e]
   refine tT (fun h=>?_) fun h=>.ret ⟨(fun r e=>by cases e),fun s _ j hj=>hp j (by omega)⟩
   refine tG (by omega) (tE (by simp;omega) fun y hy _=>tG (by omega) (tE (by simp;omega) fun z hz _=>?_))
   refine tT (fun _=>.ret ⟨(fun r e=>by cases e;rfl),fun s e=>by cases e⟩) fun hyz=>?_
   rw[w1 (by omega)]
   refine k (i+1) ⟨by omega,fun j hj=>?_⟩ (by omega)
   by_cases hji:j=i
   ·subst hji
    refine⟨z,y,by simpa using hz,?_,by omega⟩
    rw[YM]at hy
    rw[←hy];congr 1;simp;omega
   ·exact hp j (by omega)) FF 0 ⟨by omega,fun i hi=>absurd hi (W9 _)⟩ (by simp only[FF];omega)
 exact this
theorem ZlH(l:List Int):Tot (Zbu FF l) fun b=>b=true→Zej l:=by
 unfold Zbu
 refine tB (Q:=fun b=>b=false→1≤l.length∧l.length≤7∧∃a,l[0]? =some a∧1≤a) ?_ fun b _ hb=>tC (fun _=>.ret (by simp)) fun e=>?_
 ·refine tT (fun _=>.ret (by simp)) fun h1=>tT (fun _=>.ret (by simp)) fun h7=>tE (by simp;omega) fun y hy _=>.ret fun h=>⟨by omega,by omega,y,by simpa using hy,by have:=Wd h;omega⟩
 ·obtain⟨h1,h7,hp⟩:=hb e
  refine tG (by simp;omega) (tG (Yg _) (tL (ZsE l h7 h1) (fun r hr=>.ret fun q=>by subst hr;cases q) fun s hs=>.ret fun _=>⟨h1,h7,hs,hp⟩))
theorem Zj9(s:List Int)(v:Int)(hl:s.length≤2000000):Tot (Zbh FF s v) fun r=> -1≤r∧r<s.length∧(0≤r→s[r.toNat]? =some v)∧(v∈s→0≤r):=by
 unfold Zbh
 have:=loopT (fun n (i:Nat)=>Zbe FF s v n (i:Int)) (fun k=>k≤s.length∧v∉s.take k) (fun i=>s.length-i)
  (fun o=>(∀r,o=.inl r→0≤r∧r<s.length∧s[r.toNat]? =some v)∧(∀u:Unit,o=.inr u→v∉s)) (by
   rintro n i ⟨hi,hp⟩ k;simp only[Zbe]
   refine tT (fun h=>?_) fun h=>.ret ⟨(fun r e=>by cases e),fun u _=>by rwa [YS (by omega)]at hp⟩
   refine tG (by omega) (tE (by simp;omega) fun y hy _=>tC (fun q=>.ret ⟨fun r e=>?_,fun s e=>by cases e⟩) fun q=>?_)
   ·cases e
    have:v=y:=by simpa using q
    subst this;exact⟨by omega,by omega,hy⟩
   ·rw[w1 (by omega)]
    refine k (i+1) ⟨by omega,?_⟩ (by omega)
    rw[Int.toNat_natCast]at hy;rw[W5,Yy,hy]
    have:v≠y:=by simpa using q
    simpa using⟨hp,this⟩) FF 0 ⟨Yv _,by simp⟩ (by simp only[FF];omega)
 exact tL this (fun r hr=>.ret ⟨by omega,hr.2.1,fun _=>hr.2.2,fun _=>hr.1⟩) fun u hu=>.ret ⟨by decide,by omega,fun h=>absurd h (by decide),fun h=>absurd h hu⟩
theorem ZdM(s:List Int)(v:Int)(hl:s.length≤2000000):Tot (Zaw FF s v) fun b=>b=true↔v∈s:=by
 unfold Zaw
 refine tB (Zj9 s v hl) fun y _ hy=>.ret ⟨fun h=>?_,fun h=>Y2 (hy.2.2.2 h)⟩
 exact YA (hy.2.2.1 (YD h))
theorem Znh(conf set:List Int)(hc:conf.length≤2000000)(hs:set.length≤2000000):Tot (ZdP FF conf set) fun _=>True:=by
 unfold ZdP
 refine tB (Q:=fun _=>True) ?_ fun y _ _=>tB (ZlH conf) fun b _ _=>tC (fun _=>.ret trivial) fun _=>.ret trivial
 have:=loopT (fun n (s:Int×Nat)=>Zcn FF conf set n s.1 (s.2:Int)) (fun s=>s.2≤conf.length) (fun s=>conf.length-s.2) (fun _=>True) (by
  rintro n ⟨c,i⟩ hi k;simp only at hi k⊢;simp only[Zcn]
  refine tT (fun h=>?_) fun _=>.ret trivial
  refine tB (Q:=fun _=>True) (tG (by omega) (tE (by simp;omega) fun y _ _=>tB (ZdM set y hs) fun b _ _=>tC (fun _=>.ret trivial) fun _=>.ret trivial)) fun c' _ _=>?_
  rw[w1 (by omega)]
  exact k (c',i+1) (by simp only;omega) (by simp only;omega)) FF (0,0) (Yv _) (by simp only[FF];omega)
 exact this
theorem Zma:∀(l c:List Int),l.Nodup→(∀x,x∈l→x∈c)→l.length≤c.length
 | [],c,_,_=>Yv _
 |a::r,c,hn,hs=>by
  obtain⟨ha,hr⟩:=V5.1 hn
  have hac:=hs a Ys
  have:=Zma r (c.erase a) hr fun x hx=>(List.mem_erase_of_ne (show x≠a from fun e=>by subst e;exact ha hx)).2 (hs x (Yk _ hx))
  rw[List.length_erase_of_mem hac]at this
  have:0<c.length:=List.length_pos_of_mem hac
  simp only[Yf];omega
theorem ZoK(r:Zad)(hc:Zej r.Conf)(hv:r.Votes.length≤2000000):Tot (ZgD FF r) fun b=>b=true→r.Votes.Nodup∧∀v,v∈r.Votes→v∈r.Conf:=by
 have hcl:=hc.n7
 unfold ZgD
 refine tB (Q:=fun _=>True) ?_ fun b _ _=>tC (fun _=>.ret (by simp)) fun _=>?_
 ·refine tC (fun _=>.ret trivial) fun _=>tT (fun _=>.ret trivial) fun h=>tE (by simp;omega) fun y _ _=>tC (fun _=>.ret trivial) fun _=>tB (Znh _ _ (by omega) hv) fun b _ _=>.ret trivial
 have:=loopT (fun n (i:Nat)=>Zey FF r n (i:Int)) (fun i=>i≤r.Votes.length∧(r.Votes.take i).Nodup∧∀v,v∈r.Votes.take i→v∈r.Conf) (fun i=>r.Votes.length-i)
  (fun o=>(∀b,o=.inl b→b=false)∧(∀u:Unit,o=.inr u→r.Votes.Nodup∧∀v,v∈r.Votes→v∈r.Conf)) (by
   rintro n i ⟨hi,hn,hp⟩ k;simp only[Zey]
   refine tT (fun h=>?_) fun h=>.ret ⟨(fun r e=>by cases e),fun u _=>by rw[YS (by omega)]at hn hp;exact⟨hn,hp⟩⟩
   refine tG (by omega) (tE (by simp;omega) fun y hy _=>?_)
   rw[Int.toNat_natCast]at hy
   refine tB (Q:=fun b=>b=false→y∈r.Conf∧y∉r.Votes.take i) ?_ fun b _ hb=>tC (fun _=>.ret ⟨(fun r e=>by cases e;rfl),fun s e=>by cases e⟩) fun e=>?_
   ·refine tB (ZdM _ _ (by omega)) fun b _ hb=>tC (fun _=>.ret (by simp)) fun e=>tG (by omega) (tG (by omega) (tG (by omega) (tB (ZdM _ _ (by simp;omega)) fun d _ hd=>.ret fun q=>?_)))
    rw[Int.toNat_natCast]at hd
    exact⟨hb.1 (by simpa using e),fun hm=>by rw[hd.2 hm]at q;cases q⟩
   ·obtain⟨h1,h2⟩:=hb e
    rw[w1 (by omega)]
    refine k (i+1) ⟨by omega,?_,?_⟩ (by omega)
    ·rw[W5,hy,Option.toList_some,Vg]
     exact⟨hn,by simp,fun a ha b hb=>by simp only[YB]at hb;subst hb;exact fun e=>h2 (e▸ha)⟩
    ·intro v hv
     rw[W5,hy,Option.toList_some,Yy]at hv
     rcases hv with hv|hv
     ·exact hp v hv
     ·simp only[YB]at hv;subst hv;exact h1) FF 0 ⟨Yv _,by simp,by simp⟩ (by simp only[FF];omega)
 exact tL this (fun b hb=>.ret (by subst hb;simp)) fun u hu=>.ret fun _=>hu
structure KnOk(r:Zad):Prop where
 nl:r.Next.length=r.Conf.length
 ml:r.Match.length=r.Conf.length
 mm:∀i:Nat,i<r.Conf.length→∃m x,r.Match[i]? =some m∧r.Next[i]? =some x∧0≤m∧m≤r.Trail.Base+(r.Trail.Entries.length:Int)∧m<x∧x≤r.Trail.Base+(r.Trail.Entries.length:Int)+1
theorem ZpJ(r:Zad)(hc:Zej r.Conf)(ht:Za4 FF r.Trail=some true)(hT:TrOk r.Trail):Tot (ZgE FF r) fun b=>b=true→KnOk r:=by
 have hcl:=hc.n7
 unfold ZgE
 refine tB (Q:=fun b=>b=false→r.Next.length=r.Conf.length∧r.Match.length=r.Conf.length) ?_ fun b _ hb=>tC (fun _=>.ret (by simp)) fun e=>?_
 ·refine tC (fun _=>.ret (by simp)) fun _=>tC (fun _=>.ret (by simp)) fun _=>tC (fun _=>.ret (by simp)) fun h1=>.ret fun h2=>?_
  simp only[Ya,bne_eq_false_iff_eq]at h1 h2;omega
 obtain⟨hn,hm⟩:=hb e
 refine tB (Ziw ht hT) fun y _ hy=>?_
 have h0:=hT.b0;have h1:=hT.last
 have:=loopT (fun n (i:Nat)=>Zez FF r y n (i:Int)) (fun k=>k≤r.Match.length∧∀i:Nat,i<k→∃m x,r.Match[i]? =some m∧r.Next[i]? =some x∧0≤m∧m≤y.1∧m<x∧x≤y.1+1) (fun i=>r.Match.length-i)
  (fun o=>(∀b,o=.inl b→b=false)∧(∀u:Unit,o=.inr u→∀i:Nat,i<r.Match.length→∃m x,r.Match[i]? =some m∧r.Next[i]? =some x∧0≤m∧m≤y.1∧m<x∧x≤y.1+1)) (by
   rintro n i ⟨hi,hp⟩ k;simp only[Zez]
   refine tT (fun h=>?_) fun h=>.ret ⟨(fun r e=>by cases e),fun u _ j hj=>hp j (by omega)⟩
   refine tG (by omega) (tE (by simp;omega) fun m hm' _=>?_)
   rw[Int.toNat_natCast]at hm'
   refine tB (Q:=fun b=>b=false→∃x,r.Next[i]? =some x∧0≤m∧m≤y.1∧m<x∧x≤y.1+1) ?_ fun b _ hb=>tC (fun _=>.ret ⟨(fun r e=>by cases e;rfl),fun s e=>by cases e⟩) fun e=>?_
   ·refine tT (fun _=>.ret (by simp)) fun a1=>tT (fun _=>.ret (by simp)) fun a2=>tG (by omega) (tE (by simp;omega) fun x hx _=>tT (fun _=>.ret (by simp)) fun a3=>tG (by omega) (tE (by simp;omega) fun x2 hx2 _=>.ret fun a4=>?_))
    rw[hx]at hx2;cases hx2;rw[Int.toNat_natCast]at hx
    have a4:=Wd a4
    rw[hy.1]at a4 a2⊢
    rw[wi64 (by omega) (by omega)]at a4
    exact⟨x,hx,by omega,by omega,by omega,by omega⟩
   ·obtain⟨x,hx⟩:=hb e
    rw[w1 (by omega)]
    refine k (i+1) ⟨by omega,fun j hj=>?_⟩ (by omega)
    by_cases hji:j=i
    ·subst hji;exact⟨m,x,hm',hx⟩
    ·exact hp j (by omega)) FF 0 ⟨Yv _,fun i hi=>absurd hi (W9 _)⟩ (by simp only[FF];omega)
 exact tL this (fun b hb=>.ret (by subst hb;simp)) fun u hu=>.ret fun _=>⟨hn,hm,fun i hi=>by have:=hu i (by omega);rwa [hy.1]at this⟩
def inC(r:Zad)(n:Int):Prop:=n=0∨n∈r.Conf
structure Zk8(r:Zad):Prop where
 cf:Zej r.Conf
 id0:r.Id≠0
 idc:r.Id∈r.Conf
 tm0:0≤r.Term
 tm1:r.Term≤1099511627776
 vt:inC r r.Vote
 ld:inC r r.Leader
 tc:Za4 FF r.Trail=some true
 tr:TrOk r.Trail
 sn:r.Snap.length≤60000
 cm0:r.Trail.Base≤r.Commit
 cm1:r.Commit≤r.Trail.Base+(r.Trail.Entries.length:Int)
 lf:0≤r.Left∧r.Left≤100
 wt:10≤r.Wait∧r.Wait<20
 rl:0≤r.Role∧r.Role≤2
 vo:r.Votes.length≤7∧(r.Role≠1→r.Votes=[])
 kn:(r.Role=2→KnOk r)∧(r.Role≠2→r.Next=[]∧r.Match=[])
structure Small(r:Zad):Prop where
 c:r.Conf.length≤1000000
 e:r.Trail.Entries.length≤1000000
 v:r.Votes.length≤1000000
 n:r.Next.length≤1000000
 m:r.Match.length≤1000000
theorem Zk8.small{r:Zad}(h:Zk8 r):Small r:=by
 have h7:=h.cf.n7
 refine⟨by omega,by have:=h.tr.len;omega,by have:=h.vo.1;omega,?_,?_⟩
 ·by_cases q:r.Role=2
  ·have:=(h.kn.1 q).nl;omega
  ·rw[(h.kn.2 q).1];simp
 ·by_cases q:r.Role=2
  ·have:=(h.kn.1 q).ml;omega
  ·rw[(h.kn.2 q).2];simp
theorem ZpP(r:Zad)(n:Int)(h:r.Conf.length≤1000000):Tot (Zcr FF n r) fun b=>b=true→inC r n:=by
 unfold Zcr
 refine tC (fun e=>.ret fun _=>.inl (by simpa using e)) fun _=>tB (ZdM _ _ (by omega)) fun b _ hb=>.ret fun e=>.inr (hb.1 e)
theorem Zi6(r:Zad)(hs:Small r):Tot (Zbg FF r) fun b=>b=true→Zk8 r:=by
 obtain⟨s1,s2,s3,s4,s5⟩:=hs
 unfold Zbg
 refine tB (Q:=fun b=>b=false→Zej r.Conf∧r.Id≠0∧inC r r.Id∧0≤r.Term∧r.Term≤1099511627776∧inC r r.Vote∧inC r r.Leader∧Za4 FF r.Trail=some true∧TrOk r.Trail) ?_ fun b _ hb=>tC (fun _=>.ret (by simp)) fun e=>?_
 ·refine tB (ZlH _) fun b _ h1=>tC (fun _=>.ret (by simp)) fun e1=>tC (fun _=>.ret (by simp)) fun e2=>tB (ZpP r _ s1) fun b3 _ h3=>tC (fun _=>.ret (by simp)) fun e3=>tT (fun _=>.ret (by simp)) fun e4=>tT (fun _=>.ret (by simp)) fun e5=>tB (ZpP r _ s1) fun b6 _ h6=>tC (fun _=>.ret (by simp)) fun e6=>tB (ZpP r _ s1) fun b7 _ h7=>tC (fun _=>.ret (by simp)) fun e7=>?_
  rcases chk r.Trail (by omega)with ⟨hc,ht⟩|hc
  ·exact tO hc (.ret fun _=>⟨h1 (by simpa using e1),by simpa using e2,h3 (by simpa using e3),by omega,by omega,h6 (by simpa using e6),h7 (by simpa using e7),hc,ht⟩)
  ·exact tO hc (.ret (by simp))
 obtain⟨c1,c2,c3,c4,c5,c6,c7,c8,c9⟩:=hb e
 have h7:=c1.n7
 refine tB (Ziw c8 c9) fun y _ hy=>?_
 refine tB (Q:=fun b=>b=false→r.Snap.length≤60000∧r.Trail.Base≤r.Commit∧r.Commit≤r.Trail.Base+(r.Trail.Entries.length:Int)∧(0≤r.Left∧r.Left≤100)∧10≤r.Wait∧r.Wait<20) ?_ fun b _ hb2=>tC (fun _=>.ret (by simp)) fun e2=>?_
 ·refine tT (fun _=>.ret (by simp)) fun a1=>tT (fun _=>.ret (by simp)) fun a2=>tT (fun _=>.ret (by simp)) fun a3=>tT (fun _=>.ret (by simp)) fun a4=>tT (fun _=>.ret (by simp)) fun a5=>tT (fun _=>.ret (by simp)) fun a6=>tT (fun _=>.ret (by simp)) fun a7=>.ret fun a8=>?_
  have a8:=Wd a8
  rw[hy.1]at a4
  exact⟨by omega,by omega,by omega,⟨by omega,by omega⟩,by omega,by omega⟩
 obtain⟨d1,d2,d3,d4,d5,d6⟩:=hb2 e2
 have sum:IntKind.wrap IntKind.i64 ((((List.map (cInt IntKind.i64) r.Next).length:Nat):Int)+(((List.map (cInt IntKind.i64) r.Match).length:Nat):Int))=((r.Next.length+r.Match.length:Nat):Int):=by
  rw[Ya,Ya,wi64 (by omega) (by omega)];omega
 refine tB (Q:=fun b=>b=false→(r.Role≠1→r.Votes=[])∧(r.Role≠2→r.Next=[]∧r.Match=[])) ?_ fun b _ hb3=>tC (fun _=>.ret (by simp)) fun e3=>?_
 ·have nx:∀b:Bool,b=decide ((0:Int)<((r.Next.length+r.Match.length:Nat):Int))→b=false→r.Next=[]∧r.Match=[]:=fun b hb e=>by
   rw[hb]at e;have:=Wd e
   exact⟨Yt.1 (by omega),Yt.1 (by omega)⟩
  rw[sum]
  refine tC (fun p1=>tT (fun _=>.ret (by simp)) fun q=>?_) fun p1=>?_
  ·have hv:r.Votes=[]:=Yt.1 (by omega)
   refine tC (fun p2=>.ret fun e=>⟨fun _=>hv,fun _=>nx _ rfl e⟩) fun p2=>.ret fun _=>⟨fun _=>hv,fun h=>absurd (by simpa using p2) h⟩
  ·have h1:r.Role=1:=by simpa using p1
   refine tC (fun p2=>.ret fun e=>⟨fun h=>absurd h1 h,fun _=>nx _ rfl e⟩) fun p2=>?_
   have:r.Role=2:=by simpa using p2
   omega
 obtain⟨v1,v2⟩:=hb3 e3
 have idc:r.Id∈r.Conf:=c3.resolve_left c2
 refine tC (fun p=>.ret fun _=>?_) fun p=>tC (fun p1=>?_) fun p1=>tC (fun p2=>?_) fun p2=>.ret (by simp)
 ·have h0:r.Role=0:=by simpa using p
  exact⟨c1,c2,idc,c4,c5,c6,c7,c8,c9,d1,d2,d3,d4,⟨d5,d6⟩,by omega,⟨by rw[v1 (by omega)];simp,v1⟩,fun h=>by omega,v2⟩
 ·have h0:r.Role=1:=by simpa using p1
  exact tB (ZoK r c1 (by omega)) fun b _ hb=>.ret fun e=>⟨c1,c2,idc,c4,c5,c6,c7,c8,c9,d1,d2,d3,d4,⟨d5,d6⟩,by omega,⟨by have:=Zma _ _ (hb e).1 (hb e).2;omega,v1⟩,fun h=>by omega,v2⟩
 ·have h0:r.Role=2:=by simpa using p2
  exact tB (ZpJ r c1 c8 c9) fun b _ hb=>.ret fun e=>⟨c1,c2,idc,c4,c5,c6,c7,c8,c9,d1,d2,d3,d4,⟨d5,d6⟩,by omega,⟨by rw[v1 (by omega)];simp,v1⟩,fun _=>hb e,v2⟩
set_option maxRecDepth 20000
def tEnd(t:Zag):Int:=t.Base+(t.Entries.length:Int)
def tAt(t:Zag)(n:Int):Option Int:=if n=t.Base then some t.BaseTerm else if t.Base<n then(t.Entries[(n-t.Base-1).toNat]?).map (·.Term)else none
structure TC(t:Zag):Prop where
 ck:Za4 FF t=some true
 ok:TrOk t
theorem Znn{t:Zag}{n:Int}(h:tAt t n=none):n<t.Base∨tEnd t<n:=by
 unfold tAt at h;unfold tEnd;split at h
 ·cases h
 ·split at h
  ·rw[Option.map_eq_none_iff,List.getElem?_eq_none_iff]at h;omega
  ·omega
theorem ZjF{t:Zag}{n x:Int}(h:tAt t n=some x):t.Base≤n∧n≤tEnd t:=by
 unfold tAt at h;unfold tEnd;split at h
 ·omega
 ·split at h
  ·rw[Ye]at h
   obtain⟨e,he, -⟩:=h
   have:=(YC.1 he).1;omega
  ·cases h
theorem ZqF{t:Zag}(h:TrOk t){n x:Int}(hx:tAt t n=some x):ZeY FF t n=some x:=by
 have hr:=ZjF hx
 have a0:=h.b0;have a1:=h.last
 unfold tEnd at hr;unfold ZeY;unfold tAt at hx
 by_cases q:n=t.Base
 ·rw[if_pos q]at hx;rw[q,show(t.Base==t.Base)=true by simp];exact hx
 ·rw[if_neg q,if_pos (by omega)]at hx
  rw[show(n==t.Base)=false by simpa using q,Y7,wi64 (x:=n-t.Base) (by omega) (by omega),wi64 (by omega) (by omega),Y2 (by omega:(0:Int)≤n-t.Base-1),Y4]
  rw[Ye]at hx
  obtain⟨e,he,rfl⟩:=hx
  rw[he];rfl
theorem TC.tTerm{t:Zag}(h:TC t)(n:Int):Zc2 FF t n=some ((tAt t n).getD 0,(tAt t n).isSome):=by
 have b0:=h.ok.b0;have b1:=h.ok.b1;have hl:=h.ok.len
 have e:=tlast b0 b1 (by omega)
 unfold Zc2;rw[h.ck,Y0,YP,Y7,e]
 cases hx:tAt t n with
 |none=>
  have:=Znn hx
  unfold tEnd at this
  by_cases q:n<t.Base
  ·rw[Y2 q];rfl
  ·rw[Yi q,Y7,Y0,Y2 (by omega)];rfl
 |some x=>
  have:=ZjF hx
  unfold tEnd at this
  rw[Yi (by omega:¬n<t.Base),Y7,Y0,Yi (by omega),Y0,Y7,ZqF h.ok hx];rfl
def tCut(t:Zag)(n x:Int):Zag:=Zag.mk n x (t.Entries.drop (n-t.Base).toNat)
theorem TC.cut{t:Zag}(h:TC t){n x:Int}(hx:tAt t n=some x):Ze6 FF t n=some (tCut t n x,true):=by
 have b0:=h.ok.b0;have b1:=h.ok.last
 have hr:=ZjF hx
 unfold tEnd at hr;unfold Ze6
 rw[h.tTerm,hx,Y0,wi64 (by omega) (by omega)]
 simp only[Option.isSome_some,YP,Y7]
 rw[Y2 (by omega:(0:Int)≤n-t.Base),Y2 (by omega:(n-t.Base).toNat≤t.Entries.length),Y2 (Yg _)]
 simp only[Y4]
 rw[Zgl _ (by have:=h.ok.len;simp;unfold LIM;omega)]
 rfl
theorem ZrY(t:Zag)(keep:Nat)(more:List Zab)(hk:keep≤t.Entries.length)(hl:t.Entries.length≤1000000)(hm:more.length≤1000000):
 (Zc1 FF t (keep:Int) more=some (Zag.mk t.Base t.BaseTerm (t.Entries.take keep++more),true)∧TC (Zag.mk t.Base t.BaseTerm (t.Entries.take keep++more)))∨Zc1 FF t (keep:Int) more=some (Zag.mk 0 0 [],false):=by
 unfold Zc1
 have e:(@Ab.cut (List AV) none (some (Operand.tmp 18)) (List.map Zab.c t.Entries) 0 keep).length=keep:=by simp;omega
 rw[Int.toNat_natCast,e,Y2 (by omega:(0:Int)≤(keep:Int)),Y2 (by omega:0≤keep),Y2 hk,Y2 (by unfold LIM;omega:keep≤LIM),Y2 (by unfold LIM;omega:keep+more.length≤LIM)]
 simp only[Y4]
 rcases chk (Zag.mk t.Base t.BaseTerm (t.Entries.take keep++more)) (by simp;omega)with ⟨hc,h⟩|hc
 ·rw[hc];exact .inl ⟨rfl,hc,h⟩
 ·rw[hc];exact .inr rfl
theorem TC.append{t:Zag}(h:TC t)(e:Zab):(ZdI FF t e=some (Zag.mk t.Base t.BaseTerm (t.Entries++[e]),true)∧TC (Zag.mk t.Base t.BaseTerm (t.Entries++[e])))∨∃x,ZdI FF t e=some (x,false):=by
 unfold ZdI;rw[h.ck,tlen,Y0,YP,Y7]
 rcases ZrY t t.Entries.length [e] (Yg _) (by have:=h.ok.len;omega) (by simp)with q|q
 ·rw[Wz]at q;rw[q.1];exact .inl ⟨rfl,q.2⟩
 ·rw[q];exact .inr ⟨_,rfl⟩
theorem Zr5{t:Zag}{e:Zab}{c:Int}(h:c≤tEnd t):tAt (Zag.mk t.Base t.BaseTerm (t.Entries++[e])) c=tAt t c:=by
 unfold tEnd at h;unfold tAt;simp only;split
 ·rfl
 ·split
  ·rw[Yn (by omega)]
  ·rfl
theorem ZqN{t:Zag}{n:Int}(x:Int)(h:t.Base≤n∧n≤tEnd t):tEnd (tCut t n x)=tEnd t:=by
 unfold tEnd at h⊢;unfold tCut;simp only[Yz];omega
theorem Zr4{t:Zag}{n:Int}(x:Int)(h:t.Base≤n){c:Int}(hc:n<c):tAt (tCut t n x) c=tAt t c:=by
 unfold tAt tCut;simp only
 rw[if_neg (by omega),if_pos hc,if_neg (by omega),if_pos (by omega),YM]
 congr 2;omega
theorem Zej.up{l:List Int}(h:Zej l):∀(d i:Nat) (a b:Int),l[i]? =some a→l[i+d+1]? =some b→a<b
 |0,i,a,b,h1,h2=>by
  obtain⟨x,y,g1,g2,g3⟩:=h.inc i (YC.1 h2).1
  rw[g1]at h1;cases h1
  rw[show i+0+1=i+1 from rfl,g2]at h2;cases h2
  exact g3
 |d+1,i,a,b,h1,h2=>by
  obtain⟨x,y,g1,g2,g3⟩:=h.inc i (by have:=(YC.1 h2).1;omega)
  rw[g1]at h1;cases h1
  have:=Zej.up h d (i+1) y b g2 (by rw[←h2];congr 1;omega)
  omega
theorem Zej.inj{l:List Int}(h:Zej l){i j:Nat}{a:Int}(h1:l[i]? =some a)(h2:l[j]? =some a):i=j:=by
 rcases WR i j with q|q|q
 ·have:=h.up (j-i-1) i a a h1 (by rw[←h2];congr 1;omega);omega
 ·exact q
 ·have:=h.up (i-j-1) j a a h2 (by rw[←h1];congr 1;omega);omega
theorem Zej.nd{l:List Int}(h:Zej l):l.Nodup:=by
 rw[List.nodup_iff_pairwise_ne,WE];intro i j hi hj hij e
 have:=h.inj (Y3 hi) (by rw[Y3 hj,←e])
 omega
def wn(conf set:List Int):List Int:=conf.filter fun c=>decide (c∈set)
theorem ZrZ{conf:List Int}(set:List Int)(hk:Zbu FF conf=some true)(hc:Zej conf)(hs:set.length≤2000000):ZdP FF conf set=some (decide (conf.length<2*(wn conf set).length)):=by
 have h7:=hc.n7
 have hw:(wn conf set).length≤conf.length:=WD ..
 have:=loopT (fun n (s:Int×Nat)=>Zcn FF conf set n s.1 (s.2:Int)) (fun s=>s.2≤conf.length∧s.1=((wn (conf.take s.2) set).length:Int)) (fun s=>conf.length-s.2) (fun r=>r=((wn conf set).length:Int)) (by
  rintro n ⟨c,i⟩ ⟨hi,hcn⟩ k;simp only at hi hcn k⊢;simp only[Zcn]
  refine tT (fun h=>?_) fun h=>.ret (by rw[hcn,YS (by omega)])
  have hwt:(wn (conf.take i) set).length≤i:=YV (WD ..) (by rw[Yw];omega)
  refine tB (Q:=fun r=>r=((wn (conf.take (i+1)) set).length:Int)) (tG (by omega) (tE (by simp;omega) fun y hy _=>tB (ZdM set y hs) fun b _ hb=>?_)) fun c' _ hc'=>?_
  ·rw[Int.toNat_natCast]at hy
   have e:(wn (conf.take (i+1)) set).length=(wn (conf.take i) set).length+if y∈set then 1 else 0:=by
    unfold wn;rw[W5,hy,List.filter_append,Yd]
    by_cases q:y∈set<;>simp[q]
   refine tC (fun q=>.ret ?_) fun q=>.ret ?_
   ·rw[hcn,w1 (by omega),e,if_pos (hb.1 q)]
   ·rw[hcn,e,if_neg (fun m=>by rw[hb.2 m]at q;cases q)];rfl
  ·rw[w1 (by omega)]
   exact k (c',i+1) ⟨by simp only;omega,hc'⟩ (by simp only;omega)) FF (0,0) ⟨Yv _,rfl⟩ (by simp only[FF];omega)
 obtain⟨r,e,rfl⟩:=this
 unfold ZdP
 have e2:Zcn FF conf set FF 0 0=some ((wn conf set).length:Int):=e
 rw[e2,Y0,hk,Y0,Y4,wi64 (by omega) (by omega)]
 congr 1
 exact decide_eq_decide.2 (by simp only[Ya];omega)
def Med(l:List Int)(k:Nat)(x:Int):Prop:=l.countP (fun y=>decide (y<x))≤k∧k<l.countP (fun y=>decide (y≤x))
theorem Med.uniq{l:List Int}{k:Nat}{x y:Int}(hx:Med l k x)(hy:Med l k y):x=y:=by
 rcases Int.lt_trichotomy x y with q|q|q
 ·have:l.countP (fun z=>decide (z≤x))≤l.countP (fun z=>decide (z<y)):=List.countP_mono_left fun z _ h=>by simp only[Ym]at h⊢;omega
  have:=hx.2;have:=hy.1;omega
 ·exact q
 ·have:l.countP (fun z=>decide (z≤y))≤l.countP (fun z=>decide (z<x)):=List.countP_mono_left fun z _ h=>by simp only[Ym]at h⊢;omega
  have:=hy.2;have:=hx.1;omega
def Srt(n:Nat)(l:List Int):Prop:=∀(a b:Nat) (x y:Int),a≤b→b<n→l[a]? =some x→l[b]? =some y→x≤y
theorem Srt.med{l:List Int}(h:Srt l.length l){k:Nat}{x:Int}(hx:l[k]? =some x):Med l k x:=by
 have hk:=(YC.1 hx).1
 have e:=WV (k+1) l
 have e0:=WV k l
 constructor
 ·rw[←e0,List.countP_append,(List.countP_eq_zero (l:=l.drop k)).2 fun y hy=>?_]
  ·have:=List.countP_le_length (p:=fun y=>decide (y<x)) (l:=l.take k)
   rw[Yw]at this;omega
  ·obtain⟨i,hi,rfl⟩:=YY hy
   have:=h k (k+i) x (l.drop k)[i] (by omega) (by rw[Yz]at hi;omega) hx (by rw[←YM,Y3 hi])
   simp only[Ym];omega
 ·rw[←e,List.countP_append,Vn.2 fun y hy=>?_]
  ·rw[Yw];omega
  ·obtain⟨i,hi,rfl⟩:=YY hy
   rw[Yw]at hi
   have:=h i k (l.take (k+1))[i] x (by omega) hk (by rw[←List.getElem?_take_of_lt (by omega:i<k+1),Y3]) hx
   simp only[Ym];omega
theorem Med.perm{l m:List Int}(h:List.Perm l m){k:Nat}{x:Int}(hx:Med l k x):Med m k x:=by
 unfold Med at*;rwa [←h.countP_eq,←h.countP_eq]
theorem Zsu(x y:Int):Zep FF x y=some (decide (x<y)):=by
 unfold Zep Zd3;simp only[Y0,bne_self_eq_false,Y7]
def InsI(m:List Int)(i j:Nat):Prop:=(∀(a b:Nat) (x y:Int),a≤b→b≤i→a≠j→b≠j→m[a]? =some x→m[b]? =some y→x≤y)∧∀(b:Nat) (x y:Int),j<b→b≤i→m[j]? =some x→m[b]? =some y→x≤y
theorem InsI.done{m:List Int}{i j:Nat}(h:InsI m i j)(hj:j=0∨∃x y,m[j-1]? =some x∧m[j]? =some y∧x≤y):Srt (i+1) m:=fun a b x y hab hb hx hy=>by
 by_cases p:a=j
 ·subst p
  by_cases q:b=a
  ·subst q;rw[hx]at hy;cases hy;exact Vj _
  ·exact h.2 b x y (by omega) (by omega) hx hy
 ·by_cases q:b=j
  ·subst q
   rcases hj with hj|⟨u,v,h1,h2,h3⟩
   ·omega
   ·rw[h2]at hy;cases hy
    by_cases z:a=b-1
    ·subst z;rw[h1]at hx;cases hx;exact h3
    ·have:=h.1 a (b-1) x u (by omega) (by omega) p (by omega) hx h1;omega
  ·exact h.1 a b x y hab (by omega) p q hx hy
theorem InsI.step{m:List Int}{i j:Nat}(h:InsI m i j)(hj:0<j)(hi:j≤i){x y:Int}(h1:m[j-1]? =some x)(h2:m[j]? =some y)(hl:y<x):InsI ((m.set j x).set (j-1) y) i (j-1):=by
 have l2:=(YC.1 h2).1
 have g:∀a,((m.set j x).set (j-1) y)[a]? =if a=j-1 then some y else if a=j then some x else m[a]? :=fun a=>by
  rw[List.getElem?_set,List.getElem?_set]
  grind
 constructor
 ·intro a b u v hab hb ha hb' hu hv
  rw[g,if_neg ha]at hu;rw[g,if_neg hb']at hv
  by_cases p:a=j
  ·rw[if_pos p]at hu;cases hu
   by_cases q:b=j
   ·rw[if_pos q]at hv;cases hv;exact Vj _
   ·rw[if_neg q]at hv
    exact h.1 (j-1) b x v (by omega) hb (by omega) q h1 hv
  ·rw[if_neg p]at hu
   by_cases q:b=j
   ·rw[if_pos q]at hv;cases hv
    exact h.1 a (j-1) u x (by omega) (by omega) p (by omega) hu h1
   ·rw[if_neg q]at hv
    exact h.1 a b u v hab hb p q hu hv
 ·intro b u v hb hbi hu hv
  rw[g,if_pos rfl]at hu;cases hu
  rw[g,if_neg (by omega)]at hv
  by_cases q:b=j
  ·rw[if_pos q]at hv;cases hv;omega
  ·rw[if_neg q]at hv
   have:=h.1 (j-1) b x v (by omega) hbi (by omega) q h1 hv;omega
theorem Zsb(l:List Int)(hl:l.length≤1000000)(i:Nat)(hi:i<l.length)(h:Srt i l):Tot (Zat FF 0 FF (i:Int) l) fun r=>List.Perm r l∧Srt (i+1) r:=by
 have:=loopT (fun n (s:Nat×List Int)=>Zat FF 0 n (s.1:Int) s.2) (fun s=>s.1≤i∧List.Perm s.2 l∧InsI s.2 i s.1) (fun s=>s.1) (fun r=>List.Perm r l∧Srt (i+1) r) (by
  rintro n ⟨j,m⟩ ⟨h1,h2,h3⟩ k;simp only at h1 h2 h3 k⊢
  have hm:=h2.length_eq
  simp only[Zat]
  refine tB (Q:=fun b=>(b=true→0<j∧∃x y,m[j-1]? =some x∧m[j]? =some y∧y<x)∧(b=false→j=0∨∃x y,m[j-1]? =some x∧m[j]? =some y∧x≤y)) (tT (fun h=>tG (by omega) (tE (by simp;omega) fun _ _ _=>tE (by simp;omega) fun y hy _=>?_)) fun _=>.ret ⟨by simp,fun _=>.inl (by omega)⟩) fun b _ hb=>tC (fun e=>?_) fun e=>.ret ⟨h2,h3.done (hb.2 e)⟩
  ·rw[wi64 (by omega) (by omega),show(j:Int)-1=((j-1:Nat):Int) by omega]
   rw[Int.toNat_natCast]at hy
   refine tG (by omega) (tE (by simp;omega) fun _ _ _=>tE (by simp;omega) fun x hx _=>tO (Zsu _ _) (.ret ?_))
   rw[Int.toNat_natCast]at hx
   exact⟨fun q=>⟨by omega,x,y,hx,hy,YD q⟩,fun q=>.inr ⟨x,y,hx,hy,by have:=Wd q;omega⟩⟩
  ·obtain⟨j0,x,y,hx,hy,hlt⟩:=hb.1 e
   rw[wi64 (x:=(j:Int)-1) (by omega) (by omega),show(j:Int)-1=((j-1:Nat):Int) by omega]
   simp only[Int.toNat_natCast];rw[hx,hy];simp only[Y0]
   refine tG (by omega) (tG (by omega) (tG (by omega) (tG (by omega) (tE (by simp;omega) fun _ _ _=>tE (by simp;omega) fun _ _ _=>?_))))
   refine k (j-1,_) ⟨by simp only;omega,?_,h3.step j0 h1 hx hy hlt⟩ (by simp only;omega)
   refine List.Perm.trans ?_ h2
   have a1:=(YC.1 hx);have a2:=(YC.1 hy)
   obtain⟨b1,rfl⟩:=a1;obtain⟨b2,rfl⟩:=a2
   exact List.set_set_perm b2 b1) FF (i,l) ⟨Yg _,List.Perm.refl _,fun a b x y h1 h2 h3 h4=>h a b x y h1 (by omega),fun b x y h1 h2=>by omega⟩ (by simp only[FF];omega)
 exact this
theorem ZqS(l:List Int)(hl:l.length≤12):Tot (ZbD FF l) fun r=>List.Perm r l∧Srt r.length r:=by
 have hins:Tot (Za0 FF 0 (l.length:Int) l) fun r=>List.Perm r l∧Srt r.length r:=by
  unfold Za0
  have:=loopT (fun n (s:Nat×List Int)=>ZaB FF 0 (l.length:Int) n (s.1:Int) s.2) (fun s=>s.1≤l.length+1∧List.Perm s.2 l∧Srt s.1 s.2) (fun s=>l.length+1-s.1) (fun r=>List.Perm r l∧Srt r.length r) (by
   rintro n ⟨i,m⟩ ⟨h1,h2,h3⟩ k;simp only at h1 h2 h3 k⊢
   have hm:=h2.length_eq
   simp only[ZaB]
   refine tT (fun h=>?_) fun _=>.ret ⟨h2,fun a b x y q1 q2=>h3 a b x y q1 (by omega)⟩
   refine tB (Q:=fun r=>List.Perm r l∧Srt (i+1) r) (tB (Zsb m (by omega) i (by omega) h3) fun r _ hr=>.ret ⟨hr.1.trans h2,hr.2⟩) fun r _ hr=>?_
   rw[w1 (by omega)]
   exact k (i+1,r) ⟨by simp only;omega,hr⟩ (by simp only;omega)) FF (1,l) ⟨by simp only;omega,List.Perm.refl _,fun a b x y h1 h2 hx hy=>by
    have a0:a=0:=by omega
    have b0:b=0:=by omega
    subst a0;subst b0;rw[hx]at hy;cases hy;exact Vj _⟩ (by simp only[FF];omega)
  rw[wi64 (by decide) (by decide)]
  exact tB this fun r _ hr=>.ret hr
 unfold ZbD;rw[Ya]
 refine tB (Q:=fun _=>True) ?_ fun y _ _=>tB (Q:=fun r=>List.Perm r l∧Srt r.length r) ?_ fun r _ hr=>.ret hr
 ·have:l.length=0∨l.length=1∨l.length=2∨l.length=3∨l.length=4∨l.length=5∨l.length=6∨l.length=7∨l.length=8∨l.length=9∨l.length=10∨l.length=11∨l.length=12:=by omega
  rcases this with h|h|h|h|h|h|h|h|h|h|h|h|h<;>rw[h]<;>exact⟨_,rfl,trivial⟩
 ·show Tot (Zba FF 0 (l.length:Int) y l (3999999+1)) _
  simp only[Zba]
  rw[wi64 (by omega) (by omega)]
  refine tT (fun _=>tB hins fun r _ hr=>.ret hr) fun h=>absurd h (by omega)
def ZgG(conf mt:List Int):List Zai:=List.zipWith Zai.mk conf mt
theorem ZqZ{conf mt:List Int}(hc:Zej conf)(hm:mt.length=conf.length){c x:Int}{p:Nat}(h1:conf[p]? =some c)(h2:mt[p]? =some x):Zcc FF (ZgG conf mt) c FF 0 0=some x:=by
 have h7:=hc.n7
 have hl:(ZgG conf mt).length=conf.length:=by unfold ZgG;rw[List.length_zipWith];omega
 have hp:=(YC.1 h1).1
 have:=loopT (fun n (s:Int×Nat)=>Zcc FF (ZgG conf mt) c n s.1 (s.2:Int)) (fun s=>s.2≤conf.length∧(p<s.2→s.1=x)) (fun s=>conf.length-s.2) (fun r=>r=x) (by
  rintro n ⟨z,i⟩ ⟨h3,h4⟩ k;simp only at h3 h4 k⊢;simp only[Zcc];rw[hl]
  refine tT (fun h=>?_) fun h=>.ret (h4 (by omega))
  refine tB (Q:=fun r=>p<i+1→r=x) (tG (by omega) (tE (by simp;omega) fun y hy _=>?_)) fun r _ hr=>?_
  ·rw[Int.toNat_natCast]at hy
   unfold ZgG at hy
   rw[List.getElem?_zipWith]at hy
   have a1:=Y3 (show i<conf.length by omega)
   have a2:=Y3 (show i<mt.length by omega)
   rw[a1,a2]at hy;cases hy
   refine tC (fun e=>.ret fun _=>?_) fun e=>.ret fun q=>?_
   ·have e:conf[i]=c:=by simpa using e
    have:=hc.inj (h1) (by rw[a1,e])
    subst this;rw[h2]at a2;cases a2;rfl
   ·refine h4 ?_
    have:p≠i:=fun z=>by
     subst z;rw[h1]at a1;cases a1;simp at e
    omega
  ·rw[w1 (by omega)]
   exact k (r,i+1) ⟨by simp only;omega,hr⟩ (by simp only;omega)) FF (0,0) ⟨Yv _,fun q=>by simp at q⟩ (by simp only[FF];omega)
 obtain⟨r,e,rfl⟩:=this
 exact e
theorem ZmO{conf mt:List Int}(hk:Zbu FF conf=some true)(hc:Zej conf)(hm:mt.length=conf.length):Tot (ZeM FF conf (ZgG conf mt)) (Med mt ((conf.length-1)/2)):=by
 have h7:=hc.n7;have h1:=hc.n1
 unfold ZeM;rw[hk,Y0,YP,Y7]
 have:=loopT (fun n (s:Nat×List Int)=>ZcH FF conf (ZgG conf mt) n (s.1:Int) s.2) (fun s=>s.1≤conf.length∧s.2=mt.take s.1) (fun s=>conf.length-s.1) (fun r=>r=mt) (by
  rintro n ⟨i,m⟩ ⟨h1,h2⟩ k;simp only at h1 h2 k⊢;simp only[ZcH]
  refine tT (fun h=>?_) fun h=>.ret (by rw[h2,YS (by omega)])
  refine tB (Q:=fun r=>r=mt.take (i+1)) (tG (by omega) (tE (by simp;omega) fun y hy _=>?_)) fun r _ hr=>?_
  ·rw[Int.toNat_natCast]at hy
   have a2:=Y3 (show i<mt.length by omega)
   refine tO (ZqZ hc hm hy a2) (tG (by rw[h2,Yw];unfold LIM;omega) (.ret ?_))
   rw[W5,a2,h2];rfl
  ·rw[w1 (by omega)]
   exact k (i+1,r) ⟨by simp only;omega,hr⟩ (by simp only;omega)) FF (0,[]) ⟨Yv _,by simp⟩ (by simp only[FF];omega)
 refine tB this fun l _ hl=>?_
 subst hl
 refine tB (ZqS l (by omega)) fun r _ hr=>?_
 have hrl:=hr.1.length_eq
 rw[Ya]
 have hd:Int.tdiv ((r.length:Int)-1) 2=(((r.length-1)/2:Nat):Int):=by
  rw[show(r.length:Int)-1=((r.length-1:Nat):Int) by omega];rfl
 rw[wi64 (x:=(r.length:Int)-1) (by omega) (by omega),hd,wi64 (by omega) (by omega)]
 refine tG (by omega) (tE (by simp;omega) fun _ _ _=>tE (by simp;omega) fun y hy _=>.ret ?_)
 rw[Int.toNat_natCast]at hy
 have:=(hr.2.med hy).perm hr.1
 rwa [hrl,hm]at this
theorem Med.own{mt:List Int}{k n:Nat}{a b c:Int}(hk:mt[k]? =some a)(hmax:∀x,x∈mt→x≤a)(hab:a≤b)(hn:n+1<mt.length)(h:Med (mt.set k b) n c):Med mt n c∧c≤a:=by
 obtain⟨hkl,hka⟩:=YC.1 hk
 have sp:∀(p:Int→Bool) (z:Int),(mt.set k z).countP p=(mt.take k).countP p+(if p z then 1 else 0)+(mt.drop (k+1)).countP p:=fun p z=>by
  rw[List.set_eq_take_append_cons_drop,if_pos hkl,List.countP_append,List.countP_cons];omega
 have sq:∀p:Int→Bool,mt.countP p=(mt.take k).countP p+(if p a then 1 else 0)+(mt.drop (k+1)).countP p:=fun p=>by
  rw[←sp p a,show mt.set k a=mt by rw[←hka,List.set_getElem_self]]
 have l1:(mt.take k).length=k:=by rw[Yw];omega
 have l2:(mt.drop (k+1)).length=mt.length-(k+1):=Yz
 obtain⟨h1,h2⟩:=h
 rw[sp]at h1 h2;unfold Med;rw[sq,sq]
 by_cases q:a<c
 ·
  exfalso
  have f1:(mt.take k).countP (fun y=>decide (y<c))=(mt.take k).length:=Vn.2 fun x hx=>by have:=hmax x (YZ hx);simp only[Ym];omega
  have f2:(mt.drop (k+1)).countP (fun y=>decide (y<c))=(mt.drop (k+1)).length:=Vn.2 fun x hx=>by have:=hmax x (Wc hx);simp only[Ym];omega
  omega
 ·have e1:(if(decide (a<c)=true)then 1 else 0)=0:=if_neg (by simpa using q)
  have e2:(if(decide (b≤c)=true)then 1 else 0)≤(if(decide (a≤c)=true)then 1 else 0):=by
   by_cases z:b≤c
   ·rw[if_pos (by simpa using z),if_pos (by simp;omega)];exact Yg _
   ·rw[if_neg (by simpa using z)];omega
  refine⟨⟨?_,?_⟩,by omega⟩
  ·rw[e1];omega
  ·omega
theorem ZhP(l:List Int)(h:l.length≤LIM):Zaz FF l=some l:=by
 unfold Zaz;rw[Y2 h];rfl
theorem ZiX(l:List Int)(h:l.length≤LIM):ZaG FF l=some l:=by
 unfold ZaG;rw[Y2 h];rfl
theorem lim(n:Nat)(h:n≤1000000):n≤LIM:=by unfold LIM;omega
theorem Zqf(r:Zad)(h:Small r):Zgb FF r=some r:=by
 unfold Zgb;rw[ZhP _ (lim _ h.c),ZhP _ (lim _ h.v),ZiX _ (lim _ h.n),ZiX _ (lim _ h.m),Zgl _ (lim _ h.e)];rfl
def hd(r:Zad):Zah:=Zah.mk r.Id r.Conf r.Term r.Vote r.Role r.Leader r.Trail r.Snap r.Commit r.Left r.Wait
theorem ZjG(r:Zad)(h:Small r):Ze0 FF r=some (hd r,r.Votes,r.Next,r.Match,[]):=by
 unfold Ze0 Zfz;rw[ZhP _ (lim _ h.c),ZhP _ (lim _ h.v),ZiX _ (lim _ h.n),ZiX _ (lim _ h.m),Zgl _ (lim _ h.e)];rfl
theorem Zi5(r:Zad)(h:Small r):Zbt FF r=some (Zad.mk r.Id r.Conf r.Term r.Vote 0 0 r.Trail r.Snap r.Trail.Base 10 10 [] [] []):=by
 unfold Zbt;rw[Zqf r h];rfl
structure NdOk(h:Zah):Prop where
 cf:Zej h.Conf
 idc:h.Id∈h.Conf
 tc:TC h.Trail
 qk:Zbu FF h.Conf=some true
theorem NdOk.tl{h:Zah}(n:NdOk h):h.Trail.Entries.length≤10000:=by have:=n.tc.ok.len;omega
def MB(m:Zac):Prop:=m.Kind<9223372036854775808∧m.From<9223372036854775808∧m.To<9223372036854775808∧m.Term<9223372036854775808∧m.Index<9223372036854775808∧m.LogTerm<9223372036854775808∧m.Commit<9223372036854775808∧∀e,e∈m.Entries→e.Term<9223372036854775808
def MC(C:List Int)(m:Zac):Prop:=MB m∧m.From∈C∧m.To≠m.From
structure NumOk(h:Zah):Prop where
 id:h.Id<9223372036854775808
 cf:∀c,c∈h.Conf→c<9223372036854775808
 tm:h.Term<9223372036854775808
 cm:h.Commit<9223372036854775808
 bs:h.Trail.Base<9223372036854775808
 bt:h.Trail.BaseTerm<9223372036854775808
theorem ZfR(m:Zac)(h:Zah)(a b c:List Int)(out:List Zac)(ho:out.length≤1000):
 ZaU FF m h a b c out=some (h,out++[Zac.mk m.Kind h.Id m.To h.Term m.Index m.LogTerm m.Commit m.Yes m.Entries m.Data]):=by
 unfold ZaU
 rw[Y2 (show out.length+1≤LIM by unfold LIM;omega)]
 rfl
theorem wlt(x:Int):IntKind.wrap IntKind.i64 x<9223372036854775808:=by rw[YG];omega
theorem Zo0(t:Zag)(f:Int)(hf:f≤2000000000000)(hf0: -2000000000000≤f)(hl:t.Entries.length≤10000):Tot (Zf7 FF t f 8) fun r=>∀e,e∈r→e.Term<9223372036854775808:=by
 unfold Zf7
 rcases chk t (by omega)with ⟨hc,h⟩|hc
 ·have h0:=h.b0;have h1:=h.b1
  have hlast:=tlast h0 h1 (by omega)
  refine tB (Q:=fun b=>b=false→f≤t.Base+(t.Entries.length:Int)) (tO hc ?_) fun b _ hb=>tC (fun _=>.ret (by simp)) fun e=>?_
  ·simp only[YP,Y7,hlast,Y0]
   exact tT (fun _=>.ret (by simp)) fun h=>.ret fun _=>by omega
  have hf2:=hb e
  rw[wi64 (x:=t.Base+1) (by omega) (by omega)]
  generalize hg:(if t.Base+1>f then t.Base+1 else f)=g
  have hg1:t.Base+1≤g∧g≤t.Base+(t.Entries.length:Int)∨g=t.Base+1:=by split at hg<;>omega
  rw[wi64 (x:=g-t.Base) (by omega) (by omega),wi64 (x:=g-t.Base-1) (by omega) (by omega)]
  have hk:(g-t.Base-1).toNat≤t.Entries.length:=by omega
  generalize hkk:(g-t.Base-1).toNat=kk at hk⊢;simp only[ZrO,Yz,Ya]
  generalize hq:(if((t.Entries.length-kk:Nat):Int)<8 then((t.Entries.length-kk:Nat):Int)else 8)=q
  have hq1:0≤q∧q≤((t.Entries.length-kk:Nat):Int):=by split at hq<;>omega
  exact tG (by omega) (tG hk (tG (Yg _) (tG hq1.1 (tG (Yv _) (tG (by omega) (tO (Zgl _ (by rw[Yw,Yz];unfold LIM;omega)) (.ret fun e he=>by have:=h.ent e (Wc (YZ he));omega)))))))
 ·refine tB (Q:=fun b=>b=true) (tO hc (.ret rfl)) fun b _ hb=>tC (fun _=>.ret (by simp)) fun e=>by rw[hb]at e;cases e
structure NxOk(h:Zah)(nx mt:List Int):Prop where
 nl:nx.length=h.Conf.length
 ml:mt.length=h.Conf.length
 nb:∀x,x∈nx→ -1000000000000≤x∧x≤1900000000000
theorem Zlp(h:Zah)(v nx mt:List Int)(out:List Zac)(hn:NdOk h)(hu:NumOk h)(hx:NxOk h nx mt)(ho:out.length≤1000)(i:Nat)(hi:i<h.Conf.length)(hne:∀c,h.Conf[i]? =some c→c≠h.Id):
 Tot (Zcg FF (i:Int) h v nx mt out) fun r=>r.1=h∧∃m,r.2=out++[m]∧MC h.Conf m:=by
 have hl:=hx.nl
 unfold Zcg
 refine tG (by omega) (tE (by simp;omega) fun y hy hm=>tE (by simp;omega) fun y2 hy2 hm2=>?_)
 have hb:=hx.nb _ hm2
 refine tT (fun _=>tG (by omega) (tE (by simp;omega) fun c hc0 hc=>tO (ZfR _ h v nx mt out ho) (.ret ⟨rfl,_,rfl,?_⟩))) fun _=>?_
 ·exact⟨⟨show(5:Int)<_ by decide,hu.id,hu.cf _ hc,hu.tm,hu.bs,hu.bt,show(0:Int)<_ by decide,fun e he=>by cases he⟩,hn.idc,hne c (by rwa [Int.toNat_natCast]at hc0)⟩
 ·refine tB (Zhy _ _ (by have:=hn.tl;omega)) fun z _ hz=>tG (by omega) (tE (by simp;omega) fun c hc0 hc=>tB (Zo0 _ _ (by omega) (by omega) hn.tl) fun s _ hs=>tO (ZfR _ h v nx mt out ho) (.ret ⟨rfl,_,rfl,?_⟩))
  exact⟨⟨show(3:Int)<_ by decide,hu.id,hu.cf _ hc,hu.tm,wlt _,show z.1<9223372036854775808 by have:=hz.2.2;omega,hu.cm,hs⟩,hn.idc,hne c (by rwa [Int.toNat_natCast]at hc0)⟩
theorem Zik(h:Zah)(v nx mt:List Int)(out:List Zac)(hn:NdOk h)(hu:NumOk h)(hx:NxOk h nx mt)(ho:out.length≤900)(hm:∀m,m∈out→MC h.Conf m):
 Tot (ZbI FF h v nx mt out) fun r=>r.1=h∧r.2.1=v∧r.2.2.1=nx∧r.2.2.2.1=mt∧r.2.2.2.2.length≤out.length+7∧∀m,m∈r.2.2.2.2→MC h.Conf m:=by
 have h7:=hn.cf.n7
 unfold ZbI
 have:=loopT (fun n (s:Nat×Zah×List Zac)=>ZbC FF h v nx mt n (s.1:Int) s.2.1 s.2.2) (fun s=>s.1≤h.Conf.length∧s.2.1=h∧s.2.2.length≤out.length+s.1∧∀m,m∈s.2.2→MC h.Conf m) (fun s=>h.Conf.length-s.1)
  (fun r=>r.1=h∧r.2.length≤out.length+7∧∀m,m∈r.2→MC h.Conf m) (by
   rintro n ⟨i,g,o⟩ ⟨h1,h2,h3,h4⟩ k;simp only at h1 h2 h3 h4 k⊢;subst h2;simp only[ZbC]
   refine tT (fun q=>?_) fun _=>.ret ⟨rfl,by simp only;omega,h4⟩
   refine tB (Q:=fun r=>r.1=g∧r.2.length≤out.length+(i+1)∧∀m,m∈r.2→MC g.Conf m) (tG (by omega) (tE (by simp;omega) fun y hy _=>tC (fun ec=>tB (Zlp g v nx mt o hn hu hx (by omega) i (by omega) fun c e=>by rw[Int.toNat_natCast,e]at hy;cases hy;simpa using ec) fun r _ hr=>.ret (by
    obtain⟨e,m,e2,hb⟩:=hr
    refine⟨e,by rw[e2];simp;omega,fun m' hm'=>?_⟩
    rw[e2,Yy,YB]at hm'
    rcases hm' with q|rfl
    ·exact h4 _ q
    ·exact hb)) fun _=>.ret ⟨rfl,by simp only;omega,h4⟩)) fun r _ hr=>?_
   rw[w1 (by omega)]
   exact k (i+1,r.1,r.2) ⟨by simp only;omega,hr.1,hr.2.1,hr.2.2⟩ (by simp only;omega)) FF (0,h,out) ⟨Yv _,rfl,Yg _,hm⟩ (by simp only[FF];omega)
 exact tB this fun r _ hr=>.ret ⟨hr.1,rfl,rfl,rfl,hr.2⟩
theorem ZfD(h:Zah)(v nx mt:List Int)(out:List Zac)(hl:h.Trail.Entries.length≤10000):Tot (Za2 FF h v nx mt out) fun r=> -1≤r∧r≤1099511627776∧(Za4 FF h.Trail=some true→TrOk h.Trail→r=h.Trail.Base+(h.Trail.Entries.length:Int)):=by
 unfold Za2
 rcases chk h.Trail (by omega)with ⟨hc,ht⟩|hc
 ·have:=ht.b0;have:=ht.last
  exact tB (Ziw hc ht) fun y _ hy=>.ret ⟨by omega,by omega,fun _ _=>hy.1⟩
 ·have:Zb6 FF h.Trail=some (0,0):=by unfold Zb6;rw[hc];rfl
  exact tO this (.ret ⟨by decide,by decide,fun q=>by rw[hc]at q;cases q⟩)
theorem Zpk(h:Zah)(v nx mt:List Int)(out:List Zac)(hn:NdOk h)(hx:NxOk h nx mt):Tot (Zch FF h v nx mt out) fun r=>NxOk h r.1 r.2∧∃k:Nat,h.Conf[k]? =some h.Id∧r.2=mt.set k (tEnd h.Trail):=by
 have h7:=hn.cf.n7
 have e1:=hx.nl;have e2:=hx.ml
 unfold Zch
 refine tB (Zj9 _ _ (by omega)) fun i _ hi=>tB (ZfD h v nx mt out hn.tl) fun a _ ha=>tB (ZfD h v nx mt out hn.tl) fun b _ hb=>?_
 have h0:=hi.2.2.2 hn.idc
 have h1:=hi.2.1
 refine tG h0 (tE (by omega) fun _ _ _=>tE (by omega) fun _ _ _=>tG h0 (tE (by omega) fun _ _ _=>tE (by omega) fun _ _ _=>.ret ⟨⟨by simpa using e1,by simpa using e2,fun x hx'=>?_⟩,i.toNat,hi.2.2.1 h0,?_⟩))
 ·rcases List.mem_or_eq_of_mem_set hx' with q|q
  ·exact hx.nb _ q
  ·subst q;rw[wi64 (by omega) (by omega)];omega
 ·first|rw[ha.2.2 hn.tc.ck hn.tc.ok];rfl|rw[hb.2.2 hn.tc.ck hn.tc.ok];rfl
theorem rep1(x:Int):Zaq FF [x] 1=some (List.replicate 1 x):=by kernel_rfl
theorem rep2(x:Int):Zaq FF [x] 2=some (List.replicate 2 x):=by kernel_rfl
theorem rep3(x:Int):Zaq FF [x] 3=some (List.replicate 3 x):=by kernel_rfl
theorem rep4(x:Int):Zaq FF [x] 4=some (List.replicate 4 x):=by kernel_rfl
theorem rep5(x:Int):Zaq FF [x] 5=some (List.replicate 5 x):=by kernel_rfl
theorem rep6(x:Int):Zaq FF [x] 6=some (List.replicate 6 x):=by kernel_rfl
theorem rep7(x:Int):Zaq FF [x] 7=some (List.replicate 7 x):=by kernel_rfl
theorem Zn9(x:Int)(k:Nat)(h1:1≤k)(h7:k≤7):Zaq FF [x] (k:Int)=some (List.replicate k x):=by
 have:k=1∨k=2∨k=3∨k=4∨k=5∨k=6∨k=7:=by omega
 rcases this with h|h|h|h|h|h|h<;>subst h
 ·exact rep1 x
 ·exact rep2 x
 ·exact rep3 x
 ·exact rep4 x
 ·exact rep5 x
 ·exact rep6 x
 ·exact rep7 x
def hC(h:Zah)(c:Int):Zah:=Zah.mk h.Id h.Conf h.Term h.Vote h.Role h.Leader h.Trail h.Snap c h.Left h.Wait
def AF(h:Zah)(mt:List Int):Prop:=∀c,Med mt ((h.Conf.length-1)/2) c→h.Commit<c→tAt h.Trail c≠some h.Term
def OA(h:Zah)(mt:List Int):Prop:=(∀k:Nat,h.Conf[k]? =some h.Id→mt[k]? =some (tEnd h.Trail))∧AF h mt
theorem TC.app_tot{t:Zag}(h:TC t)(e:Zab):Tot (ZdI FF t e) fun r=>r.2=true→r.1=Zag.mk t.Base t.BaseTerm (t.Entries++[e])∧TC r.1:=by
 rcases h.append e with ⟨a,b⟩|⟨x,a⟩
 ·exact⟨_,a,fun _=>⟨rfl,b⟩⟩
 ·exact⟨_,a,by simp⟩
theorem Zkr(h:Zah)(v nx mt:List Int)(out:List Zac)(hn:NdOk h)(hx:NxOk h nx mt):
 Tot (Zb2 FF h v nx mt out) fun g=>∃c,g=hC h c∧(c=h.Commit∨c≤1099511627776)∧AF g mt∧(AF h mt→c=h.Commit):=by
 have h7:=hn.cf.n7
 have h2:=hx.ml
 unfold Zb2
 have:=loopT (fun n (s:Nat×List Zai)=>Zbw FF h mt n (s.1:Int) s.2) (fun s=>s.1≤h.Conf.length∧s.2=(ZgG h.Conf mt).take s.1) (fun s=>h.Conf.length-s.1) (fun r=>r=ZgG h.Conf mt) (by
  rintro n ⟨i,m⟩ ⟨h3,h4⟩ k;simp only at h3 h4 k⊢
  have hl:(ZgG h.Conf mt).length=h.Conf.length:=by unfold ZgG;rw[List.length_zipWith];omega
  simp only[Zbw]
  refine tT (fun q=>?_) fun q=>.ret (by rw[h4,YS (by omega)])
  refine tG (by omega) (tE (by simp;omega) fun y hy _=>tG (by omega) (tE (by simp;omega) fun z hz _=>tE (by simp;omega) fun z2 hz2 _=>tG (by rw[h4,Yw];unfold LIM;omega) ?_))
  rw[hz]at hz2;cases hz2;rw[Int.toNat_natCast]at hy hz
  rw[w1 (by omega)]
  refine k (i+1,_) ⟨by simp only;omega,?_⟩ (by simp only;omega)
  simp only;rw[W5,h4];unfold ZgG
  rw[List.getElem?_zipWith,hy,hz];rfl) FF (0,[]) ⟨Yv _,by simp⟩ (by simp only[FF];omega)
 obtain⟨r,e,rfl⟩:=this
 have e2:Zbw FF h mt FF 0 []=some (ZgG h.Conf mt):=e
 rw[e2,Y0]
 refine tB (ZmO hn.qk hn.cf h2) fun c _ hmd=>?_
 rw[hn.tc.tTerm,Y0]
 have key:∀b,(b=true↔tAt h.Trail c=some h.Term∧h.Commit<c)→Tot (bif b then some (Zah.mk h.Id h.Conf h.Term h.Vote h.Role h.Leader h.Trail h.Snap c h.Left h.Wait)else some h) fun g=>∃c,g=hC h c∧(c=h.Commit∨c≤1099511627776)∧AF g mt∧(AF h mt→c=h.Commit):=fun b hb=>by
  refine tC (fun e=>.ret ⟨c,rfl,.inr ?_,fun d hd hlt=>?_,fun k=>?_⟩) fun e=>.ret ⟨h.Commit,rfl,.inl rfl,fun d hd hlt hx=>?_,fun _=>rfl⟩
  ·have:=(ZjF (hb.1 e).1).2;have:=hn.tc.ok.last;unfold tEnd at*;omega
  ·rw[hmd.uniq hd]at hlt;exact absurd hlt (Int.lt_irrefl _)
  ·exact absurd (hb.1 e).1 (k c hmd (hb.1 e).2)
  ·rw[←hmd.uniq hd]at hlt hx;rw[hb.2 ⟨hx,hlt⟩]at e;cases e
 cases hx:tAt h.Trail c with
 |none=>
  simp only[Option.isSome_none,Y7,Y0]
  exact key false (by rw[hx];simp)
 |some x=>
  simp only[Option.isSome_some,Y4,Yu]
  refine tB (Q:=fun b=>b=true↔tAt h.Trail c=some h.Term∧h.Commit<c) (tT (fun q=>.ret ?_) fun q=>.ret ?_) fun b _ hb=>key b hb
  ·rw[hx];simp[q]
  ·rw[hx];simp;intro;omega
structure NS(h:Zah)(out:List Zac)(k:Nat):Prop where
 nd:NdOk h
 nu:NumOk h
 ol:out.length≤k
 om:∀m,m∈out→MC h.Conf m
theorem ZnJ(h:Zah)(v nx mt:List Int)(out:List Zac)(hs:NS h out 100):
 Tot (ZcJ FF h v nx mt out) fun r=>NS r.1 r.2.2.2.2 107∧r.1.Conf=h.Conf∧r.1.Id=h.Id∧r.2.1=[]∧r.2.2.1.length≤7∧r.2.2.2.1.length≤7∧OA r.1 r.2.2.2.1:=by
 obtain⟨hn,hu,ho,hm⟩:=hs
 have h7:=hn.cf.n7;have h1:=hn.cf.n1
 unfold ZcJ
 refine tB (ZfD _ _ _ _ _ hn.tl) fun a _ ha=>?_
 rw[Ya,wi64 (x:=a+1) (by omega) (by omega)]
 refine tO (Zn9 (a+1) h.Conf.length h1 h7) (tG (by omega) (tG (by unfold LIM;omega) (tB (hn.tc.app_tot _) fun t _ ht=>?_)))
 refine tB (Q:=fun g:Zah=>NdOk g∧NumOk g∧g.Conf=h.Conf∧g.Id=h.Id) ?_ fun g _ hg=>?_
 ·refine tC (fun e=>.ret ?_) fun _=>.ret ⟨⟨hn.cf,hn.idc,hn.tc,hn.qk⟩,⟨hu.id,hu.cf,hu.tm,hu.cm,hu.bs,hu.bt⟩,rfl,rfl⟩
  obtain⟨t1,t2⟩:=ht e
  exact⟨⟨hn.cf,hn.idc,t2,hn.qk⟩,⟨hu.id,hu.cf,hu.tm,hu.cm,show t.1.Base<_ by rw[t1];exact hu.bs,show t.1.BaseTerm<_ by rw[t1];exact hu.bt⟩,rfl,rfl⟩
 obtain⟨gn,gu,gc,gi⟩:=hg
 have hx0:NxOk g (List.replicate h.Conf.length (a+1)) (List.replicate (Int.toNat ((h.Conf.length:Nat):Int)) 0):=by
  rw[Int.toNat_natCast]
  exact⟨by rw[WU,gc],by rw[WU,gc],fun x hx=>by rw[List.eq_of_mem_replicate hx];omega⟩
 refine tB (Zpk g [] _ _ out gn hx0) fun o _ ho=>?_
 obtain⟨hx,k,k1,k2⟩:=ho
 refine tB (Zkr g [] _ _ out gn hx) fun q _ hq=>?_
 obtain⟨c,rfl,c1,c2, -⟩:=hq
 have qn:NdOk (hC g c):=⟨gn.cf,gn.idc,gn.tc,gn.qk⟩
 have qu:NumOk (hC g c):=⟨gu.id,gu.cf,gu.tm,show c<_ by have:=gu.cm;rcases c1 with q|q<;>omega,gu.bs,gu.bt⟩
 have qx:NxOk (hC g c) o.1 o.2:=⟨hx.nl,hx.ml,hx.nb⟩
 refine tB (Zik (hC g c) [] o.1 o.2 out qn qu qx (by omega) (by show∀m,m∈out→MC g.Conf m;rw[gc];exact hm)) fun r _ hr=>.ret ?_
 obtain⟨r1,r2,r3,r4,r5,r6⟩:=hr
 have e1:=hx.nl;have e2:=hx.ml
 rw[r1,r2,r3,r4]
 refine⟨⟨qn,qu,by simp only;omega,r6⟩,gc,gi,rfl,by rw[e1,gc];exact h7,by rw[e2,gc];exact h7,fun j hj=>?_,c2⟩
 have:=gn.cf.inj k1 (show g.Conf[j]? =some g.Id from hj)
 subst this
 rw[k2,WP (by rw[WU,Int.toNat_natCast,←gc];exact(YC.1 k1).1)];rfl
end Go.T
