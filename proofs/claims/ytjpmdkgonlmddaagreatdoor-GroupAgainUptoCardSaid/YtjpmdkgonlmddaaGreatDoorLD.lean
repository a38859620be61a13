import Derived.Test.YtjpmdkgonlmddaaGreatDoorLB
import Derived.KernelRfl
set_option linter.unusedVariables false
namespace Go.T
open Go Go.Ab
theorem tlen(t:Zai):(List.map Zab.c t.Entries).length=t.Entries.length:=List.length_map ..
theorem tlast{t:Zai}(h0:0≤t.Base)(h1:t.Base≤1099511627776)(hl:t.Entries.length≤2000000):Zdr FF t=some (t.Base+(t.Entries.length:Int)):=by
 unfold Zdr;rw[tlen,wi64 (by omega) (by omega)]
theorem Zqq(t:Zai)(hl:t.Entries.length≤2000000):Tot (Za4 FF t) fun b=>b=true→TrOk t:=by
 unfold Za4
 refine Tot.test (fun h0=>?_) fun _=>.ret (by simp)
 refine Tot.test (fun h1=>?_) fun _=>.ret (by simp)
 refine Tot.test (fun h2=>?_) fun _=>.ret (by simp)
 refine Tot.test (fun h3=>?_) fun _=>.ret (by simp)
 have fin:Tot (Option.bind (Zdr FF t) fun y=>(bif decide (y≤(1099511627776:Int))then(Option.bind (ZdG FF t.BaseTerm t.Entries) fun y=>some y)else some false)) fun b=>b=true→((t.Entries.length:Int)≤4096)→TrOk t:=by
  refine Tot.of (tlast h0 h1 hl) (Tot.test (fun h5=>?_) fun _=>.ret (by simp))
  exact Tot.bind (Zk3 _ _ hl) fun y _ hy=>.ret fun e h4=>⟨h0,h1,h2,h3,by omega,h5,hy e⟩
 refine Tot.test (fun _=>Tot.test (fun h4=>fin.mono fun b h e=>h e h4) fun _=>.ret (by simp)) fun _=>Tot.cond (fun _=>Tot.test (fun h4=>fin.mono fun b h e=>h e h4) fun _=>.ret (by simp)) fun _=>.ret (by simp)
theorem Znt{t:Zai}(h:TrOk t){n:Int}(h1:t.Base≤n)(h2:n≤t.Base+(t.Entries.length:Int)):Tot (Zf0 FF t n) fun r=>0≤r∧r≤1099511627776:=by
 obtain⟨a0,a1,a2,a3,a4,a5,a6⟩:=h
 unfold Zf0
 refine Tot.cond (fun _=>.ret ⟨a2,a3⟩) fun hn=>?_
 have hn:n≠t.Base:=by simpa using hn
 rw[wi64 (x:=n-t.Base) (by omega) (by omega),wi64 (by omega) (by omega)]
 refine Tot.grd (by omega) (Tot.get (by omega) fun y _ hy=>.ret ?_)
 have:=a6 y hy;omega
theorem chk(t:Zai)(hl:t.Entries.length≤2000000):(Za4 FF t=some true∧TrOk t)∨Za4 FF t=some false:=by
 obtain⟨b,hb,h⟩:=Zqq t hl
 cases b with
 |true=>exact .inl ⟨hb,h rfl⟩
 |false=>exact .inr hb
theorem ZiC{t:Zai}(hc:Za4 FF t=some true)(h:TrOk t):Tot (Zb5 FF t) fun r=>r.1=t.Base+(t.Entries.length:Int)∧0≤r.2∧r.2≤1099511627776:=by
 have hl:=tlast h.b0 h.b1 (by have:=h.len;omega)
 unfold Zb5
 have:=h.b0;have:=h.b1
 simp only[hc,hl,Option.bind_some,Bool.not_true,cond_false]
 exact Tot.bind (Znt h (by omega) (by omega)) fun y _ hy=>.ret ⟨rfl,hy⟩
theorem Zo5(t:Zai)(hl:t.Entries.length≤2000000):Tot (Zb5 FF t) fun _=>True:=by
 rcases chk t hl with ⟨hc,h⟩|hc
 ·exact(ZiC hc h).mono fun _ _=>trivial
 ·unfold Zb5;exact Tot.of hc (.ret trivial)
theorem ZgD(t:Zai)(n:Int)(hl:t.Entries.length≤2000000):Tot (Zd6 FF t n) fun r=>(r.2=true→TrOk t∧t.Base≤n∧n≤t.Base+(t.Entries.length:Int))∧0≤r.1∧r.1≤1099511627776:=by
 unfold Zd6
 rcases chk t hl with ⟨hc,h⟩|hc
 ·have hl:=tlast h.b0 h.b1 hl
  refine Tot.bind (Q:=fun b=>b=false→t.Base≤n∧n≤t.Base+(t.Entries.length:Int)) (Tot.of hc (Tot.test (fun _=>.ret (by simp)) fun h1=>Tot.of hl (.ret fun h2=>⟨by omega,by have:=of_decide_eq_false h2;omega⟩)))
   fun b _ hb=>Tot.cond (fun _=>.ret ⟨by simp,by decide,by decide⟩) fun e=>?_
  obtain⟨h1,h2⟩:=hb e
  exact Tot.bind (Znt h h1 h2) fun y _ hy=>.ret ⟨fun _=>⟨h,h1,h2⟩,hy⟩
 ·simp only[hc,Option.bind_some,Bool.not_false,cond_true]
  exact .ret ⟨by simp,by decide,by decide⟩
theorem ZpG(t:Zai)(n f:Int)(hl:t.Entries.length≤2000000):Tot (Ze0 FF t n f) fun _=>True:=by
 unfold Ze0
 rcases chk t hl with ⟨hc,h⟩|hc
 ·exact Tot.of hc (Tot.bind (Zo5 t hl) fun y _ _=>Tot.cond (fun _=>.ret trivial) fun _=>Tot.cond (fun _=>.ret trivial) fun _=>.ret trivial)
 ·exact Tot.of hc (.ret trivial)
theorem ZgP(l:List Zab)(h:l.length≤LIM):Zal FF l=some l:=by
 unfold Zal;rw[decide_eq_true h];rfl
theorem Znp(t:Zai)(keep:Nat)(more:List Zab)(hk:keep≤t.Entries.length)(hl:t.Entries.length≤1000000)(hm:more.length≤1000000):
 Tot (Zet FF t (keep:Int) more) fun r=>r.2=true→TrOk r.1∧r.1.Base=t.Base∧r.1.BaseTerm=t.BaseTerm∧r.1.Entries=t.Entries.take keep++more:=by
 unfold Zet
 have e:(@cut (List AV) none (some (Operand.tmp 18)) (List.map Zab.c t.Entries) 0 keep).length=keep:=by simp;omega
 rw[Int.toNat_natCast,e]
 refine Tot.grd (by omega) (Tot.grd (by omega) (Tot.grd hk (Tot.grd (by unfold LIM;omega) (Tot.grd (by unfold LIM;omega) ?_))))
 rcases chk (Zai.mk t.Base t.BaseTerm (t.Entries.take keep++more)) (by simp;omega)with ⟨hc,h⟩|hc
 ·exact Tot.of hc (.ret fun _=>⟨h,rfl,rfl,rfl⟩)
 ·exact Tot.of hc (.ret (by simp))
theorem Zld(t:Zai)(e:Zab)(hl:t.Entries.length≤1000000):Tot (Ze5 FF t e) fun r=>r.2=true→TrOk r.1∧r.1.Base=t.Base∧r.1.BaseTerm=t.BaseTerm∧r.1.Entries=t.Entries++[e]:=by
 unfold Ze5
 rcases chk t (by omega)with ⟨hc,h⟩|hc
 ·refine Tot.of hc ?_
  rw[tlen]
  refine Tot.bind (Znp t t.Entries.length [e] (Nat.le_refl _) hl (by simp)) fun y _ hy=>.ret fun hb=>?_
  have:=hy hb
  rwa [List.take_length]at this
 ·exact Tot.of hc (.ret (by simp))
theorem Znf(t:Zai)(n:Int)(hl:t.Entries.length≤1000000):Tot (Zga FF t n) fun r=>(r.2=true→r.1.Base=n∧∃k,r.1.Entries=t.Entries.drop k)∧(r.2=false→r.1=Zai.mk 0 0 []):=by
 unfold Zga
 refine Tot.bind (ZgD t n (by omega)) fun y _ hy=>Tot.cond (fun e=>.ret ⟨by simp,fun _=>rfl⟩) fun e=>?_
 obtain⟨h,h1,h2⟩:=hy.1 (by simpa using e)
 have:=h.b0;have:=h.b1
 rw[wi64 (by omega) (by omega)]
 refine Tot.grd (by omega) (Tot.grd (by omega) (Tot.grd (Nat.le_refl _) (Tot.of (ZgP _ (by simp;unfold LIM;omega)) (.ret ⟨fun _=>⟨rfl,_,rfl⟩,by simp⟩))))
structure ZgW(l:List Int):Prop where
 n1:1≤l.length
 n7:l.length≤7
 inc:∀i:Nat,i+1<l.length→∃a b,l[i]? =some a∧l[i+1]? =some b∧a<b
 pos:∃a,l[0]? =some a∧1≤a
theorem ZsG(l:List Int)(h7:l.length≤7)(h1:1≤l.length):Tot (ZcO FF l FF 0) fun o=>(∀r,o=.inl r→r=false)∧(∀s,o=.inr s→∀i:Nat,i+1<l.length→∃a b,l[i]? =some a∧l[i+1]? =some b∧a<b):=by
 have e:(@cut (List AV) (some (Operand.const (Value.int IntKind.i64 (1:Int)))) none (List.map (cInt IntKind.i64) l) (Int.toNat (1:Int)) (List.length l)).length=l.length-1:=by simp
 have:=loopT (fun n (i:Nat)=>ZcO FF l n (i:Int)) (fun k=>k+1≤l.length∧∀i:Nat,i<k→∃a b,l[i]? =some a∧l[i+1]? =some b∧a<b) (fun i=>l.length-i)
  (fun o=>(∀r,o=.inl r→r=false)∧(∀s,o=.inr s→∀i:Nat,i+1<l.length→∃a b,l[i]? =some a∧l[i+1]? =some b∧a<b)) (by
   rintro n i ⟨hi,hp⟩ k;simp only[ZcO];rw[e]
   refine Tot.test (fun h=>?_) fun h=>.ret ⟨(fun r e=>by cases e),fun s _ j hj=>hp j (by omega)⟩
   refine Tot.grd (by omega) (Tot.get (by simp;omega) fun y hy _=>Tot.grd (by omega) (Tot.get (by simp;omega) fun z hz _=>?_))
   refine Tot.test (fun _=>.ret ⟨(fun r e=>by cases e;rfl),fun s e=>by cases e⟩) fun hyz=>?_
   rw[w1 (by omega)]
   refine k (i+1) ⟨by omega,fun j hj=>?_⟩ (by omega)
   by_cases hji:j=i
   ·subst hji
    refine⟨z,y,by simpa using hz,?_,by omega⟩
    rw[List.getElem?_drop]at hy
    rw[←hy];congr 1;simp;omega
   ·exact hp j (by omega)) FF 0 ⟨by omega,fun i hi=>absurd hi (Nat.not_lt_zero _)⟩ (by simp only[FF];omega)
 exact this
theorem ZjP(l:List Int):Tot (ZcE FF l) fun b=>b=true→ZgW l:=by
 unfold ZcE
 refine Tot.bind (Q:=fun b=>b=false→1≤l.length∧l.length≤7∧∃a,l[0]? =some a∧1≤a) ?_ fun b _ hb=>Tot.cond (fun _=>.ret (by simp)) fun e=>?_
 ·refine Tot.test (fun _=>.ret (by simp)) fun h1=>Tot.test (fun _=>.ret (by simp)) fun h7=>Tot.get (by simp;omega) fun y hy _=>.ret fun h=>⟨by omega,by omega,y,by simpa using hy,by have:=of_decide_eq_false h;omega⟩
 ·obtain⟨h1,h7,hp⟩:=hb e
  refine Tot.grd (by simp;omega) (Tot.grd (Nat.le_refl _) (Tot.elim (ZsG l h7 h1) (fun r hr=>.ret fun q=>by subst hr;cases q) fun s hs=>.ret fun _=>⟨h1,h7,hs,hp⟩))
theorem Zkc(s:List Int)(v:Int)(hl:s.length≤2000000):Tot (Zbd FF s v) fun r=> -1≤r∧r<s.length∧(0≤r→s[r.toNat]? =some v)∧(v∈s→0≤r):=by
 unfold Zbd
 have:=loopT (fun n (i:Nat)=>Zba FF s v n (i:Int)) (fun k=>k≤s.length∧v∉s.take k) (fun i=>s.length-i)
  (fun o=>(∀r,o=.inl r→0≤r∧r<s.length∧s[r.toNat]? =some v)∧(∀u:Unit,o=.inr u→v∉s)) (by
   rintro n i ⟨hi,hp⟩ k;simp only[Zba]
   refine Tot.test (fun h=>?_) fun h=>.ret ⟨(fun r e=>by cases e),fun u _=>by rwa [List.take_of_length_le (by omega)]at hp⟩
   refine Tot.grd (by omega) (Tot.get (by simp;omega) fun y hy _=>Tot.cond (fun q=>.ret ⟨fun r e=>?_,fun s e=>by cases e⟩) fun q=>?_)
   ·cases e
    have:v=y:=by simpa using q
    subst this;exact⟨by omega,by omega,hy⟩
   ·rw[w1 (by omega)]
    refine k (i+1) ⟨by omega,?_⟩ (by omega)
    rw[Int.toNat_natCast]at hy;rw[List.take_add_one,List.mem_append,hy]
    have:v≠y:=by simpa using q
    simpa using⟨hp,this⟩) FF 0 ⟨Nat.zero_le _,by simp⟩ (by simp only[FF];omega)
 exact Tot.elim this (fun r hr=>.ret ⟨by omega,hr.2.1,fun _=>hr.2.2,fun _=>hr.1⟩) fun u hu=>.ret ⟨by decide,by omega,fun h=>absurd h (by decide),fun h=>absurd h hu⟩
theorem Zen(s:List Int)(v:Int)(hl:s.length≤2000000):Tot (Zav FF s v) fun b=>b=true↔v∈s:=by
 unfold Zav
 refine Tot.bind (Zkc s v hl) fun y _ hy=>.ret ⟨fun h=>?_,fun h=>decide_eq_true (hy.2.2.2 h)⟩
 exact List.mem_of_getElem? (hy.2.2.1 (of_decide_eq_true h))
theorem Zlg(conf set:List Int)(hc:conf.length≤2000000)(hs:set.length≤2000000):Tot (Ze1 FF conf set) fun _=>True:=by
 unfold Ze1
 refine Tot.bind (Q:=fun _=>True) ?_ fun y _ _=>Tot.bind (ZjP conf) fun b _ _=>Tot.cond (fun _=>.ret trivial) fun _=>.ret trivial
 have:=loopT (fun n (s:Int×Nat)=>Zd9 FF conf set n s.1 (s.2:Int)) (fun s=>s.2≤conf.length) (fun s=>conf.length-s.2) (fun _=>True) (by
  rintro n ⟨c,i⟩ hi k;simp only at hi k⊢;simp only[Zd9]
  refine Tot.test (fun h=>?_) fun _=>.ret trivial
  refine Tot.bind (Q:=fun _=>True) (Tot.grd (by omega) (Tot.get (by simp;omega) fun y _ _=>Tot.bind (Zen set y hs) fun b _ _=>Tot.cond (fun _=>.ret trivial) fun _=>.ret trivial)) fun c' _ _=>?_
  rw[w1 (by omega)]
  exact k (c',i+1) (by simp only;omega) (by simp only;omega)) FF (0,0) (Nat.zero_le _) (by simp only[FF];omega)
 exact this
theorem Zmg:∀(l c:List Int),l.Nodup→(∀x,x∈l→x∈c)→l.length≤c.length
 | [],c,_,_=>Nat.zero_le _
 |a::r,c,hn,hs=>by
  obtain⟨ha,hr⟩:=List.nodup_cons.1 hn
  have hac:=hs a List.mem_cons_self
  have:=Zmg r (c.erase a) hr fun x hx=>(List.mem_erase_of_ne (show x≠a from fun e=>by subst e;exact ha hx)).2 (hs x (List.mem_cons_of_mem _ hx))
  rw[List.length_erase_of_mem hac]at this
  have:0<c.length:=List.length_pos_of_mem hac
  simp only[List.length_cons];omega
theorem ZoT(r:Zae)(hc:ZgW r.Conf)(hv:r.Votes.length≤2000000):Tot (ZgG FF r) fun b=>b=true→r.Votes.Nodup∧∀v,v∈r.Votes→v∈r.Conf:=by
 have hcl:=hc.n7
 unfold ZgG
 refine Tot.bind (Q:=fun _=>True) ?_ fun b _ _=>Tot.cond (fun _=>.ret (by simp)) fun _=>?_
 ·refine Tot.cond (fun _=>.ret trivial) fun _=>Tot.test (fun _=>.ret trivial) fun h=>Tot.get (by simp;omega) fun y _ _=>Tot.cond (fun _=>.ret trivial) fun _=>Tot.bind (Zlg _ _ (by omega) hv) fun b _ _=>.ret trivial
 have:=loopT (fun n (i:Nat)=>Zez FF r n (i:Int)) (fun i=>i≤r.Votes.length∧(r.Votes.take i).Nodup∧∀v,v∈r.Votes.take i→v∈r.Conf) (fun i=>r.Votes.length-i)
  (fun o=>(∀b,o=.inl b→b=false)∧(∀u:Unit,o=.inr u→r.Votes.Nodup∧∀v,v∈r.Votes→v∈r.Conf)) (by
   rintro n i ⟨hi,hn,hp⟩ k;simp only[Zez]
   refine Tot.test (fun h=>?_) fun h=>.ret ⟨(fun r e=>by cases e),fun u _=>by rw[List.take_of_length_le (by omega)]at hn hp;exact⟨hn,hp⟩⟩
   refine Tot.grd (by omega) (Tot.get (by simp;omega) fun y hy _=>?_)
   rw[Int.toNat_natCast]at hy
   refine Tot.bind (Q:=fun b=>b=false→y∈r.Conf∧y∉r.Votes.take i) ?_ fun b _ hb=>Tot.cond (fun _=>.ret ⟨(fun r e=>by cases e;rfl),fun s e=>by cases e⟩) fun e=>?_
   ·refine Tot.bind (Zen _ _ (by omega)) fun b _ hb=>Tot.cond (fun _=>.ret (by simp)) fun e=>Tot.grd (by omega) (Tot.grd (by omega) (Tot.grd (by omega) (Tot.bind (Zen _ _ (by simp;omega)) fun d _ hd=>.ret fun q=>?_)))
    rw[Int.toNat_natCast]at hd
    exact⟨hb.1 (by simpa using e),fun hm=>by rw[hd.2 hm]at q;cases q⟩
   ·obtain⟨h1,h2⟩:=hb e
    rw[w1 (by omega)]
    refine k (i+1) ⟨by omega,?_,?_⟩ (by omega)
    ·rw[List.take_add_one,hy,Option.toList_some,List.nodup_append]
     exact⟨hn,by simp,fun a ha b hb=>by simp only[List.mem_singleton]at hb;subst hb;exact fun e=>h2 (e▸ha)⟩
    ·intro v hv
     rw[List.take_add_one,hy,Option.toList_some,List.mem_append]at hv
     rcases hv with hv|hv
     ·exact hp v hv
     ·simp only[List.mem_singleton]at hv;subst hv;exact h1) FF 0 ⟨Nat.zero_le _,by simp,by simp⟩ (by simp only[FF];omega)
 exact Tot.elim this (fun b hb=>.ret (by subst hb;simp)) fun u hu=>.ret fun _=>hu
structure KnOk(r:Zae):Prop where
 nl:r.Next.length=r.Conf.length
 ml:r.Match.length=r.Conf.length
 mm:∀i:Nat,i<r.Conf.length→∃m x,r.Match[i]? =some m∧r.Next[i]? =some x∧0≤m∧m≤r.Trail.Base+(r.Trail.Entries.length:Int)∧m<x∧x≤r.Trail.Base+(r.Trail.Entries.length:Int)+1
theorem ZpT(r:Zae)(hc:ZgW r.Conf)(ht:Za4 FF r.Trail=some true)(hT:TrOk r.Trail):Tot (ZgH FF r) fun b=>b=true→KnOk r:=by
 have hcl:=hc.n7
 unfold ZgH
 refine Tot.bind (Q:=fun b=>b=false→r.Next.length=r.Conf.length∧r.Match.length=r.Conf.length) ?_ fun b _ hb=>Tot.cond (fun _=>.ret (by simp)) fun e=>?_
 ·refine Tot.cond (fun _=>.ret (by simp)) fun _=>Tot.cond (fun _=>.ret (by simp)) fun _=>Tot.cond (fun _=>.ret (by simp)) fun h1=>.ret fun h2=>?_
  simp only[List.length_map,bne_eq_false_iff_eq]at h1 h2;omega
 obtain⟨hn,hm⟩:=hb e
 refine Tot.bind (ZiC ht hT) fun y _ hy=>?_
 have h0:=hT.b0;have h1:=hT.last
 have:=loopT (fun n (i:Nat)=>ZeA FF r y n (i:Int)) (fun k=>k≤r.Match.length∧∀i:Nat,i<k→∃m x,r.Match[i]? =some m∧r.Next[i]? =some x∧0≤m∧m≤y.1∧m<x∧x≤y.1+1) (fun i=>r.Match.length-i)
  (fun o=>(∀b,o=.inl b→b=false)∧(∀u:Unit,o=.inr u→∀i:Nat,i<r.Match.length→∃m x,r.Match[i]? =some m∧r.Next[i]? =some x∧0≤m∧m≤y.1∧m<x∧x≤y.1+1)) (by
   rintro n i ⟨hi,hp⟩ k;simp only[ZeA]
   refine Tot.test (fun h=>?_) fun h=>.ret ⟨(fun r e=>by cases e),fun u _ j hj=>hp j (by omega)⟩
   refine Tot.grd (by omega) (Tot.get (by simp;omega) fun m hm' _=>?_)
   rw[Int.toNat_natCast]at hm'
   refine Tot.bind (Q:=fun b=>b=false→∃x,r.Next[i]? =some x∧0≤m∧m≤y.1∧m<x∧x≤y.1+1) ?_ fun b _ hb=>Tot.cond (fun _=>.ret ⟨(fun r e=>by cases e;rfl),fun s e=>by cases e⟩) fun e=>?_
   ·refine Tot.test (fun _=>.ret (by simp)) fun a1=>Tot.test (fun _=>.ret (by simp)) fun a2=>Tot.grd (by omega) (Tot.get (by simp;omega) fun x hx _=>Tot.test (fun _=>.ret (by simp)) fun a3=>Tot.grd (by omega) (Tot.get (by simp;omega) fun x2 hx2 _=>.ret fun a4=>?_))
    rw[hx]at hx2;cases hx2;rw[Int.toNat_natCast]at hx
    have a4:=of_decide_eq_false a4
    rw[hy.1]at a4 a2⊢
    rw[wi64 (by omega) (by omega)]at a4
    exact⟨x,hx,by omega,by omega,by omega,by omega⟩
   ·obtain⟨x,hx⟩:=hb e
    rw[w1 (by omega)]
    refine k (i+1) ⟨by omega,fun j hj=>?_⟩ (by omega)
    by_cases hji:j=i
    ·subst hji;exact⟨m,x,hm',hx⟩
    ·exact hp j (by omega)) FF 0 ⟨Nat.zero_le _,fun i hi=>absurd hi (Nat.not_lt_zero _)⟩ (by simp only[FF];omega)
 exact Tot.elim this (fun b hb=>.ret (by subst hb;simp)) fun u hu=>.ret fun _=>⟨hn,hm,fun i hi=>by have:=hu i (by omega);rwa [hy.1]at this⟩
def inC(r:Zae)(n:Int):Prop:=n=0∨n∈r.Conf
structure ZmO(r:Zae):Prop where
 cf:ZgW r.Conf
 id0:r.Id≠0
 idc:r.Id∈r.Conf
 tm0:0≤r.Term
 tm1:r.Term≤1099511627776
 vt:inC r r.Vote
 ld:inC r r.Leader
 tc:Za4 FF r.Trail=some true
 tr:TrOk r.Trail
 sn:r.Snap.length≤60000
 cm0:r.Trail.Base≤r.Commit
 cm1:r.Commit≤r.Trail.Base+(r.Trail.Entries.length:Int)
 lf:0≤r.Left∧r.Left≤100
 wt:10≤r.Wait∧r.Wait<20
 rl:0≤r.Role∧r.Role≤2
 vo:r.Votes.length≤7∧(r.Role≠1→r.Votes=[])
 kn:(r.Role=2→KnOk r)∧(r.Role≠2→r.Next=[]∧r.Match=[])
structure Small(r:Zae):Prop where
 c:r.Conf.length≤1000000
 e:r.Trail.Entries.length≤1000000
 v:r.Votes.length≤1000000
 n:r.Next.length≤1000000
 m:r.Match.length≤1000000
theorem ZmO.small{r:Zae}(h:ZmO r):Small r:=by
 have h7:=h.cf.n7
 refine⟨by omega,by have:=h.tr.len;omega,by have:=h.vo.1;omega,?_,?_⟩
 ·by_cases q:r.Role=2
  ·have:=(h.kn.1 q).nl;omega
  ·rw[(h.kn.2 q).1];simp
 ·by_cases q:r.Role=2
  ·have:=(h.kn.1 q).ml;omega
  ·rw[(h.kn.2 q).2];simp
theorem ZpZ(r:Zae)(n:Int)(h:r.Conf.length≤1000000):Tot (Zcq FF n r) fun b=>b=true→inC r n:=by
 unfold Zcq
 refine Tot.cond (fun e=>.ret fun _=>.inl (by simpa using e)) fun _=>Tot.bind (Zen _ _ (by omega)) fun b _ hb=>.ret fun e=>.inr (hb.1 e)
theorem Zja(r:Zae)(hs:Small r):Tot (Zbc FF r) fun b=>b=true→ZmO r:=by
 obtain⟨s1,s2,s3,s4,s5⟩:=hs
 unfold Zbc
 refine Tot.bind (Q:=fun b=>b=false→ZgW r.Conf∧r.Id≠0∧inC r r.Id∧0≤r.Term∧r.Term≤1099511627776∧inC r r.Vote∧inC r r.Leader∧Za4 FF r.Trail=some true∧TrOk r.Trail) ?_ fun b _ hb=>Tot.cond (fun _=>.ret (by simp)) fun e=>?_
 ·refine Tot.bind (ZjP _) fun b _ h1=>Tot.cond (fun _=>.ret (by simp)) fun e1=>Tot.cond (fun _=>.ret (by simp)) fun e2=>Tot.bind (ZpZ r _ s1) fun b3 _ h3=>Tot.cond (fun _=>.ret (by simp)) fun e3=>Tot.test (fun _=>.ret (by simp)) fun e4=>Tot.test (fun _=>.ret (by simp)) fun e5=>Tot.bind (ZpZ r _ s1) fun b6 _ h6=>Tot.cond (fun _=>.ret (by simp)) fun e6=>Tot.bind (ZpZ r _ s1) fun b7 _ h7=>Tot.cond (fun _=>.ret (by simp)) fun e7=>?_
  rcases chk r.Trail (by omega)with ⟨hc,ht⟩|hc
  ·exact Tot.of hc (.ret fun _=>⟨h1 (by simpa using e1),by simpa using e2,h3 (by simpa using e3),by omega,by omega,h6 (by simpa using e6),h7 (by simpa using e7),hc,ht⟩)
  ·exact Tot.of hc (.ret (by simp))
 obtain⟨c1,c2,c3,c4,c5,c6,c7,c8,c9⟩:=hb e
 have h7:=c1.n7
 refine Tot.bind (ZiC c8 c9) fun y _ hy=>?_
 refine Tot.bind (Q:=fun b=>b=false→r.Snap.length≤60000∧r.Trail.Base≤r.Commit∧r.Commit≤r.Trail.Base+(r.Trail.Entries.length:Int)∧(0≤r.Left∧r.Left≤100)∧10≤r.Wait∧r.Wait<20) ?_ fun b _ hb2=>Tot.cond (fun _=>.ret (by simp)) fun e2=>?_
 ·refine Tot.test (fun _=>.ret (by simp)) fun a1=>Tot.test (fun _=>.ret (by simp)) fun a2=>Tot.test (fun _=>.ret (by simp)) fun a3=>Tot.test (fun _=>.ret (by simp)) fun a4=>Tot.test (fun _=>.ret (by simp)) fun a5=>Tot.test (fun _=>.ret (by simp)) fun a6=>Tot.test (fun _=>.ret (by simp)) fun a7=>.ret fun a8=>?_
  have a8:=of_decide_eq_false a8
  rw[hy.1]at a4
  exact⟨by omega,by omega,by omega,⟨by omega,by omega⟩,by omega,by omega⟩
 obtain⟨d1,d2,d3,d4,d5,d6⟩:=hb2 e2
 have sum:IntKind.wrap IntKind.i64 ((((List.map (cInt IntKind.i64) r.Next).length:Nat):Int)+(((List.map (cInt IntKind.i64) r.Match).length:Nat):Int))=((r.Next.length+r.Match.length:Nat):Int):=by
  rw[List.length_map,List.length_map,wi64 (by omega) (by omega)];omega
 refine Tot.bind (Q:=fun b=>b=false→(r.Role≠1→r.Votes=[])∧(r.Role≠2→r.Next=[]∧r.Match=[])) ?_ fun b _ hb3=>Tot.cond (fun _=>.ret (by simp)) fun e3=>?_
 ·have nx:∀b:Bool,b=decide ((0:Int)<((r.Next.length+r.Match.length:Nat):Int))→b=false→r.Next=[]∧r.Match=[]:=fun b hb e=>by
   rw[hb]at e;have:=of_decide_eq_false e
   exact⟨List.length_eq_zero_iff.1 (by omega),List.length_eq_zero_iff.1 (by omega)⟩
  rw[sum]
  refine Tot.cond (fun p1=>Tot.test (fun _=>.ret (by simp)) fun q=>?_) fun p1=>?_
  ·have hv:r.Votes=[]:=List.length_eq_zero_iff.1 (by omega)
   refine Tot.cond (fun p2=>.ret fun e=>⟨fun _=>hv,fun _=>nx _ rfl e⟩) fun p2=>.ret fun _=>⟨fun _=>hv,fun h=>absurd (by simpa using p2) h⟩
  ·have h1:r.Role=1:=by simpa using p1
   refine Tot.cond (fun p2=>.ret fun e=>⟨fun h=>absurd h1 h,fun _=>nx _ rfl e⟩) fun p2=>?_
   have:r.Role=2:=by simpa using p2
   omega
 obtain⟨v1,v2⟩:=hb3 e3
 have idc:r.Id∈r.Conf:=c3.resolve_left c2
 refine Tot.cond (fun p=>.ret fun _=>?_) fun p=>Tot.cond (fun p1=>?_) fun p1=>Tot.cond (fun p2=>?_) fun p2=>.ret (by simp)
 ·have h0:r.Role=0:=by simpa using p
  exact⟨c1,c2,idc,c4,c5,c6,c7,c8,c9,d1,d2,d3,d4,⟨d5,d6⟩,by omega,⟨by rw[v1 (by omega)];simp,v1⟩,fun h=>by omega,v2⟩
 ·have h0:r.Role=1:=by simpa using p1
  exact Tot.bind (ZoT r c1 (by omega)) fun b _ hb=>.ret fun e=>⟨c1,c2,idc,c4,c5,c6,c7,c8,c9,d1,d2,d3,d4,⟨d5,d6⟩,by omega,⟨by have:=Zmg _ _ (hb e).1 (hb e).2;omega,v1⟩,fun h=>by omega,v2⟩
 ·have h0:r.Role=2:=by simpa using p2
  exact Tot.bind (ZpT r c1 c8 c9) fun b _ hb=>.ret fun e=>⟨c1,c2,idc,c4,c5,c6,c7,c8,c9,d1,d2,d3,d4,⟨d5,d6⟩,by omega,⟨by rw[v1 (by omega)];simp,v1⟩,fun _=>hb e,v2⟩
theorem Zre(x y:Int):Tot (Zep FF x y) fun _=>True:=by
 unfold Zep Zd3;simp only[Option.bind_some,bne_self_eq_false,cond_false];exact .ret trivial
theorem Ztb(a:Int)(ha:0≤a)(l:List Int)(hl:l.length≤1000000)(j:Nat)(hj:j<l.length):Tot (Zas FF a FF (j:Int) l) fun r=>r.length=l.length:=by
 have:=loopT (fun n (s:Nat×List Int)=>Zas FF a n (s.1:Int) s.2) (fun s=>s.1<l.length∧s.2.length=l.length) (fun s=>s.1) (fun r=>r.length=l.length) (by
  rintro n ⟨j,m⟩ ⟨h1,h2⟩ k;simp only at h1 h2 k⊢;simp only[Zas]
  refine Tot.bind (Q:=fun b=>b=true→a<(j:Int)) (Tot.test (fun h=>Tot.grd (by omega) (Tot.get (by simp;omega) fun _ _ _=>Tot.get (by simp;omega) fun _ _ _=>?_)) fun _=>.ret (by simp)) fun b _ hb=>Tot.cond (fun e=>?_) fun _=>.ret h2
  ·rw[wi64 (by omega) (by omega)]
   exact Tot.grd (by omega) (Tot.get (by omega) fun _ _ _=>Tot.get (by omega) fun _ _ _=>Tot.bind (Zre _ _) fun _ _ _=>.ret fun _=>h)
  ·have h:=hb e
   rw[wi64 (x:=(j:Int)-1) (by omega) (by omega)]
   refine Tot.grd (by omega) (Tot.get (by omega) fun y _ _=>Tot.get (by omega) fun y2 _ _=>Tot.grd (by omega) (Tot.get (by simp;omega) fun z _ _=>Tot.get (by simp;omega) fun z2 _ _=>Tot.grd (by omega) (Tot.get (by simp;omega) fun _ _ _=>Tot.get (by simp;omega) fun _ _ _=>Tot.grd (by omega) (Tot.get (by simp;omega) fun _ _ _=>Tot.get (by simp;omega) fun _ _ _=>?_))))
   rw[show(j:Int)-1=((j-1:Nat):Int) by omega]
   exact k (j-1,_) ⟨by simp only;omega,by simp only[List.length_set];exact h2⟩ (by simp only;omega)) FF (j,l) ⟨hj,rfl⟩ (by simp only[FF];omega)
 exact this
theorem Zsy(l:List Int)(hl:l.length≤1000000):Tot (ZaU FF 0 (l.length:Int) l) fun r=>r.length=l.length:=by
 unfold ZaU
 have:=loopT (fun n (s:Nat×List Int)=>ZaA FF 0 (l.length:Int) n (s.1:Int) s.2) (fun s=>s.1≤l.length+1∧s.2.length=l.length) (fun s=>l.length+1-s.1) (fun r=>r.length=l.length) (by
  rintro n ⟨i,m⟩ ⟨h1,h2⟩ k;simp only at h1 h2 k⊢;simp only[ZaA]
  refine Tot.test (fun h=>?_) fun _=>.ret h2
  refine Tot.bind (Q:=fun r=>r.length=l.length) (Tot.bind (Ztb 0 (by decide) m (by omega) i (by omega)) fun r _ hr=>.ret (by omega)) fun r _ hr=>?_
  rw[w1 (by omega)]
  exact k (i+1,r) ⟨by simp only;omega,hr⟩ (by simp only;omega)) FF (1,l) ⟨by simp only;omega,rfl⟩ (by simp only[FF];omega)
 rw[wi64 (by decide) (by decide)]
 exact Tot.bind this fun r _ hr=>.ret hr
theorem ZqY(l:List Int)(hl:l.length≤12):Tot (ZbA FF l) fun r=>r.length=l.length:=by
 unfold ZbA;rw[List.length_map]
 refine Tot.bind (Q:=fun _=>True) ?_ fun y _ _=>Tot.bind (Q:=fun r=>r.length=l.length) ?_ fun r _ hr=>.ret hr
 ·have:l.length=0∨l.length=1∨l.length=2∨l.length=3∨l.length=4∨l.length=5∨l.length=6∨l.length=7∨l.length=8∨l.length=9∨l.length=10∨l.length=11∨l.length=12:=by omega
  rcases this with h|h|h|h|h|h|h|h|h|h|h|h|h<;>rw[h]<;>exact⟨_,rfl,trivial⟩
 ·show Tot (Za5 FF 0 (l.length:Int) y l (3999999+1)) _
  simp only[Za5]
  rw[wi64 (by omega) (by omega)]
  refine Tot.test (fun _=>Tot.bind (Zsy l (by omega)) fun r _ hr=>.ret hr) fun h=>absurd h (by omega)
theorem Zoi(ms:List Zag)(c:Int)(hm:ms.length≤1000000):Tot (Zcc FF ms c FF 0 0) fun r=>r=0∨∃e,e∈ms∧r=e.At:=by
 have:=loopT (fun n (s:Int×Nat)=>Zcc FF ms c n s.1 (s.2:Int)) (fun s=>s.2≤ms.length∧(s.1=0∨∃e,e∈ms∧s.1=e.At)) (fun s=>ms.length-s.2) (fun r=>r=0∨∃e,e∈ms∧r=e.At) (by
  rintro n ⟨x,i⟩ ⟨h1,h2⟩ k;simp only at h1 h2 k⊢;simp only[Zcc]
  refine Tot.test (fun h=>?_) fun _=>.ret h2
  refine Tot.bind (Q:=fun r=>r=0∨∃e,e∈ms∧r=e.At) (Tot.grd (by omega) (Tot.get (by simp;omega) fun y _ hy=>Tot.cond (fun _=>.ret (.inr ⟨y,hy,rfl⟩)) fun _=>.ret h2)) fun r _ hr=>?_
  rw[w1 (by omega)]
  exact k (r,i+1) ⟨by simp only;omega,hr⟩ (by simp only;omega)) FF (0,0) ⟨Nat.zero_le _,.inl rfl⟩ (by simp only[FF];omega)
 exact this
theorem ZmV(conf:List Int)(ms:List Zag)(hm:ms.length≤1000000):Tot (ZeS FF conf ms) fun _=>True:=by
 unfold ZeS
 refine Tot.bind (ZjP conf) fun b _ hb=>Tot.cond (fun _=>.ret trivial) fun e=>?_
 have hc:=hb (by simpa using e)
 have h7:=hc.n7;have h1:=hc.n1
 have:=loopT (fun n (s:Nat×List Int)=>ZcH FF conf ms n (s.1:Int) s.2) (fun s=>s.1≤conf.length∧s.2.length=s.1) (fun s=>conf.length-s.1) (fun r=>r.length=conf.length) (by
  rintro n ⟨i,m⟩ ⟨h1,h2⟩ k;simp only at h1 h2 k⊢;simp only[ZcH]
  refine Tot.test (fun h=>?_) fun _=>.ret (by omega)
  refine Tot.bind (Q:=fun r=>r.length=i+1) (Tot.grd (by omega) (Tot.get (by simp;omega) fun y _ _=>Tot.bind (Zoi ms y hm) fun z _ _=>Tot.grd (by unfold LIM;omega) (.ret (by simp;omega)))) fun r _ hr=>?_
  rw[w1 (by omega)]
  exact k (i+1,r) ⟨by simp only;omega,hr⟩ (by simp only;omega)) FF (0,[]) ⟨Nat.zero_le _,rfl⟩ (by simp only[FF];omega)
 refine Tot.bind this fun l _ hl=>Tot.bind (ZqY l (by omega)) fun r _ hr=>?_
 rw[List.length_map]
 have hd:Int.tdiv ((r.length:Int)-1) 2=(((r.length-1)/2:Nat):Int):=by
  rw[show(r.length:Int)-1=((r.length-1:Nat):Int) by omega];rfl
 rw[wi64 (x:=(r.length:Int)-1) (by omega) (by omega),hd,wi64 (by omega) (by omega)]
 exact Tot.grd (by omega) (Tot.get (by simp;omega) fun _ _ _=>Tot.get (by simp;omega) fun _ _ _=>.ret trivial)
set_option maxRecDepth 20000
theorem ZhU(l:List Int)(h:l.length≤LIM):Zay FF l=some l:=by
 unfold Zay;rw[decide_eq_true h];rfl
theorem Zi2(l:List Int)(h:l.length≤LIM):ZaE FF l=some l:=by
 unfold ZaE;rw[decide_eq_true h];rfl
theorem lim(n:Nat)(h:n≤1000000):n≤LIM:=by unfold LIM;omega
theorem Zqo(r:Zae)(h:Small r):Zge FF r=some r:=by
 unfold Zge;rw[ZhU _ (lim _ h.c),ZhU _ (lim _ h.v),Zi2 _ (lim _ h.n),Zi2 _ (lim _ h.m),ZgP _ (lim _ h.e)];rfl
def hd(r:Zae):Zah:=Zah.mk r.Id r.Conf r.Term r.Vote r.Role r.Leader r.Trail r.Snap r.Commit r.Left r.Wait
theorem ZjH(r:Zae)(h:Small r):Ze6 FF r=some (hd r,r.Votes,r.Next,r.Match,[]):=by
 unfold Ze6 ZfC;rw[ZhU _ (lim _ h.c),ZhU _ (lim _ h.v),Zi2 _ (lim _ h.n),Zi2 _ (lim _ h.m),ZgP _ (lim _ h.e)];rfl
theorem Zi9(r:Zae)(h:Small r):Zbq FF r=some (Zae.mk r.Id r.Conf r.Term r.Vote 0 0 r.Trail r.Snap r.Trail.Base 10 10 [] [] []):=by
 unfold Zbq;rw[Zqo r h];rfl
structure NdOk(h:Zah):Prop where
 cf:ZgW h.Conf
 idc:h.Id∈h.Conf
 tl:h.Trail.Entries.length≤10000
def MB(m:Zad):Prop:=m.Kind<9223372036854775808∧m.From<9223372036854775808∧m.To<9223372036854775808∧m.Term<9223372036854775808∧m.Index<9223372036854775808∧m.LogTerm<9223372036854775808∧m.Commit<9223372036854775808∧∀e,e∈m.Entries→e.Term<9223372036854775808
structure NumOk(h:Zah):Prop where
 id:h.Id<9223372036854775808
 cf:∀c,c∈h.Conf→c<9223372036854775808
 tm:h.Term<9223372036854775808
 cm:h.Commit<9223372036854775808
 bs:h.Trail.Base<9223372036854775808
 bt:h.Trail.BaseTerm<9223372036854775808
theorem ZfU(m:Zad)(h:Zah)(a b c:List Int)(out:List Zad)(ho:out.length≤1000):
 ZaN FF m h a b c out=some (h,out++[Zad.mk m.Kind h.Id m.To h.Term m.Index m.LogTerm m.Commit m.Yes m.Entries m.Data]):=by
 unfold ZaN
 rw[decide_eq_true (show out.length+1≤LIM by unfold LIM;omega)]
 rfl
theorem wlt(x:Int):IntKind.wrap IntKind.i64 x<9223372036854775808:=by rw[IntKind.wrap_i64];omega
theorem Zpa(t:Zai)(f:Int)(hf:f≤2000000000000)(hf0: -2000000000000≤f)(hl:t.Entries.length≤10000):Tot (Zf9 FF t f 8) fun r=>∀e,e∈r→e.Term<9223372036854775808:=by
 unfold Zf9
 rcases chk t (by omega)with ⟨hc,h⟩|hc
 ·have h0:=h.b0;have h1:=h.b1
  have hlast:=tlast h0 h1 (by omega)
  refine Tot.bind (Q:=fun b=>b=false→f≤t.Base+(t.Entries.length:Int)) (Tot.of hc ?_) fun b _ hb=>Tot.cond (fun _=>.ret (by simp)) fun e=>?_
  ·simp only[Bool.not_true,cond_false,hlast,Option.bind_some]
   exact Tot.test (fun _=>.ret (by simp)) fun h=>.ret fun _=>by omega
  have hf2:=hb e
  rw[wi64 (x:=t.Base+1) (by omega) (by omega)]
  generalize hg:(if t.Base+1>f then t.Base+1 else f)=g
  have hg1:t.Base+1≤g∧g≤t.Base+(t.Entries.length:Int)∨g=t.Base+1:=by split at hg<;>omega
  rw[wi64 (x:=g-t.Base) (by omega) (by omega),wi64 (x:=g-t.Base-1) (by omega) (by omega)]
  have hk:(g-t.Base-1).toNat≤t.Entries.length:=by omega
  generalize hkk:(g-t.Base-1).toNat=kk at hk⊢;simp only[ZrV,List.length_drop,List.length_map]
  generalize hq:(if((t.Entries.length-kk:Nat):Int)<8 then((t.Entries.length-kk:Nat):Int)else 8)=q
  have hq1:0≤q∧q≤((t.Entries.length-kk:Nat):Int):=by split at hq<;>omega
  exact Tot.grd (by omega) (Tot.grd hk (Tot.grd (Nat.le_refl _) (Tot.grd hq1.1 (Tot.grd (Nat.zero_le _) (Tot.grd (by omega) (Tot.of (ZgP _ (by rw[List.length_take,List.length_drop];unfold LIM;omega)) (.ret fun e he=>by have:=h.ent e (List.mem_of_mem_drop (List.mem_of_mem_take he));omega)))))))
 ·refine Tot.bind (Q:=fun b=>b=true) (Tot.of hc (.ret rfl)) fun b _ hb=>Tot.cond (fun _=>.ret (by simp)) fun e=>by rw[hb]at e;cases e
structure NxOk(h:Zah)(nx mt:List Int):Prop where
 nl:nx.length=h.Conf.length
 ml:mt.length=h.Conf.length
 nb:∀x,x∈nx→ -1000000000000≤x∧x≤1900000000000
theorem Zlv(h:Zah)(v nx mt:List Int)(out:List Zad)(hn:NdOk h)(hu:NumOk h)(hx:NxOk h nx mt)(ho:out.length≤1000)(i:Nat)(hi:i<h.Conf.length):
 Tot (Zcg FF (i:Int) h v nx mt out) fun r=>r.1=h∧∃m,r.2=out++[m]∧MB m:=by
 have hl:=hx.nl
 unfold Zcg
 refine Tot.grd (by omega) (Tot.get (by simp;omega) fun y hy hm=>Tot.get (by simp;omega) fun y2 hy2 hm2=>?_)
 have hb:=hx.nb _ hm2
 refine Tot.test (fun _=>Tot.grd (by omega) (Tot.get (by simp;omega) fun c _ hc=>Tot.of (ZfU _ h v nx mt out ho) (.ret ⟨rfl,_,rfl,?_⟩))) fun _=>?_
 ·exact⟨show(5:Int)<_ by decide,hu.id,hu.cf _ hc,hu.tm,hu.bs,hu.bt,show(0:Int)<_ by decide,fun e he=>by cases he⟩
 ·refine Tot.bind (ZgD _ _ (by have:=hn.tl;omega)) fun z _ hz=>Tot.grd (by omega) (Tot.get (by simp;omega) fun c _ hc=>Tot.bind (Zpa _ _ (by omega) (by omega) hn.tl) fun s _ hs=>Tot.of (ZfU _ h v nx mt out ho) (.ret ⟨rfl,_,rfl,?_⟩))
  exact⟨show(3:Int)<_ by decide,hu.id,hu.cf _ hc,hu.tm,wlt _,show z.1<9223372036854775808 by have:=hz.2.2;omega,hu.cm,hs⟩
theorem Ziq(h:Zah)(v nx mt:List Int)(out:List Zad)(hn:NdOk h)(hu:NumOk h)(hx:NxOk h nx mt)(ho:out.length≤900)(hm:∀m,m∈out→MB m):
 Tot (ZbF FF h v nx mt out) fun r=>r.1=h∧r.2.1=v∧r.2.2.1=nx∧r.2.2.2.1=mt∧r.2.2.2.2.length≤out.length+7∧∀m,m∈r.2.2.2.2→MB m:=by
 have h7:=hn.cf.n7
 unfold ZbF
 have:=loopT (fun n (s:Nat×Zah×List Zad)=>Zby FF h v nx mt n (s.1:Int) s.2.1 s.2.2) (fun s=>s.1≤h.Conf.length∧s.2.1=h∧s.2.2.length≤out.length+s.1∧∀m,m∈s.2.2→MB m) (fun s=>h.Conf.length-s.1)
  (fun r=>r.1=h∧r.2.length≤out.length+7∧∀m,m∈r.2→MB m) (by
   rintro n ⟨i,g,o⟩ ⟨h1,h2,h3,h4⟩ k;simp only at h1 h2 h3 h4 k⊢;subst h2;simp only[Zby]
   refine Tot.test (fun q=>?_) fun _=>.ret ⟨rfl,by simp only;omega,h4⟩
   refine Tot.bind (Q:=fun r=>r.1=g∧r.2.length≤out.length+(i+1)∧∀m,m∈r.2→MB m) (Tot.grd (by omega) (Tot.get (by simp;omega) fun y _ _=>Tot.cond (fun _=>Tot.bind (Zlv g v nx mt o hn hu hx (by omega) i (by omega)) fun r _ hr=>.ret (by
    obtain⟨e,m,e2,hb⟩:=hr
    refine⟨e,by rw[e2];simp;omega,fun m' hm'=>?_⟩
    rw[e2,List.mem_append,List.mem_singleton]at hm'
    rcases hm' with q|rfl
    ·exact h4 _ q
    ·exact hb)) fun _=>.ret ⟨rfl,by simp only;omega,h4⟩)) fun r _ hr=>?_
   rw[w1 (by omega)]
   exact k (i+1,r.1,r.2) ⟨by simp only;omega,hr.1,hr.2.1,hr.2.2⟩ (by simp only;omega)) FF (0,h,out) ⟨Nat.zero_le _,rfl,Nat.le_refl _,hm⟩ (by simp only[FF];omega)
 exact Tot.bind this fun r _ hr=>.ret ⟨hr.1,rfl,rfl,rfl,hr.2⟩
theorem ZfG(h:Zah)(v nx mt:List Int)(out:List Zad)(hn:NdOk h):Tot (ZaW FF h v nx mt out) fun r=> -1≤r∧r≤1099511627776∧(Za4 FF h.Trail=some true→TrOk h.Trail→r=h.Trail.Base+(h.Trail.Entries.length:Int)):=by
 unfold ZaW
 rcases chk h.Trail (by have:=hn.tl;omega)with ⟨hc,ht⟩|hc
 ·have:=ht.b0;have:=ht.last
  exact Tot.bind (ZiC hc ht) fun y _ hy=>.ret ⟨by omega,by omega,fun _ _=>hy.1⟩
 ·have:Zb5 FF h.Trail=some (0,0):=by unfold Zb5;rw[hc];rfl
  exact Tot.of this (.ret ⟨by decide,by decide,fun q=>by rw[hc]at q;cases q⟩)
theorem Zpu(h:Zah)(v nx mt:List Int)(out:List Zad)(hn:NdOk h)(hx:NxOk h nx mt):Tot (Zch FF h v nx mt out) fun r=>NxOk h r.1 r.2:=by
 have h7:=hn.cf.n7
 have e1:=hx.nl;have e2:=hx.ml
 unfold Zch
 refine Tot.bind (Zkc _ _ (by omega)) fun i _ hi=>Tot.bind (ZfG h v nx mt out hn) fun a _ ha=>Tot.bind (ZfG h v nx mt out hn) fun b _ hb=>?_
 have h0:=hi.2.2.2 hn.idc
 have h1:=hi.2.1
 refine Tot.grd h0 (Tot.get (by omega) fun _ _ _=>Tot.get (by omega) fun _ _ _=>Tot.grd h0 (Tot.get (by omega) fun _ _ _=>Tot.get (by omega) fun _ _ _=>.ret ⟨by simpa using e1,by simpa using e2,fun x hx'=>?_⟩))
 rcases List.mem_or_eq_of_mem_set hx' with q|q
 ·exact hx.nb _ q
 ·subst q;rw[wi64 (by omega) (by omega)];omega
theorem rep1(x:Int):Zaq FF [x] 1=some (List.replicate 1 x):=by kernel_rfl
theorem rep2(x:Int):Zaq FF [x] 2=some (List.replicate 2 x):=by kernel_rfl
theorem rep3(x:Int):Zaq FF [x] 3=some (List.replicate 3 x):=by kernel_rfl
theorem rep4(x:Int):Zaq FF [x] 4=some (List.replicate 4 x):=by kernel_rfl
theorem rep5(x:Int):Zaq FF [x] 5=some (List.replicate 5 x):=by kernel_rfl
theorem rep6(x:Int):Zaq FF [x] 6=some (List.replicate 6 x):=by kernel_rfl
theorem rep7(x:Int):Zaq FF [x] 7=some (List.replicate 7 x):=by kernel_rfl
theorem Zog(x:Int)(k:Nat)(h1:1≤k)(h7:k≤7):Zaq FF [x] (k:Int)=some (List.replicate k x):=by
 have:k=1∨k=2∨k=3∨k=4∨k=5∨k=6∨k=7:=by omega
 rcases this with h|h|h|h|h|h|h<;>subst h
 ·exact rep1 x
 ·exact rep2 x
 ·exact rep3 x
 ·exact rep4 x
 ·exact rep5 x
 ·exact rep6 x
 ·exact rep7 x
theorem Zkv(h:Zah)(v nx mt:List Int)(out:List Zad)(hn:NdOk h)(hx:NxOk h nx mt):
 Tot (Zb1 FF h v nx mt out) fun g=>g=h∨(∃c,g=Zah.mk h.Id h.Conf h.Term h.Vote h.Role h.Leader h.Trail h.Snap c h.Left h.Wait∧c≤1099511627776):=by
 have h7:=hn.cf.n7
 have e2:=hx.ml
 unfold Zb1
 have:=loopT (fun n (s:Nat×List Zag)=>ZbU FF h mt n (s.1:Int) s.2) (fun s=>s.1≤h.Conf.length∧s.2.length=s.1) (fun s=>h.Conf.length-s.1) (fun r=>r.length≤7) (by
  rintro n ⟨i,m⟩ ⟨h1,h2⟩ k;simp only at h1 h2 k⊢;simp only[ZbU]
  refine Tot.test (fun q=>?_) fun _=>.ret (by omega)
  refine Tot.grd (by omega) (Tot.get (by simp;omega) fun y _ _=>Tot.grd (by omega) (Tot.get (by simp;omega) fun _ _ _=>Tot.get (by simp;omega) fun _ _ _=>Tot.grd (by unfold LIM;omega) ?_))
  rw[w1 (by omega)]
  exact k (i+1,_) ⟨by simp only;omega,by simp;omega⟩ (by simp only;omega)) FF (0,[]) ⟨Nat.zero_le _,rfl⟩ (by simp only[FF];omega)
 refine Tot.bind this fun ms _ hms=>Tot.bind (ZmV h.Conf ms (by omega)) fun c _ _=>Tot.bind (ZgD _ _ (by have:=hn.tl;omega)) fun z _ hz=>?_
 refine Tot.bind (Q:=fun b=>b=true→c≤1099511627776) ?_ fun b _ hb=>Tot.cond (fun e=>.ret (.inr ⟨c,rfl,hb e⟩)) fun _=>.ret (.inl rfl)
 refine Tot.cond (fun e=>Tot.test (fun _=>.ret fun _=>?_) fun _=>.ret (by simp)) fun _=>.ret (by simp)
 obtain⟨ht,h1,h2⟩:=hz.1 e
 have:=ht.last;omega
structure NS(h:Zah)(out:List Zad)(k:Nat):Prop where
 nd:NdOk h
 nu:NumOk h
 ol:out.length≤k
 om:∀m,m∈out→MB m
theorem ZnQ(h:Zah)(v nx mt:List Int)(out:List Zad)(hs:NS h out 100):
 Tot (ZcJ FF h v nx mt out) fun r=>NS r.1 r.2.2.2.2 107∧r.1.Conf=h.Conf∧r.1.Id=h.Id∧r.2.1=[]∧r.2.2.1.length≤7∧r.2.2.2.1.length≤7:=by
 obtain⟨hn,hu,ho,hm⟩:=hs
 have h7:=hn.cf.n7;have h1:=hn.cf.n1
 unfold ZcJ
 refine Tot.bind (ZfG _ _ _ _ _ ⟨hn.cf,hn.idc,hn.tl⟩) fun a _ ha=>?_
 rw[List.length_map,wi64 (x:=a+1) (by omega) (by omega)]
 refine Tot.of (Zog (a+1) h.Conf.length h1 h7) (Tot.grd (by omega) (Tot.grd (by unfold LIM;omega) (Tot.bind (Zld _ _ (by have:=hn.tl;omega)) fun t _ ht=>?_)))
 refine Tot.bind (Q:=fun g:Zah=>NdOk g∧NumOk g∧g.Conf=h.Conf∧g.Id=h.Id) ?_ fun g _ hg=>?_
 ·refine Tot.cond (fun e=>.ret ?_) fun _=>.ret ⟨⟨hn.cf,hn.idc,hn.tl⟩,⟨hu.id,hu.cf,hu.tm,hu.cm,hu.bs,hu.bt⟩,rfl,rfl⟩
  obtain⟨t1,t2,t3,t4⟩:=ht e
  exact⟨⟨hn.cf,hn.idc,show t.1.Entries.length≤10000 by have:=t1.len;omega⟩,⟨hu.id,hu.cf,hu.tm,hu.cm,show t.1.Base<_ by rw[t2];exact hu.bs,show t.1.BaseTerm<_ by rw[t3];exact hu.bt⟩,rfl,rfl⟩
 obtain⟨gn,gu,gc,gi⟩:=hg
 have hx0:NxOk g (List.replicate h.Conf.length (a+1)) (List.replicate (Int.toNat ((h.Conf.length:Nat):Int)) 0):=by
  rw[Int.toNat_natCast]
  exact⟨by rw[List.length_replicate,gc],by rw[List.length_replicate,gc],fun x hx=>by rw[List.eq_of_mem_replicate hx];omega⟩
 refine Tot.bind (Zpu g [] _ _ out gn hx0) fun o _ hx=>Tot.bind (Zkv g [] _ _ out gn hx) fun q _ hq=>?_
 have hq2:NdOk q∧NumOk q∧q.Conf=g.Conf∧q.Id=g.Id∧NxOk q o.1 o.2:=by
  rcases hq with rfl|⟨c,rfl,hc⟩
  ·exact⟨gn,gu,rfl,rfl,hx⟩
  ·exact⟨⟨gn.cf,gn.idc,gn.tl⟩,⟨gu.id,gu.cf,gu.tm,show c<_ by omega,gu.bs,gu.bt⟩,rfl,rfl,⟨hx.nl,hx.ml,hx.nb⟩⟩
 obtain⟨qn,qu,qc,qi,qx⟩:=hq2
 refine Tot.bind (Ziq q [] o.1 o.2 out qn qu qx (by omega) hm) fun r _ hr=>.ret ?_
 obtain⟨r1,r2,r3,r4,r5,r6⟩:=hr
 have e1:=qx.nl;have e2:=qx.ml
 rw[r1,r2,r3,r4]
 exact⟨⟨qn,qu,by simp only;omega,r6⟩,by rw[qc,gc],by rw[qi,gi],rfl,by rw[e1,qc,gc];exact h7,by rw[e2,qc,gc];exact h7⟩
end Go.T
