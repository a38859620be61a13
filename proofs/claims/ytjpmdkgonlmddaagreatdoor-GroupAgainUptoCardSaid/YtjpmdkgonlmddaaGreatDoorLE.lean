import Derived.Test.YtjpmdkgonlmddaaGreatDoorLD
set_option linter.unusedVariables false
set_option maxRecDepth 20000
namespace Go.T
open Go Go.Ab
structure Res(c:List Int)(h:Zah)(v n m:List Int)(out:List Zad):Prop where
 cf:h.Conf=c
 tl:h.Trail.Entries.length≤10000
 vl:v.length≤100
 nl:n.length≤7
 ml:m.length≤7
 ol:out.length≤200
 om:∀x,x∈out→MB x
structure RK(r:Zae):Prop where
 ck:Zbc FF r=some true
 ok:ZmO r
 cb:∀c,c∈r.Conf→c<9223372036854775808
theorem RK.nd{r:Zae}(h:RK r):NdOk (hd r):=⟨h.ok.cf,h.ok.idc,show r.Trail.Entries.length≤10000 by have:=h.ok.tr.len;omega⟩
theorem RK.nu{r:Zae}(h:RK r):NumOk (hd r):=by
 have a:=h.ok.tm1;have b:=h.ok.cm1;have c:=h.ok.tr.last;have d:=h.ok.tr.b1;have e:=h.ok.tr.t1
 exact⟨h.cb _ h.ok.idc,h.cb,show r.Term<_ by omega,show r.Commit<_ by omega,show r.Trail.Base<_ by omega,show r.Trail.BaseTerm<_ by omega⟩
theorem RK.nx{r:Zae}(h:RK r)(q:r.Role=2):NxOk (hd r) r.Next r.Match:=by
 have k:=h.ok.kn.1 q
 have a:=h.ok.tr.last;have b:=h.ok.tr.b0
 refine⟨k.nl,k.ml,fun x hx=>?_⟩
 obtain⟨i,hi,rfl⟩:=List.getElem_of_mem hx
 obtain⟨m,y,h1,h2,h3⟩:=k.mm i (by rw[←k.nl];exact hi)
 rw[List.getElem?_eq_getElem hi]at h2;cases h2
 omega
theorem RK.nm{r:Zae}(h:RK r):r.Next.length≤7∧r.Match.length≤7:=by
 have h7:=h.ok.cf.n7
 by_cases q:r.Role=2
 ·have k:=h.ok.kn.1 q;exact⟨by rw[k.nl];exact h7,by rw[k.ml];exact h7⟩
 ·have k:=h.ok.kn.2 q;rw[k.1,k.2];exact⟨by decide,by decide⟩
theorem Zo7(draw:Int)(h:Zah)(v n m:List Int)(hn:NdOk h)(hu:NumOk h)(ht: -1≤h.Term):Tot (Zbo FF draw h v n m []) fun o=>
 (∀r,o=.inl r→Res h.Conf r.1 [] [] [] r.2)∧(∀s,o=.inr s→(∀r,s=.inl r→Res h.Conf r.1 r.2.1 r.2.2.1 r.2.2.2.1 r.2.2.2.2)∧(∀r,s=.inr r→Res h.Conf r.1 [r.2.1] [] [] r.2.2)):=by
 have h7:=hn.cf.n7
 have z0:([]:List Int).length≤7:=by decide
 have z1:([]:List Int).length≤100:=by decide
 unfold Zbo
 refine Tot.test (fun _=>.ret ⟨fun r e=>by cases e;exact⟨rfl,hn.tl,z1,z0,z0,by simp,fun x hx=>by cases hx⟩,fun s e=>by cases e⟩) fun hlt=>?_
 refine Tot.bind (Q:=fun _=>True) (Tot.test (fun _=>.ret trivial) fun _=>.ret trivial) fun d _ _=>Tot.bind (Zlg _ _ (by omega) (by simp)) fun b _ _=>?_
 have nd:∀a b,NdOk (Zah.mk h.Id h.Conf (IntKind.wrap IntKind.i64 (h.Term+(1:Int))) h.Id 1 0 h.Trail h.Snap h.Commit a b):=fun _ _=>⟨hn.cf,hn.idc,hn.tl⟩
 have nu:∀a b,NumOk (Zah.mk h.Id h.Conf (IntKind.wrap IntKind.i64 (h.Term+(1:Int))) h.Id 1 0 h.Trail h.Snap h.Commit a b):=fun _ _=>⟨hu.id,hu.cf,wlt _,hu.cm,hu.bs,hu.bt⟩
 refine Tot.cond (fun _=>Tot.bind (ZnQ _ _ _ _ [] ⟨nd _ _,nu _ _,by decide,fun x hx=>by cases hx⟩) fun r _ hr=>.ret ⟨(fun r e=>by cases e),fun s e=>?_⟩) fun _=>?_
 ·cases e
  obtain⟨h1,h2,h3,h4,h5,h6⟩:=hr
  exact⟨fun r' e=>by cases e;exact⟨h2,h1.nd.tl,by rw[h4];exact z1,h5,h6,Nat.le_trans h1.ol (by decide),h1.om⟩,fun r' e=>by cases e⟩
 ·refine Tot.bind (Q:=fun y:Int×Int=>y.1<9223372036854775808∧y.2<9223372036854775808) ?_ fun y _ hy=>?_
  ·rcases chk h.Trail (by have:=hn.tl;omega)with ⟨hc,hT⟩|hc
   ·have:=hT.last
    exact(ZiC hc hT).mono fun y hy=>⟨by omega,by omega⟩
   ·have:Zb5 FF h.Trail=some (0,0):=by unfold Zb5;rw[hc];rfl
    exact⟨_,this,by decide,by decide⟩
  generalize hg:Zah.mk h.Id h.Conf (IntKind.wrap IntKind.i64 (h.Term+(1:Int))) h.Id 1 0 h.Trail h.Snap h.Commit (IntKind.wrap IntKind.i64 ((10:Int)+(@Int.tmod d (10:Int)))) (IntKind.wrap IntKind.i64 ((10:Int)+(@Int.tmod d (10:Int))))=g
  have gn:NdOk g:=hg▸nd _ _
  have gu:NumOk g:=hg▸nu _ _
  have gc:g.Conf=h.Conf:=by rw[←hg]
  have:=loopT (fun k (s:Nat×Zah×List Zad)=>ZaK FF h y k (s.1:Int) s.2.1 s.2.2) (fun s=>s.1≤h.Conf.length∧s.2.1=g∧s.2.2.length≤s.1∧∀m,m∈s.2.2→MB m) (fun s=>h.Conf.length-s.1)
   (fun r=>r.1=g∧r.2.length≤7∧∀m,m∈r.2→MB m) (by
    rintro k ⟨i,q,o⟩ ⟨h1,h2,h3,h4⟩ kk;simp only at h1 h2 h3 h4 kk⊢;subst h2;simp only[ZaK]
    refine Tot.test (fun _=>?_) fun _=>.ret ⟨rfl,by simp only;omega,h4⟩
    refine Tot.bind (Q:=fun r=>r.1=q∧r.2.length≤i+1∧∀m,m∈r.2→MB m) (Tot.grd (by omega) (Tot.get (by simp;omega) fun c _ hcm=>Tot.cond (fun _=>Tot.of (ZfU _ q _ _ _ o (by omega)) (.ret ⟨rfl,by simp;omega,fun m' hm'=>?_⟩)) fun _=>.ret ⟨rfl,by simp only;omega,h4⟩)) fun r _ hr=>?_
    ·simp only[List.mem_append,List.mem_singleton]at hm'
     rcases hm' with e|rfl
     ·exact h4 _ e
     ·exact⟨show(1:Int)<_ by decide,gu.id,show c<_ from hu.cf _ hcm,gu.tm,hy.1,hy.2,show(0:Int)<_ by decide,fun e he=>by cases he⟩
    ·rw[w1 (by omega)]
     exact kk (i+1,r.1,r.2) ⟨by simp only;omega,hr.1,hr.2.1,hr.2.2⟩ (by simp only;omega)) FF (0,g,[]) ⟨Nat.zero_le _,rfl,Nat.le_refl _,fun x hx=>by cases hx⟩ (by simp only[FF];omega)
  refine Tot.bind this fun r _ hr=>.ret ⟨(fun r e=>by cases e),fun s e=>?_⟩
  cases e
  exact⟨fun r' e=>(by cases e),fun r' e=>by cases e;exact⟨by rw[hr.1,gc],by rw[hr.1];exact gn.tl,by simp,z0,z0,Nat.le_trans hr.2.1 (by decide),hr.2.2⟩⟩
abbrev RtT:=Int×(List Int)×Int×Int×Int×Int×Int×Int×(List Zab)×(List UInt8)×Int×Int×Int×(List Int)×(List Int)×(List Int)×(List Zad)
def tOf(h:Zah)(v n m:List Int)(out:List Zad):RtT:=(h.Id,h.Conf,h.Term,h.Vote,h.Role,h.Leader,h.Trail.Base,h.Trail.BaseTerm,h.Trail.Entries,h.Snap,h.Commit,h.Left,h.Wait,v,n,m,out)
def ResT(c:List Int)(q:RtT):Prop:=∃h v n m out,q=tOf h v n m out∧Res c h v n m out
theorem RK.small{r:Zae}(h:RK r):Small r:=h.ok.small
theorem ZqP(r:Zae)(h:RK r)(draw:Int):Tot (ZhJ FF r draw) (ResT r.Conf):=by
 have hnm:=h.nm
 have hv:=h.ok.vo.1
 unfold ZhJ
 refine Tot.of (ZjH r h.small) (Tot.of h.ck ?_)
 simp only[Bool.not_true,cond_false]
 have base:∀l,Res r.Conf (Zah.mk r.Id r.Conf r.Term r.Vote r.Role r.Leader r.Trail r.Snap r.Commit l r.Wait) r.Votes r.Next r.Match []:=fun l=>⟨rfl,h.nd.tl,by omega,hnm.1,hnm.2,by simp,fun x hx=>by cases hx⟩
 have nd:∀l,NdOk (Zah.mk r.Id r.Conf r.Term r.Vote r.Role r.Leader r.Trail r.Snap r.Commit l r.Wait):=fun l=>⟨h.nd.cf,h.nd.idc,h.nd.tl⟩
 have nu:∀l,NumOk (Zah.mk r.Id r.Conf r.Term r.Vote r.Role r.Leader r.Trail r.Snap r.Commit l r.Wait):=fun l=>⟨h.nu.id,h.nu.cf,h.nu.tm,h.nu.cm,h.nu.bs,h.nu.bt⟩
 refine Tot.bind (Q:=fun s:Zah×List Int×List Int×List Int×List Zad=>Res r.Conf s.1 s.2.1 s.2.2.1 s.2.2.2.1 s.2.2.2.2) ?_ fun s _ hs=>.ret ⟨s.1,s.2.1,s.2.2.1,s.2.2.2.1,s.2.2.2.2,rfl,hs⟩
 refine Tot.test (fun _=>.ret (base _)) fun _=>Tot.cond (fun e=>?_) fun e=>?_
 ·have q:r.Role=2:=by simpa[hd]using e
  have hx:=h.nx q
  refine Tot.bind (Ziq _ r.Votes r.Next r.Match [] (nd 2) (nu 2) ⟨hx.nl,hx.ml,hx.nb⟩ (by simp) (fun x hx=>by cases hx)) fun s _ hs=>.ret ?_
  obtain⟨s1,s2,s3,s4,s5,s6⟩:=hs
  exact⟨by rw[s1];rfl,by rw[s1];exact h.nd.tl,by rw[s2];omega,by rw[s3];exact hnm.1,by rw[s4];exact hnm.2,Nat.le_trans s5 (by decide),s6⟩
 ·have h0:=h.ok.tm0
  refine Tot.bind (Zo7 draw _ r.Votes r.Next r.Match (nd _) (nu _) (show -1≤r.Term by omega)) fun o _ ho=>?_
  rcases o with a|b|c
  ·have:=ho.1 a rfl
   exact .ret ⟨this.cf,this.tl,by simp only;omega,hnm.1,hnm.2,this.ol,this.om⟩
  ·exact .ret ((ho.2 _ rfl).1 b rfl)
  ·exact .ret ((ho.2 _ rfl).2 c rfl)
theorem ZmY(r:Zae)(h:RK r)(data:List UInt8):Tot (ZfE FF r data) fun q=>∃g v n m out i e,q=(g.Id,g.Conf,g.Term,g.Vote,g.Role,g.Leader,g.Trail.Base,g.Trail.BaseTerm,g.Trail.Entries,g.Snap,g.Commit,g.Left,g.Wait,i,e,v,n,m,out)∧Res r.Conf g v n m out:=by
 have hnm:=h.nm
 have hv:=h.ok.vo.1
 unfold ZfE
 refine Tot.of (ZjH r h.small) ?_
 have base:Res r.Conf (hd r) r.Votes r.Next r.Match []:=⟨rfl,h.nd.tl,by omega,hnm.1,hnm.2,by simp,fun x hx=>by cases hx⟩
 refine Tot.bind (Q:=fun b=>b=false→r.Role=2) (Tot.of h.ck (by simp only[Bool.not_true,cond_false];exact .ret fun e=>by simpa using e)) fun b _ hb=>Tot.cond (fun _=>.ret ⟨hd r,r.Votes,r.Next,r.Match,[],0,4,rfl,base⟩) fun e=>?_
 have hx:=h.nx (hb e)
 refine Tot.bind (Q:=fun _=>True) (Tot.test (fun _=>.ret trivial) fun _=>.ret trivial) fun b _ _=>Tot.cond (fun _=>.ret ⟨hd r,r.Votes,r.Next,r.Match,[],0,1,rfl,base⟩) fun _=>?_
 refine Tot.bind (Zld _ _ (show r.Trail.Entries.length≤1000000 by have:=h.ok.tr.len;omega)) fun t _ ht=>Tot.cond (fun _=>.ret ⟨hd r,r.Votes,r.Next,r.Match,[],0,3,rfl,base⟩) fun e2=>?_
 obtain⟨t1,t2,t3,t4⟩:=ht (by simpa using e2)
 have nd:NdOk (Zah.mk r.Id r.Conf r.Term r.Vote r.Role r.Leader t.1 r.Snap r.Commit r.Left r.Wait):=⟨h.nd.cf,h.nd.idc,show t.1.Entries.length≤10000 by have:=t1.len;omega⟩
 have nu:NumOk (Zah.mk r.Id r.Conf r.Term r.Vote r.Role r.Leader t.1 r.Snap r.Commit r.Left r.Wait):=⟨h.nu.id,h.nu.cf,h.nu.tm,h.nu.cm,show t.1.Base<_ by have:=t1.b1;omega,show t.1.BaseTerm<_ by have:=t1.t1;omega⟩
 refine Tot.bind (Zpu _ r.Votes r.Next r.Match [] nd ⟨hx.nl,hx.ml,hx.nb⟩) fun o _ ho=>Tot.bind (Zkv _ r.Votes o.1 o.2 [] nd ho) fun q _ hq=>?_
 have hq2:NdOk q∧NumOk q∧q.Conf=r.Conf∧NxOk q o.1 o.2:=by
  rcases hq with rfl|⟨c,rfl,hc⟩
  ·exact⟨nd,nu,rfl,ho⟩
  ·exact⟨⟨nd.cf,nd.idc,nd.tl⟩,⟨nu.id,nu.cf,nu.tm,show c<_ by omega,nu.bs,nu.bt⟩,rfl,⟨ho.nl,ho.ml,ho.nb⟩⟩
 obtain⟨qn,qu,qc,qx⟩:=hq2
 have h7:=h.ok.cf.n7
 refine Tot.bind (Ziq q r.Votes o.1 o.2 [] qn qu qx (by simp) (fun x hx=>by cases hx)) fun s _ hs=>?_
 obtain⟨s1,s2,s3,s4,s5,s6⟩:=hs
 refine Tot.bind (ZfG _ _ _ _ _ (by rw[s1];exact qn)) fun l _ _=>.ret ⟨s.1,s.2.1,s.2.2.1,s.2.2.2.1,s.2.2.2.2,l,0,rfl,?_⟩
 exact⟨by rw[s1,qc],by rw[s1];exact qn.tl,by rw[s2];omega,by rw[s3,qx.nl,qc];exact h7,by rw[s4,qx.ml,qc];exact h7,Nat.le_trans s5 (by decide),s6⟩
theorem ZoZ(t:Zai)(ht:t.Entries.length≤10000):∀(es:List Zab) (k n:Nat),k≤t.Entries.length→es.length<n→Tot (Ze4 FF t n es (k:Int)) fun r=>∃k':Nat,r.2=(k':Int)∧k'≤t.Entries.length∧r.1.length≤es.length
 |es,k,0,_,h=>absurd h (Nat.not_lt_zero _)
 |es,k,n+1,hk,hn=>by
  simp only[Ze4]
  refine Tot.bind (Q:=fun b=>b=true→0<es.length∧k<t.Entries.length) ?_ fun b _ hb=>Tot.cond (fun e=>?_) fun _=>.ret ⟨k,rfl,hk,Nat.le_refl _⟩
  ·refine Tot.test (fun h1=>Tot.test (fun h2=>Tot.grd (by omega) (Tot.get (by simp;omega) fun _ _ _=>Tot.get (by simp;omega) fun _ _ _=>.ret fun _=>⟨by omega,by omega⟩)) fun _=>.ret (by simp)) fun _=>.ret (by simp)
  ·obtain⟨h1,h2⟩:=hb e
   refine Tot.grd (show Int.toNat 1≤_ by simp;omega) (Tot.grd (Nat.le_refl _) ?_)
   rw[wi64 (by omega) (by omega),show((k:Int)+1)=((k+1:Nat):Int) by omega]
   match es,h1 with
   |a::r,_=>
    have:=ZoZ t ht r (k+1) n (by omega) (by simp only[List.length_cons]at hn;omega)
    exact this.mono fun q ⟨k',a1,a2,a3⟩=>⟨k',a1,a2,by simp only[List.length_cons];omega⟩
theorem Zsl(t:Zai)(prev f:Int)(es:List Zab)(fixed:Int)(hl:t.Entries.length≤10000)(he:es.length≤1000)(h0:prev≤2000000000000):
 Tot (Zhz FF t prev f es fixed) fun r=>r.2=true→TrOk r.1:=by
 have hwl:∀(k:Nat) (more:List Zab),k≤t.Entries.length→more.length≤1000000→Tot (Zet FF t (k:Int) more) fun r=>r.2=true→TrOk r.1:=fun k more hk hm=>(Znp t k more hk (by omega) hm).mono fun r hr e=>(hr e).1
 unfold Zhz
 refine Tot.bind (Q:=fun b=>b=false→TrOk t∧0≤prev) ?_ fun b _ hb=>Tot.cond (fun _=>.ret (by simp)) fun e=>?_
 ·rcases chk t (by omega)with ⟨hc,h⟩|hc
  ·refine Tot.of hc ?_
   simp only[Bool.not_true,cond_false]
   exact Tot.test (fun _=>.ret (by simp)) fun h1=>Tot.test (fun _=>.ret (by simp)) fun _=>Tot.bind (Zk3 _ _ (by omega)) fun _ _ _=>.ret fun _=>⟨h,by omega⟩
  ·exact Tot.of hc (.ret (by simp))
 obtain⟨hT,hp⟩:=hb e
 have b0:=hT.b0;have b1:=hT.b1
 rw[tlen,wi64 (x:=t.Base-prev) (by omega) (by omega)]
 refine Tot.elim (Pr:=fun r:Zai×Bool=>r.2=true→TrOk r.1) (Ps:=fun s:Int×Int×List Zab=>s.2.2.length≤1000) ?_ (fun r hr=>.ret hr) fun s hs=>?_
 ·refine Tot.test (fun h1=>Tot.test (fun _=>Tot.bind (hwl _ [] (Nat.le_refl _) (by simp)) fun y _ hy=>.ret ⟨fun r e=>by cases e;exact hy,fun s e=>by cases e⟩) fun h2=>?_) fun _=>.ret ⟨(fun r e=>by cases e),fun s e=>by cases e;exact he⟩
  rw[wi64 (x:=t.Base-prev-1) (by omega) (by omega)]
  refine Tot.grd (by omega) (Tot.get (by omega) fun y _ _=>Tot.cond (fun _=>.ret ⟨fun r e=>by cases e;simp,fun s e=>by cases e⟩) fun _=>Tot.grd (by omega) (Tot.grd (by omega) (Tot.grd (Nat.le_refl _) (.ret ⟨(fun r e=>by cases e),fun s e=>by cases e;simp;omega⟩))))
 ·refine Tot.bind (ZgD t s.1 (by omega)) fun z _ hz=>Tot.bind (Q:=fun b=>b=false→z.2=true) (Tot.cond (fun _=>.ret (by simp)) fun q=>.ret fun _=>by simpa using q) fun b _ hb2=>Tot.cond (fun _=>.ret (by simp)) fun e2=>?_
  obtain⟨-,c1,c2⟩:=hz.1 (hb2 e2)
  rw[wi64 (x:=s.1-t.Base) (by omega) (by omega)]
  have:=ZoZ t hl s.2.2 (s.1-t.Base).toNat FF (by omega) (by simp only[FF];omega)
  rw[show(((s.1-t.Base).toNat:Nat):Int)=s.1-t.Base by omega]at this
  refine Tot.bind this fun q _ hq=>?_
  obtain⟨k',q1,q2,q3⟩:=hq
  refine Tot.cond (fun _=>Tot.bind (hwl _ [] (Nat.le_refl _) (by simp)) fun y _ hy=>.ret hy) fun _=>Tot.test (fun _=>.ret (by simp)) fun _=>?_
  rw[q1]
  exact Tot.bind (hwl k' q.1 q2 (by omega)) fun y _ hy=>.ret hy
theorem ZqQ(m:Zad)(hl:m.Entries.length≤1000):Tot (Zbr FF m FF m.LogTerm 0) fun o=>(∀b,o=.inl b→b=false)∧True:=by
 have:=loopT (fun n (s:Int×Nat)=>Zbr FF m n s.1 (s.2:Int)) (fun s=>s.2≤m.Entries.length) (fun s=>m.Entries.length-s.2) (fun o=>(∀b,o=.inl b→b=false)∧True) (by
  rintro n ⟨tm,i⟩ hi k;simp only at hi k⊢;simp only[Zbr]
  refine Tot.test (fun h=>?_) fun _=>.ret ⟨(fun r e=>by cases e),trivial⟩
  refine Tot.grd (by omega) (Tot.get (by simp;omega) fun y _ _=>Tot.bind (Q:=fun _=>True) (Tot.test (fun _=>.ret trivial) fun _=>Tot.test (fun _=>.ret trivial) fun _=>.ret trivial) fun b _ _=>Tot.cond (fun _=>.ret ⟨fun r e=>by cases e;rfl,trivial⟩) fun _=>?_)
  rw[w1 (by omega)]
  exact k (y.Term,i+1) (by simp only;omega) (by simp only;omega)) FF (m.LogTerm,0) (Nat.zero_le _) (by simp only[FF];omega)
 exact this
structure TkOk(m:Zad)(h:Zah):Prop where
 fr:m.From∈h.Conf
 tm:m.Term≤1099511627776
 i0:0≤m.Index
 i1:m.Index≤1099511627776
 lt:m.LogTerm≤1099511627776
 cm:m.Commit≤1099511627776
 en:m.Entries.length≤8
theorem Zo1(m:Zad)(h:Zah)(a b c:List Int)(o:List Zad)(hn:NdOk h):Tot (Zdb FF m h a b c o) fun r=>r=true→TkOk m h:=by
 have h7:=hn.cf.n7
 unfold Zdb
 refine Tot.bind (Q:=fun b=>b=false→m.From∈h.Conf∧m.Term≤1099511627776) ?_ fun b _ hb=>Tot.cond (fun _=>.ret (by simp)) fun e=>?_
 ·refine Tot.test (fun _=>.ret (by simp)) fun _=>Tot.test (fun _=>.ret (by simp)) fun _=>Tot.cond (fun _=>.ret (by simp)) fun _=>Tot.cond (fun _=>.ret (by simp)) fun _=>Tot.bind (Zen _ _ (by omega)) fun d _ hd=>Tot.cond (fun _=>.ret (by simp)) fun e=>Tot.test (fun _=>.ret (by simp)) fun _=>.ret fun q=>⟨hd.1 (by simpa using e),by have:=of_decide_eq_false q;omega⟩
 obtain⟨f1,f2⟩:=hb e
 refine Tot.bind (Q:=fun b=>b=false→TkOk m h) ?_ fun b _ hb2=>Tot.cond (fun _=>.ret (by simp)) fun e2=>?_
 ·refine Tot.test (fun _=>.ret (by simp)) fun a1=>Tot.test (fun _=>.ret (by simp)) fun a2=>Tot.test (fun _=>.ret (by simp)) fun a3=>Tot.test (fun _=>.ret (by simp)) fun a4=>Tot.test (fun _=>.ret (by simp)) fun a5=>Tot.test (fun _=>.ret (by simp)) fun a6=>Tot.test (fun _=>.ret (by simp)) fun a7=>.ret fun _=>⟨f1,f2,by omega,by omega,by omega,by omega,by omega⟩
 have ht:=hb2 e2
 obtain⟨o',e,h1, -⟩:=ZqQ m (by have:=ht.en;omega)
 rw[e]
 cases o' with
 |inl b=>exact .ret fun q=>by rw[show b=false from h1 b rfl]at q;cases q
 |inr u=>exact .ret fun _=>ht
theorem Zng(r:Zae)(h:RK r)(to_:Int)(snap:List UInt8):Tot (ZfF FF r to_ snap) fun q=>∃g v n m e,q=(g.Id,g.Conf,g.Term,g.Vote,g.Role,g.Leader,g.Trail.Base,g.Trail.BaseTerm,g.Trail.Entries,g.Snap,g.Commit,g.Left,g.Wait,e,v,n,m)∧Res r.Conf g v n m []:=by
 have hnm:=h.nm
 have hv:=h.ok.vo.1
 have hl:=h.ok.tr.len
 unfold ZfF
 have base:Res r.Conf (hd r) r.Votes r.Next r.Match []:=⟨rfl,h.nd.tl,by omega,hnm.1,hnm.2,by simp,fun x hx=>by cases hx⟩
 refine Tot.of (ZjH r h.small) (Tot.of h.ck ?_)
 simp only[Bool.not_true,cond_false]
 refine Tot.bind (Q:=fun _=>True) (Tot.test (fun _=>.ret trivial) fun _=>Tot.test (fun _=>.ret trivial) fun _=>.ret trivial) fun b _ _=>Tot.cond (fun _=>.ret ⟨hd r,r.Votes,r.Next,r.Match,1,rfl,base⟩) fun _=>?_
 refine Tot.bind (Znf _ _ (show r.Trail.Entries.length≤1000000 by omega)) fun t _ ht=>.ret ⟨Zah.mk r.Id r.Conf r.Term r.Vote r.Role r.Leader t.1 snap r.Commit r.Left r.Wait,r.Votes,r.Next,r.Match,0,rfl,⟨rfl,?_,by omega,hnm.1,hnm.2,by simp,fun x hx=>by cases hx⟩⟩
 show t.1.Entries.length≤10000
 by_cases q:t.2=true
 ·obtain⟨-,k,e⟩:=ht.1 q
  rw[e,List.length_drop]
  show r.Trail.Entries.length-k≤10000
  omega
 ·rw[ht.2 (by simpa using q)];simp
theorem Zmm{k f t tm i:Int}{y:Bool}(h1:k<10)(h2:f<9223372036854775808)(h3:t<9223372036854775808)(h4:tm<9223372036854775808)(h5:i<9223372036854775808):MB (Zad.mk k f t tm i 0 0 y [] []):=
 ⟨show k<_ by omega,h2,h3,h4,h5,show(0:Int)<_ by decide,show(0:Int)<_ by decide,fun e he=>by cases he⟩
section
variable {m:Zad}{h:Zah}{v n q:List Int}
theorem ZhL{x:Zad}(hx:MB x):∀y,y∈([]:List Zad)++[x]→MB y:=fun y hy=>by
 simp only[List.nil_append,List.mem_singleton]at hy;subst hy;exact hx
theorem Zrg(hn:NdOk h)(hu:NumOk h)(ht:TkOk m h)(hv:v.length≤100)(hx:n.length≤7)(hq:q.length≤7):Tot (ZdB FF m h v n q []) fun r=>Res h.Conf r.1 r.2.1 r.2.2.1 r.2.2.2.1 r.2.2.2.2:=by
 unfold ZdB
 have ans:∀k:Int,k<10→MB (Zad.mk k h.Id m.From h.Term 0 0 0 false [] []):=fun k hk=>Zmm hk hu.id (hu.cf _ ht.fr) hu.tm (by decide)
 refine Tot.cond (fun _=>Tot.of (ZfU _ h v n q [] (by decide)) (.ret ⟨rfl,hn.tl,hv,hx,hq,by simp,ZhL (ans 2 (by decide))⟩)) fun _=>?_
 refine Tot.bind (Q:=fun _=>True) (Tot.cond (fun _=>.ret trivial) fun _=>.ret trivial) fun b _ _=>Tot.cond (fun _=>Tot.of (ZfU _ h v n q [] (by decide)) (.ret ⟨rfl,hn.tl,hv,hx,hq,by simp,ZhL (ans 4 (by decide))⟩)) fun _=>.ret ⟨rfl,hn.tl,hv,hx,hq,by simp,fun x hx=>by cases hx⟩
theorem ZsN(hn:NdOk h)(hu:NumOk h)(ht:TkOk m h)(hv:v.length≤100)(hx:n.length≤7)(hq:q.length≤7):Tot (Zd4 FF m h v n q []) fun r=>Res h.Conf r.1 v n q r.2:=by
 unfold Zd4
 have nw:Tot (Option.bind (Ze0 FF h.Trail m.Index m.LogTerm) fun y=>some y) fun _=>True:=Tot.bind (ZpG _ _ _ (by have:=hn.tl;omega)) fun _ _ _=>.ret trivial
 refine Tot.bind (Q:=fun _=>True) (Tot.cond (fun _=>Tot.cond (fun _=>nw) fun _=>.ret trivial) fun _=>Tot.cond (fun _=>Tot.cond (fun _=>nw) fun _=>.ret trivial) fun _=>.ret trivial) fun b _ _=>?_
 refine Tot.bind (Q:=fun g:Zah=>g.Id=h.Id∧g.Conf=h.Conf∧g.Term=h.Term∧g.Trail=h.Trail) (Tot.cond (fun _=>.ret ⟨rfl,rfl,rfl,rfl⟩) fun _=>.ret ⟨rfl,rfl,rfl,rfl⟩) fun g _ hg=>?_
 obtain⟨g1,g2,g3,g4⟩:=hg
 refine Tot.of (ZfU _ g v n q [] (by decide)) (.ret ⟨g2,by simp only;rw[g4];exact hn.tl,hv,hx,hq,by simp,ZhL ?_⟩)
 exact Zmm (show(2:Int)<10 by decide) (by rw[g1];exact hu.id) (hu.cf _ ht.fr) (by rw[g3];exact hu.tm) (show(0:Int)<_ by decide)
theorem Zp2(hn:NdOk h)(hu:NumOk h)(hv:v.length≤90)(hx:n.length≤7)(hq:q.length≤7):Tot (Zb0 FF m h v n q []) fun o=>
 (∀r,o=.inl r→Res h.Conf r.1 r.2.1 r.2.2.1 r.2.2.2.1 r.2.2.2.2)∧(∀r,o=.inr r→Res h.Conf r.1 r.2.2.2.1 r.2.2.2.2.1 r.2.2.2.2.2.1 r.2.2.2.2.2.2):=by
 have h7:=hn.cf.n7
 unfold Zb0
 refine Tot.bind (Q:=fun _=>True) (Tot.cond (fun _=>.ret trivial) fun _=>Tot.cond (fun _=>.ret trivial) fun _=>Tot.bind (Zen _ _ (by omega)) fun _ _ _=>.ret trivial) fun b _ _=>Tot.cond (fun _=>.ret ⟨fun r e=>by cases e;exact⟨rfl,hn.tl,by simp only;omega,hx,hq,by simp,fun x hx=>by cases hx⟩,fun s e=>by cases e⟩) fun _=>?_
 refine Tot.grd (by unfold LIM;omega) (Tot.bind (Zlg _ _ (by omega) (by simp;omega)) fun b _ _=>Tot.cond (fun _=>Tot.bind (ZnQ h _ n q [] ⟨hn,hu,by decide,fun x hx=>by cases hx⟩) fun r _ hr=>.ret ⟨(fun r e=>by cases e),fun s e=>?_⟩) fun _=>.ret ⟨fun r e=>by cases e;exact⟨rfl,hn.tl,by simp;omega,hx,hq,by simp,fun x hx=>by cases hx⟩,fun s e=>by cases e⟩)
 cases e
 obtain⟨h1,h2,h3,h4,h5,h6⟩:=hr
 exact⟨h2,h1.nd.tl,by simp only;rw[h4];simp,h5,h6,Nat.le_trans h1.ol (by decide),h1.om⟩
theorem ZoI(hn:NdOk h)(hu:NumOk h)(ht:TkOk m h)(hx:n.length≤7)(hq:q.length≤7):Tot (ZcU FF m h v n q []) fun r=>Res h.Conf r.1 [] n q r.2:=by
 have hl:=hn.tl
 have i1:=ht.i1
 unfold ZcU Zci;simp only[Option.bind_some]
 refine Tot.bind (Q:=fun g:Zah=>g.Id=h.Id∧g.Conf=h.Conf∧g.Term=h.Term∧g.Trail.Entries.length≤10000∧g.Commit<9223372036854775808) ?_ fun g _ hg=>?_
 ·refine Tot.test (fun _=>?_) fun _=>.ret ⟨rfl,rfl,rfl,hl,hu.cm⟩
  refine Tot.bind (ZgD _ _ (by omega)) fun z _ _=>Tot.bind (Q:=fun _=>True) (Tot.cond (fun _=>.ret trivial) fun _=>.ret trivial) fun b _ _=>?_
  refine Tot.bind (Q:=fun s:Int×Int×List Zab=>s.2.2.length≤10000) (Tot.cond (fun _=>Tot.bind (Znf _ _ (by omega)) fun t _ htc=>.ret ?_) fun _=>.ret (by simp)) fun s _ hs=>.ret ⟨rfl,rfl,rfl,hs,show m.Index<_ by omega⟩
  by_cases e:t.2=true
  ·obtain⟨-,k,e⟩:=htc.1 e
   simp only[e,List.length_drop];omega
  ·simp only[htc.2 (by simpa using e)];simp
 obtain⟨g1,g2,g3,g4,g5⟩:=hg
 refine Tot.of (ZfU _ g [] n q [] (by decide)) (.ret ⟨g2,g4,by simp,hx,hq,by simp,ZhL ?_⟩)
 exact Zmm (show(4:Int)<10 by decide) (by rw[g1];exact hu.id) (hu.cf _ ht.fr) (by rw[g3];exact hu.tm) g5
theorem ZqR(hn:NdOk h)(hu:NumOk h)(ht:TkOk m h)(hx:n.length≤7)(hq:q.length≤7):Tot (Zdz FF m h v n q []) fun r=>Res h.Conf r.1 [] n q r.2:=by
 have hl:=hn.tl
 have i1:=ht.i1;have i0:=ht.i0;have en:=ht.en
 unfold Zdz Zci;simp only[Option.bind_some]
 refine Tot.bind (Zsl _ _ _ _ _ hl (by omega) (by omega)) fun t _ htp=>Tot.cond (fun _=>?_) fun e=>?_
 ·refine Tot.bind (ZfG _ _ _ _ _ ⟨hn.cf,hn.idc,hl⟩) fun a _ ha=>Tot.of (ZfU _ _ [] n q [] (by decide)) (.ret ⟨rfl,hl,by simp,hx,hq,by simp,ZhL ?_⟩)
  refine Zmm (show(4:Int)<10 by decide) hu.id (hu.cf _ ht.fr) hu.tm ?_
  simp only
  rw[wi64 (by omega) (by omega)]
  split<;>(try split)<;>omega
 ·have hT:=htp (by simpa using e)
  have hb:=hT.b1;have hlen:=hT.len
  refine Tot.bind (ZfG _ _ _ _ _ ⟨hn.cf,hn.idc,show t.1.Entries.length≤10000 by omega⟩) fun a _ ha=>Tot.of (ZfU _ _ [] n q [] (by decide)) (.ret ⟨rfl,show t.1.Entries.length≤10000 by omega,by simp,hx,hq,by simp,ZhL ?_⟩)
  refine Zmm (show(4:Int)<10 by decide) hu.id (hu.cf _ ht.fr) hu.tm ?_
  simp only[List.length_map]
  rw[wi64 (by omega) (by omega)]
  split<;>omega
end
theorem NxOk.set1{h:Zah}{n q:List Int}(hx:NxOk h n q)(i:Nat)(x:Int)(h1: -1000000000000≤x)(h2:x≤1900000000000):NxOk h (n.set i x) q:=
 ⟨by simpa using hx.nl,hx.ml,fun y hy=>by
  rcases List.mem_or_eq_of_mem_set hy with e|e
  ·exact hx.nb _ e
  ·subst e;exact⟨h1,h2⟩⟩
theorem NxOk.set2{h:Zah}{n q:List Int}(hx:NxOk h n q)(i:Nat)(x:Int):NxOk h n (q.set i x):=⟨hx.nl,by simpa using hx.ml,hx.nb⟩
section
variable {m:Zad}{h:Zah}{v n q:List Int}
theorem ZsR(hn:NdOk h)(hu:NumOk h)(ht:TkOk m h)(hv:v.length≤100)(hx:n.length≤7)(hq:q.length≤7)(hk:h.Role=2→NxOk h n q∧∀x,x∈q→0≤x∧x≤1099511627776):
 Tot (Zd5 FF m h v n q []) fun r=>Res h.Conf r.1 r.2.1 r.2.2.1 r.2.2.2.1 r.2.2.2.2:=by
 have h7:=hn.cf.n7
 have i1:=ht.i1;have i0:=ht.i0
 unfold Zd5
 refine Tot.bind (Q:=fun b=>b=false→h.Role=2) (Tot.cond (fun _=>.ret (by simp)) fun e=>Tot.bind (ZfG _ _ _ _ _ hn) fun _ _ _=>.ret fun _=>by simpa using e) fun b _ hb=>Tot.cond (fun _=>.ret ⟨rfl,hn.tl,hv,hx,hq,by simp,fun x hx=>by cases hx⟩) fun e=>?_
 obtain⟨hX,hB⟩:=hk (hb e)
 have e1:=hX.nl;have e2:=hX.ml
 refine Tot.bind (Zkc _ _ (by omega)) fun i _ hi=>?_
 have j0:=hi.2.2.2 ht.fr
 have j1:=hi.2.1
 obtain⟨k,rfl⟩:∃k:Nat,i=(k:Int):=⟨i.toNat,by omega⟩
 simp only[Int.toNat_natCast]
 refine Tot.cond (fun _=>?_) fun _=>?_
 ·refine Tot.grd j0 (Tot.get (by omega) fun _ _ _=>Tot.get (by omega) fun a ha am=>Tot.grd j0 (Tot.get (by omega) fun _ _ _=>Tot.get (by omega) fun c hc cm=>Tot.grd j0 (Tot.get (by omega) fun _ _ _=>Tot.get (by omega) fun _ _ _=>?_)))
  have ba:=hX.nb _ am;have bc:=hB _ cm
  rw[wi64 (x:=c+1) (by omega) (by omega),wi64 (x:=a-1) (by omega) (by omega),wi64 (x:=m.Index+1) (by omega) (by omega)]
  generalize hg:(if c+1>(if a-1<m.Index+1 then a-1 else m.Index+1)then c+1 else(if a-1<m.Index+1 then a-1 else m.Index+1))=g
  have hg1:1≤g∧g≤1900000000000:=by subst hg;split<;>(try split)<;>omega
  have hX2:=hX.set1 k g (by omega) (by omega)
  refine Tot.bind (Zlv h v (n.set k g) q [] hn hu hX2 (by decide) k (by omega)) fun r _ hr=>.ret ?_
  obtain⟨r1,x,r2,r3⟩:=hr
  rw[r1,r2]
  exact⟨rfl,hn.tl,hv,by simpa using hx,hq,by simp,ZhL r3⟩
 ·refine Tot.grd j0 (Tot.get (by omega) fun _ _ _=>Tot.get (by omega) fun c hc cm=>Tot.grd j0 (Tot.get (by omega) fun _ _ _=>Tot.get (by omega) fun _ _ _=>Tot.grd j0 (Tot.get (by simp;omega) fun _ _ _=>Tot.get (by simp;omega) fun y hy _=>Tot.grd j0 (Tot.get (by omega) fun _ _ _=>Tot.get (by omega) fun _ _ _=>?_))))
  have bc:=hB _ cm
  rw[List.getElem?_set_self (by omega)]at hy
  injection hy with hy
  have by1:0≤y∧y≤1099511627776:=by subst hy;split<;>omega
  rw[wi64 (x:=y+1) (by omega) (by omega)]
  have hX2:=(hX.set1 k (y+1) (by omega) (by omega)).set2 k (if m.Index>c then m.Index else c)
  refine Tot.bind (Zkv h v _ _ [] hn hX2) fun g _ hg=>?_
  have hg2:NdOk g∧NumOk g∧g.Conf=h.Conf∧NxOk g (n.set k (y+1)) (q.set k (if m.Index>c then m.Index else c)):=by
   rcases hg with rfl|⟨c',rfl,hc'⟩
   ·exact⟨hn,hu,rfl,hX2⟩
   ·exact⟨⟨hn.cf,hn.idc,hn.tl⟩,⟨hu.id,hu.cf,hu.tm,show c'<_ by omega,hu.bs,hu.bt⟩,rfl,⟨hX2.nl,hX2.ml,hX2.nb⟩⟩
  obtain⟨gn,gu,gc,gx⟩:=hg2
  refine Tot.grd j0 (Tot.get (by simp;omega) fun _ _ _=>Tot.get (by simp;omega) fun _ _ _=>Tot.bind (ZfG _ _ _ _ _ gn) fun _ _ _=>Tot.test (fun _=>?_) fun _=>.ret ⟨gc,gn.tl,hv,by simpa using hx,by simpa using hq,by simp,fun x hx=>by cases hx⟩)
  refine Tot.bind (Zlv g v _ _ [] gn gu gx (by decide) k (by rw[gc];omega)) fun r _ hr=>.ret ?_
  obtain⟨r1,x,r2,r3⟩:=hr
  rw[r1,r2]
  exact⟨gc,gn.tl,hv,by simpa using hx,by simpa using hq,by simp,ZhL r3⟩
end
theorem Zos(r:Zae)(h:RK r)(m:Zad):Tot (Zgf FF r m) (ResT r.Conf):=by
 have hnm:=h.nm
 have hv:=h.ok.vo.1
 unfold Zgf
 refine Tot.of (ZjH r h.small) ?_
 have base:Res r.Conf (hd r) r.Votes r.Next r.Match []:=⟨rfl,h.nd.tl,by omega,hnm.1,hnm.2,by simp,fun x hx=>by cases hx⟩
 refine Tot.bind (Q:=fun b=>b=false→TkOk m (hd r)) (Tot.of h.ck ?_) fun b _ hb=>Tot.cond (fun _=>.ret ⟨hd r,r.Votes,r.Next,r.Match,[],rfl,base⟩) fun e=>?_
 ·simp only[Bool.not_true,cond_false]
  exact Tot.bind (Zo1 m (hd r) r.Votes r.Next r.Match [] h.nd) fun d _ hd=>.ret fun q=>hd (by simpa using q)
 have ht:=hb e
 refine Tot.bind (Q:=fun s:Zah×List Int×List Int×List Int=>NdOk s.1∧NumOk s.1∧s.1.Conf=r.Conf∧s.2.1.length≤7∧s.2.2.1.length≤7∧s.2.2.2.length≤7∧(s.1.Role=2→NxOk s.1 s.2.2.1 s.2.2.2∧∀x,x∈s.2.2.2→0≤x∧x≤1099511627776)) ?_ fun s _ hs=>?_
 ·refine Tot.test (fun _=>.ret ⟨⟨h.nd.cf,h.nd.idc,h.nd.tl⟩,⟨h.nu.id,h.nu.cf,show m.Term<_ by have:=ht.tm;omega,h.nu.cm,h.nu.bs,h.nu.bt⟩,rfl,by simp,by simp,by simp,fun q=>absurd (show(0:Int)=2 from q) (by decide)⟩) fun _=>.ret ⟨h.nd,h.nu,rfl,hv,hnm.1,hnm.2,fun q=>⟨h.nx q,fun x hx=>?_⟩⟩
  have k:=h.ok.kn.1 q
  have a:=h.ok.tr.last
  obtain⟨i,hi,rfl⟩:=List.getElem_of_mem hx
  obtain⟨y,z,h1,h2,h3⟩:=k.mm i (by rw[←k.ml];exact hi)
  rw[List.getElem?_eq_getElem hi]at h1;cases h1
  omega
 obtain⟨g,v,n,q⟩:=s
 obtain⟨gn,gu,gc,gv,gx,gq,gk⟩:=hs
 simp only at gn gu gc gv gx gq gk⊢
 have gt:TkOk m g:=⟨by rw[gc];exact ht.fr,ht.tm,ht.i0,ht.i1,ht.lt,ht.cm,ht.en⟩
 refine Tot.test (fun _=>Tot.bind (Zrg gn gu gt (by omega) gx gq) fun s _ hs=>.ret ⟨s.1,s.2.1,s.2.2.1,s.2.2.2.1,s.2.2.2.2,rfl,by rw[gc]at hs;exact hs⟩) fun _=>?_
 refine Tot.bind (Q:=fun s:Zah×List Int×List Int×List Int×List Zad=>Res r.Conf s.1 s.2.1 s.2.2.1 s.2.2.2.1 s.2.2.2.2) ?_ fun s _ hs=>.ret ⟨s.1,s.2.1,s.2.2.1,s.2.2.2.1,s.2.2.2.2,rfl,hs⟩
 have same:Res r.Conf g v n q []:=⟨gc,gn.tl,by omega,gx,gq,by simp,fun x hx=>by cases hx⟩
 rw[←gc]at same⊢
 refine Tot.cond (fun _=>Tot.bind (ZsN gn gu gt (by omega) gx gq) fun s _ hs=>.ret hs) fun _=>Tot.cond (fun _=>?_) fun _=>Tot.cond (fun _=>Tot.bind (ZsR gn gu gt (by omega) gx gq gk) fun s _ hs=>.ret hs) fun _=>Tot.cond (fun _=>.ret same) fun _=>Tot.cond (fun _=>Tot.bind (ZqR gn gu gt gx gq) fun s _ hs=>.ret hs) fun _=>Tot.cond (fun _=>Tot.bind (ZoI gn gu gt gx gq) fun s _ hs=>.ret hs) fun _=>.ret same
 refine Tot.bind (Zp2 (m:=m) gn gu (by omega) gx gq) fun o _ ho=>?_
 rcases o with a|b
 ·exact .ret (ho.1 a rfl)
 ·exact .ret (ho.2 b rfl)
end Go.T
