import Derived.Test.YtjpmdkgonlmddaaGreatDoorLD
set_option linter.unusedVariables false
set_option maxRecDepth 20000
namespace Go.T
open Go Go.Ab
structure Res(c:List Int)(h:Zah)(v n m:List Int)(out:List Zac):Prop where
 cf:h.Conf=c
 tl:h.Trail.Entries.length≤10000
 vl:v.length≤100
 nl:n.length≤7
 ml:m.length≤7
 ol:out.length≤200
 om:∀x,x∈out→MC c x
 oa:h.Role=2→OA h m
structure RK(r:Zad):Prop where
 ck:Zbg FF r=some true
 ok:Zk8 r
 cb:∀c,c∈r.Conf→c<9223372036854775808
theorem RK.nd{r:Zad}(h:RK r)(q:Zbu FF r.Conf=some true):NdOk (hd r):=⟨h.ok.cf,h.ok.idc,⟨h.ok.tc,h.ok.tr⟩,q⟩
structure RO(r:Zad):Prop extends RK r where
 qk:Zbu FF r.Conf=some true
 oa:r.Role=2→OA (hd r) r.Match
theorem RO.nd{r:Zad}(h:RO r):NdOk (hd r):=h.toRK.nd h.qk
theorem wins1{c:List Int}{i:Int}(hc:Zej c)(h:c.length<2*(wn c [i]).length):c.length<2:=by
 have h1:(wn c [i]).Nodup:=hc.nd.filter _
 have h2:∀x,x∈wn c [i]→x=i:=fun x hx=>by simpa using YD (Wn.1 hx).2
 have:(wn c [i]).length≤1:=by
  match hw:wn c [i],h1,h2 with
  | [],_,_=>simp
  | [_],_,_=>simp
  |a::b::l,h1,h2=>rw[h2 a (by simp),h2 b (by simp)]at h1;simp at h1
 omega
theorem RK.nu{r:Zad}(h:RK r):NumOk (hd r):=by
 have a:=h.ok.tm1;have b:=h.ok.cm1;have c:=h.ok.tr.last;have d:=h.ok.tr.b1;have e:=h.ok.tr.t1
 exact⟨h.cb _ h.ok.idc,h.cb,show r.Term<_ by omega,show r.Commit<_ by omega,show r.Trail.Base<_ by omega,show r.Trail.BaseTerm<_ by omega⟩
theorem RK.nx{r:Zad}(h:RK r)(q:r.Role=2):NxOk (hd r) r.Next r.Match:=by
 have k:=h.ok.kn.1 q
 have a:=h.ok.tr.last;have b:=h.ok.tr.b0
 refine⟨k.nl,k.ml,fun x hx=>?_⟩
 obtain⟨i,hi,rfl⟩:=YY hx
 obtain⟨m,y,h1,h2,h3⟩:=k.mm i (by rw[←k.nl];exact hi)
 rw[Y3 hi]at h2;cases h2
 omega
theorem RK.nm{r:Zad}(h:RK r):r.Next.length≤7∧r.Match.length≤7:=by
 have h7:=h.ok.cf.n7
 by_cases q:r.Role=2
 ·have k:=h.ok.kn.1 q;exact⟨by rw[k.nl];exact h7,by rw[k.ml];exact h7⟩
 ·have k:=h.ok.kn.2 q;rw[k.1,k.2];exact⟨by decide,by decide⟩
theorem ZoX(draw:Int)(h:Zah)(v n m:List Int)(hn:NdOk h)(hu:NumOk h)(ht: -1≤h.Term):Tot (Zbr FF draw h v n m []) fun o=>
 (∀r,o=.inl r→r=(h,[]))∧(∀s,o=.inr s→(∀r,s=.inl r→Res h.Conf r.1 r.2.1 r.2.2.1 r.2.2.2.1 r.2.2.2.2∧h.Conf.length<2)∧(∀r,s=.inr r→Res h.Conf r.1 [r.2.1] [] [] r.2.2∧r.1.Commit=h.Commit)):=by
 have h7:=hn.cf.n7
 have z0:([]:List Int).length≤7:=by decide
 have z1:([]:List Int).length≤100:=by decide
 unfold Zbr
 refine tT (fun _=>.ret ⟨fun r e=>by cases e;rfl,fun s e=>by cases e⟩) fun hlt=>?_
 refine tB (Q:=fun _=>True) (tT (fun _=>.ret trivial) fun _=>.ret trivial) fun d _ _=>tO (ZrZ [h.Id] hn.qk hn.cf (by simp)) ?_
 have nd:∀a b,NdOk (Zah.mk h.Id h.Conf (IntKind.wrap IntKind.i64 (h.Term+(1:Int))) h.Id 1 0 h.Trail h.Snap h.Commit a b):=fun _ _=>⟨hn.cf,hn.idc,hn.tc,hn.qk⟩
 have nu:∀a b,NumOk (Zah.mk h.Id h.Conf (IntKind.wrap IntKind.i64 (h.Term+(1:Int))) h.Id 1 0 h.Trail h.Snap h.Commit a b):=fun _ _=>⟨hu.id,hu.cf,wlt _,hu.cm,hu.bs,hu.bt⟩
 refine tT (fun hw=>tB (ZnJ _ _ _ _ [] ⟨nd _ _,nu _ _,by decide,fun x hx=>by cases hx⟩) fun r _ hr=>.ret ⟨(fun r e=>by cases e),fun s e=>?_⟩) fun _=>?_
 ·cases e
  obtain⟨h1,h2,h3,h4,h5,h6,h8⟩:=hr
  have om:=h1.om
  rw[h2]at om
  exact⟨fun r' e=>by cases e;exact⟨⟨h2,h1.nd.tl,by rw[h4];exact z1,h5,h6,YV h1.ol (by decide),om,fun _=>h8⟩,wins1 hn.cf hw⟩,fun r' e=>by cases e⟩
 ·refine tB (Q:=fun y:Int×Int=>y.1<9223372036854775808∧y.2<9223372036854775808) ?_ fun y _ hy=>?_
  ·rcases chk h.Trail (by have:=hn.tl;omega)with ⟨hc,hT⟩|hc
   ·have:=hT.last
    exact(Ziw hc hT).mono fun y hy=>⟨by omega,by omega⟩
   ·have:Zb6 FF h.Trail=some (0,0):=by unfold Zb6;rw[hc];rfl
    exact⟨_,this,by decide,by decide⟩
  generalize hg:Zah.mk h.Id h.Conf (IntKind.wrap IntKind.i64 (h.Term+(1:Int))) h.Id 1 0 h.Trail h.Snap h.Commit (IntKind.wrap IntKind.i64 ((10:Int)+(@Int.tmod d (10:Int)))) (IntKind.wrap IntKind.i64 ((10:Int)+(@Int.tmod d (10:Int))))=g
  have gn:NdOk g:=hg▸nd _ _
  have gu:NumOk g:=hg▸nu _ _
  have gc:g.Conf=h.Conf∧g.Id=h.Id∧g.Commit=h.Commit∧g.Role=1:=by rw[←hg];exact⟨rfl,rfl,rfl,rfl⟩
  have:=loopT (fun k (s:Nat×Zah×List Zac)=>ZaS FF h y k (s.1:Int) s.2.1 s.2.2) (fun s=>s.1≤h.Conf.length∧s.2.1=g∧s.2.2.length≤s.1∧∀m,m∈s.2.2→MC h.Conf m) (fun s=>h.Conf.length-s.1)
   (fun r=>r.1=g∧r.2.length≤7∧∀m,m∈r.2→MC h.Conf m) (by
    rintro k ⟨i,q,o⟩ ⟨h1,h2,h3,h4⟩ kk;simp only at h1 h2 h3 h4 kk⊢;subst h2;simp only[ZaS]
    refine tT (fun _=>?_) fun _=>.ret ⟨rfl,by simp only;omega,h4⟩
    refine tB (Q:=fun r=>r.1=q∧r.2.length≤i+1∧∀m,m∈r.2→MC h.Conf m) (tG (by omega) (tE (by simp;omega) fun c _ hcm=>tC (fun ec=>tO (ZfR _ q _ _ _ o (by omega)) (.ret ⟨rfl,by simp;omega,fun m' hm'=>?_⟩)) fun _=>.ret ⟨rfl,by simp only;omega,h4⟩)) fun r _ hr=>?_
    ·simp only[Yy,YB]at hm'
     rcases hm' with e|rfl
     ·exact h4 _ e
     ·exact⟨⟨show(1:Int)<_ by decide,gu.id,show c<_ from hu.cf _ hcm,gu.tm,hy.1,hy.2,show(0:Int)<_ by decide,fun e he=>by cases he⟩,by show q.Id∈_;rw[gc.2.1];exact hn.idc,by show c≠q.Id;simpa using ec⟩
    ·rw[w1 (by omega)]
     exact kk (i+1,r.1,r.2) ⟨by simp only;omega,hr.1,hr.2.1,hr.2.2⟩ (by simp only;omega)) FF (0,g,[]) ⟨Yv _,rfl,Yg _,fun x hx=>by cases hx⟩ (by simp only[FF];omega)
  refine tB this fun r _ hr=>.ret ⟨(fun r e=>by cases e),fun s e=>?_⟩
  cases e
  exact⟨fun r' e=>(by cases e),fun r' e=>by cases e;exact⟨⟨by rw[hr.1,gc.1],by rw[hr.1];exact gn.tl,by simp,z0,z0,YV hr.2.1 (by decide),hr.2.2,fun k=>by rw[hr.1,gc.2.2.2]at k;cases k⟩,by rw[hr.1,gc.2.2.1]⟩⟩
abbrev RtT:=Int×(List Int)×Int×Int×Int×Int×Int×Int×(List Zab)×(List UInt8)×Int×Int×Int×(List Int)×(List Int)×(List Int)×(List Zac)
def tOf(h:Zah)(v n m:List Int)(out:List Zac):RtT:=(h.Id,h.Conf,h.Term,h.Vote,h.Role,h.Leader,h.Trail.Base,h.Trail.BaseTerm,h.Trail.Entries,h.Snap,h.Commit,h.Left,h.Wait,v,n,m,out)
def ResT(c:List Int)(q:RtT):Prop:=∃h v n m out,q=tOf h v n m out∧Res c h v n m out
theorem RK.small{r:Zad}(h:RK r):Small r:=h.ok.small
theorem ZqI(r:Zad)(h:RO r)(draw:Int):Tot (ZhF FF r draw) fun q=>∃g v n m out,q=tOf g v n m out∧Res r.Conf g v n m out∧(2≤r.Conf.length→g.Commit=r.Commit):=by
 have hnm:=h.nm
 have hv:=h.ok.vo.1
 unfold ZhF
 refine tO (ZjG r h.small) (tO h.ck ?_)
 simp only[YP,Y7]
 have base:∀l,Res r.Conf (Zah.mk r.Id r.Conf r.Term r.Vote r.Role r.Leader r.Trail r.Snap r.Commit l r.Wait) r.Votes r.Next r.Match []:=fun l=>⟨rfl,h.nd.tl,by omega,hnm.1,hnm.2,by simp,fun x hx=>(by cases hx),h.oa⟩
 have nd:∀l,NdOk (Zah.mk r.Id r.Conf r.Term r.Vote r.Role r.Leader r.Trail r.Snap r.Commit l r.Wait):=fun l=>⟨h.nd.cf,h.nd.idc,h.nd.tc,h.nd.qk⟩
 have nu:∀l,NumOk (Zah.mk r.Id r.Conf r.Term r.Vote r.Role r.Leader r.Trail r.Snap r.Commit l r.Wait):=fun l=>⟨h.nu.id,h.nu.cf,h.nu.tm,h.nu.cm,h.nu.bs,h.nu.bt⟩
 refine tB (Q:=fun s:Zah×List Int×List Int×List Int×List Zac=>Res r.Conf s.1 s.2.1 s.2.2.1 s.2.2.2.1 s.2.2.2.2∧(2≤r.Conf.length→s.1.Commit=r.Commit)) ?_ fun s _ hs=>.ret ⟨s.1,s.2.1,s.2.2.1,s.2.2.2.1,s.2.2.2.2,rfl,hs⟩
 refine tT (fun _=>.ret ⟨base _,fun _=>rfl⟩) fun _=>tC (fun e=>?_) fun e=>?_
 ·have q:r.Role=2:=by simpa[hd]using e
  have hx:=h.nx q
  refine tB (Zik _ r.Votes r.Next r.Match [] (nd 2) (nu 2) ⟨hx.nl,hx.ml,hx.nb⟩ (by simp) (fun x hx=>by cases hx)) fun s _ hs=>.ret ?_
  obtain⟨s1,s2,s3,s4,s5,s6⟩:=hs
  exact⟨⟨by rw[s1];rfl,by rw[s1];exact h.nd.tl,by rw[s2];omega,by rw[s3];exact hnm.1,by rw[s4];exact hnm.2,YV s5 (by decide),s6,fun _=>by rw[s1,s4];exact h.oa q⟩,fun _=>by rw[s1];rfl⟩
 ·have h0:=h.ok.tm0
  refine tB (ZoX draw _ r.Votes r.Next r.Match (nd _) (nu _) (show -1≤r.Term by omega)) fun o _ ho=>?_
  rcases o with a|b|c
  ·have:=ho.1 a rfl
   subst this
   exact .ret ⟨base _,fun _=>rfl⟩
  ·have:=(ho.2 _ rfl).1 b rfl
   exact .ret ⟨this.1,fun q=>absurd this.2 (Nat.not_lt.2 q)⟩
  ·have:=(ho.2 _ rfl).2 c rfl
   exact .ret ⟨this.1,fun _=>this.2⟩
theorem ZmR(r:Zad)(h:RO r)(data:List UInt8):Tot (ZfB FF r data) fun q=>∃g v n m out i e,q=(g.Id,g.Conf,g.Term,g.Vote,g.Role,g.Leader,g.Trail.Base,g.Trail.BaseTerm,g.Trail.Entries,g.Snap,g.Commit,g.Left,g.Wait,i,e,v,n,m,out)∧Res r.Conf g v n m out∧(2≤r.Conf.length→g.Commit=r.Commit):=by
 have hnm:=h.nm
 have hv:=h.ok.vo.1
 unfold ZfB
 refine tO (ZjG r h.small) ?_
 have base:Res r.Conf (hd r) r.Votes r.Next r.Match []:=⟨rfl,h.nd.tl,by omega,hnm.1,hnm.2,by simp,fun x hx=>(by cases hx),h.oa⟩
 refine tB (Q:=fun b=>b=false→r.Role=2) (tO h.ck (by simp only[YP,Y7];exact .ret fun e=>by simpa using e)) fun b _ hb=>tC (fun _=>.ret ⟨hd r,r.Votes,r.Next,r.Match,[],0,4,rfl,base,fun _=>rfl⟩) fun e=>?_
 have hx:=h.nx (hb e)
 refine tB (Q:=fun _=>True) (tT (fun _=>.ret trivial) fun _=>.ret trivial) fun b _ _=>tC (fun _=>.ret ⟨hd r,r.Votes,r.Next,r.Match,[],0,1,rfl,base,fun _=>rfl⟩) fun _=>?_
 refine tB (h.nd.tc.app_tot _) fun t _ ht=>tC (fun _=>.ret ⟨hd r,r.Votes,r.Next,r.Match,[],0,3,rfl,base,fun _=>rfl⟩) fun e2=>?_
 obtain⟨t1,t2⟩:=ht (by simpa using e2)
 have t1:t.1=Zag.mk r.Trail.Base r.Trail.BaseTerm (r.Trail.Entries++[Zab.mk r.Term data]):=t1
 have hte:tEnd r.Trail≤tEnd t.1:=by rw[t1];unfold tEnd;simp;omega
 have nd:NdOk (Zah.mk r.Id r.Conf r.Term r.Vote r.Role r.Leader t.1 r.Snap r.Commit r.Left r.Wait):=⟨h.nd.cf,h.nd.idc,t2,h.qk⟩
 have nu:NumOk (Zah.mk r.Id r.Conf r.Term r.Vote r.Role r.Leader t.1 r.Snap r.Commit r.Left r.Wait):=⟨h.nu.id,h.nu.cf,h.nu.tm,h.nu.cm,show t.1.Base<_ by have:=t2.ok.b1;omega,show t.1.BaseTerm<_ by have:=t2.ok.t1;omega⟩
 refine tB (Zpk _ r.Votes r.Next r.Match [] nd ⟨hx.nl,hx.ml,hx.nb⟩) fun o _ ho=>?_
 obtain⟨ho,k,k1,k2⟩:=ho
 refine tB (Zkr _ r.Votes o.1 o.2 [] nd ho) fun q _ hq=>?_
 obtain⟨c,rfl,c1,c2,c3⟩:=hq
 obtain⟨w1,w2⟩:=h.oa (hb e)
 have kk:=h.ok.kn.1 (hb e)
 have hcm:2≤r.Conf.length→c=r.Commit:=fun h2=>by
  refine c3 fun x hx hlt hxt=>?_
  rw[k2]at hx
  have hmx:∀y,y∈r.Match→y≤tEnd r.Trail:=fun y hy=>by
   obtain⟨j,hj,rfl⟩:=YY hy
   obtain⟨a,b,g1, -, -,g4, -⟩:=kk.mm j (by rw[←kk.ml];exact hj)
   rw[Y3 hj]at g1;cases g1;exact g4
  obtain⟨m1,m2⟩:=Med.own (w1 k k1) hmx hte (by rw[kk.ml];show(r.Conf.length-1)/2+1<_;omega) hx
  refine w2 x m1 hlt ?_
  have hxt:tAt t.1 x=some r.Term:=hxt
  rw[t1,Zr5 (t:=r.Trail) m2]at hxt;exact hxt
 have hc9:c<9223372036854775808:=by
  have h9:r.Commit<9223372036854775808:=h.nu.cm
  have c1:c=r.Commit∨c≤1099511627776:=c1
  omega
 have qn:NdOk (hC (Zah.mk r.Id r.Conf r.Term r.Vote r.Role r.Leader t.1 r.Snap r.Commit r.Left r.Wait) c):=⟨nd.cf,nd.idc,nd.tc,nd.qk⟩
 have qu:NumOk (hC (Zah.mk r.Id r.Conf r.Term r.Vote r.Role r.Leader t.1 r.Snap r.Commit r.Left r.Wait) c):=⟨nu.id,nu.cf,nu.tm,hc9,nu.bs,nu.bt⟩
 have h7:=h.ok.cf.n7
 refine tB (Zik _ r.Votes o.1 o.2 [] qn qu ⟨ho.nl,ho.ml,ho.nb⟩ (by simp) (fun x hx=>by cases hx)) fun s _ hs=>?_
 obtain⟨s1,s2,s3,s4,s5,s6⟩:=hs
 refine tB (ZfD _ _ _ _ _ (by rw[s1];exact qn.tl)) fun l _ _=>.ret ⟨s.1,s.2.1,s.2.2.1,s.2.2.2.1,s.2.2.2.2,l,0,rfl,?_⟩
 have e1:o.1.length=r.Conf.length:=ho.nl
 have e2:o.2.length=r.Conf.length:=ho.ml
 rw[s1,s2,s3,s4]
 refine⟨⟨rfl,qn.tl,by omega,by omega,by omega,YV s5 (by decide),s6,fun _=>⟨fun j hj=>?_,c2⟩⟩,hcm⟩
 have:=h.ok.cf.inj k1 (show r.Conf[j]? =some r.Id from hj)
 subst this
 rw[k2,WP (by rw[kk.ml];exact(YC.1 k1).1)];rfl
theorem ZoQ(t:Zag)(ht:t.Entries.length≤10000):∀(es:List Zab) (k n:Nat),k≤t.Entries.length→es.length<n→Tot (ZeZ FF t n es (k:Int)) fun r=>∃k':Nat,r.2=(k':Int)∧k'≤t.Entries.length∧r.1.length≤es.length
 |es,k,0,_,h=>absurd h (W9 _)
 |es,k,n+1,hk,hn=>by
  simp only[ZeZ]
  refine tB (Q:=fun b=>b=true→0<es.length∧k<t.Entries.length) ?_ fun b _ hb=>tC (fun e=>?_) fun _=>.ret ⟨k,rfl,hk,Yg _⟩
  ·refine tT (fun h1=>tT (fun h2=>tG (by omega) (tE (by simp;omega) fun _ _ _=>tE (by simp;omega) fun _ _ _=>.ret fun _=>⟨by omega,by omega⟩)) fun _=>.ret (by simp)) fun _=>.ret (by simp)
  ·obtain⟨h1,h2⟩:=hb e
   refine tG (show Int.toNat 1≤_ by simp;omega) (tG (Yg _) ?_)
   rw[wi64 (by omega) (by omega),show((k:Int)+1)=((k+1:Nat):Int) by omega]
   match es,h1 with
   |a::r,_=>
    have:=ZoQ t ht r (k+1) n (by omega) (by simp only[Yf]at hn;omega)
    exact this.mono fun q ⟨k',a1,a2,a3⟩=>⟨k',a1,a2,by simp only[Yf];omega⟩
theorem Zsj(t:Zag)(prev f:Int)(es:List Zab)(fixed:Int)(hl:t.Entries.length≤10000)(he:es.length≤1000)(h0:prev≤2000000000000):
 Tot (Zhu FF t prev f es fixed) fun r=>r.2=true→TrOk r.1:=by
 have hwl:∀(k:Nat) (more:List Zab),k≤t.Entries.length→more.length≤1000000→Tot (Zc1 FF t (k:Int) more) fun r=>r.2=true→TrOk r.1:=fun k more hk hm=>(ZqB t k more hk (by omega) hm).mono fun r hr e=>(hr e).1
 unfold Zhu
 refine tB (Q:=fun b=>b=false→TrOk t∧0≤prev) ?_ fun b _ hb=>tC (fun _=>.ret (by simp)) fun e=>?_
 ·rcases chk t (by omega)with ⟨hc,h⟩|hc
  ·refine tO hc ?_
   simp only[YP,Y7]
   exact tT (fun _=>.ret (by simp)) fun h1=>tT (fun _=>.ret (by simp)) fun _=>tB (ZkY _ _ (by omega)) fun _ _ _=>.ret fun _=>⟨h,by omega⟩
  ·exact tO hc (.ret (by simp))
 obtain⟨hT,hp⟩:=hb e
 have b0:=hT.b0;have b1:=hT.b1
 rw[tlen,wi64 (x:=t.Base-prev) (by omega) (by omega)]
 refine tL (Pr:=fun r:Zag×Bool=>r.2=true→TrOk r.1) (Ps:=fun s:Int×Int×List Zab=>s.2.2.length≤1000) ?_ (fun r hr=>.ret hr) fun s hs=>?_
 ·refine tT (fun h1=>tT (fun _=>tB (hwl _ [] (Yg _) (by simp)) fun y _ hy=>.ret ⟨fun r e=>by cases e;exact hy,fun s e=>by cases e⟩) fun h2=>?_) fun _=>.ret ⟨(fun r e=>by cases e),fun s e=>by cases e;exact he⟩
  rw[wi64 (x:=t.Base-prev-1) (by omega) (by omega)]
  refine tG (by omega) (tE (by omega) fun y _ _=>tC (fun _=>.ret ⟨fun r e=>by cases e;simp,fun s e=>by cases e⟩) fun _=>tG (by omega) (tG (by omega) (tG (Yg _) (.ret ⟨(fun r e=>by cases e),fun s e=>by cases e;simp;omega⟩))))
 ·refine tB (Zhy t s.1 (by omega)) fun z _ hz=>tB (Q:=fun b=>b=false→z.2=true) (tC (fun _=>.ret (by simp)) fun q=>.ret fun _=>by simpa using q) fun b _ hb2=>tC (fun _=>.ret (by simp)) fun e2=>?_
  obtain⟨-,c1,c2⟩:=hz.1 (hb2 e2)
  rw[wi64 (x:=s.1-t.Base) (by omega) (by omega)]
  have:=ZoQ t hl s.2.2 (s.1-t.Base).toNat FF (by omega) (by simp only[FF];omega)
  rw[show(((s.1-t.Base).toNat:Nat):Int)=s.1-t.Base by omega]at this
  refine tB this fun q _ hq=>?_
  obtain⟨k',q1,q2,q3⟩:=hq
  refine tC (fun _=>tB (hwl _ [] (Yg _) (by simp)) fun y _ hy=>.ret hy) fun _=>tT (fun _=>.ret (by simp)) fun _=>?_
  rw[q1]
  exact tB (hwl k' q.1 q2 (by omega)) fun y _ hy=>.ret hy
theorem ZqJ(m:Zac)(hl:m.Entries.length≤1000):Tot (Zbv FF m FF m.LogTerm 0) fun o=>(∀b,o=.inl b→b=false)∧True:=by
 have:=loopT (fun n (s:Int×Nat)=>Zbv FF m n s.1 (s.2:Int)) (fun s=>s.2≤m.Entries.length) (fun s=>m.Entries.length-s.2) (fun o=>(∀b,o=.inl b→b=false)∧True) (by
  rintro n ⟨tm,i⟩ hi k;simp only at hi k⊢;simp only[Zbv]
  refine tT (fun h=>?_) fun _=>.ret ⟨(fun r e=>by cases e),trivial⟩
  refine tG (by omega) (tE (by simp;omega) fun y _ _=>tB (Q:=fun _=>True) (tT (fun _=>.ret trivial) fun _=>tT (fun _=>.ret trivial) fun _=>.ret trivial) fun b _ _=>tC (fun _=>.ret ⟨fun r e=>by cases e;rfl,trivial⟩) fun _=>?_)
  rw[w1 (by omega)]
  exact k (y.Term,i+1) (by simp only;omega) (by simp only;omega)) FF (m.LogTerm,0) (Yv _) (by simp only[FF];omega)
 exact this
structure TkOk(m:Zac)(h:Zah):Prop where
 fr:m.From∈h.Conf
 ne:m.From≠h.Id
 tm:m.Term≤1099511627776
 i0:0≤m.Index
 i1:m.Index≤1099511627776
 lt:m.LogTerm≤1099511627776
 cm:m.Commit≤1099511627776
 en:m.Entries.length≤8
theorem ZoR(m:Zac)(h:Zah)(a b c:List Int)(o:List Zac)(hn:NdOk h):Tot (Zdb FF m h a b c o) fun r=>r=true→TkOk m h:=by
 have h7:=hn.cf.n7
 unfold Zdb
 refine tB (Q:=fun b=>b=false→m.From∈h.Conf∧m.From≠h.Id∧m.Term≤1099511627776) ?_ fun b _ hb=>tC (fun _=>.ret (by simp)) fun e=>?_
 ·refine tT (fun _=>.ret (by simp)) fun _=>tT (fun _=>.ret (by simp)) fun _=>tC (fun _=>.ret (by simp)) fun _=>tC (fun _=>.ret (by simp)) fun e2=>tB (ZdM _ _ (by omega)) fun d _ hd=>tC (fun _=>.ret (by simp)) fun e=>tT (fun _=>.ret (by simp)) fun _=>.ret fun q=>⟨hd.1 (by simpa using e),by simpa using e2,by have:=Wd q;omega⟩
 obtain⟨f1,f3,f2⟩:=hb e
 refine tB (Q:=fun b=>b=false→TkOk m h) ?_ fun b _ hb2=>tC (fun _=>.ret (by simp)) fun e2=>?_
 ·refine tT (fun _=>.ret (by simp)) fun a1=>tT (fun _=>.ret (by simp)) fun a2=>tT (fun _=>.ret (by simp)) fun a3=>tT (fun _=>.ret (by simp)) fun a4=>tT (fun _=>.ret (by simp)) fun a5=>tT (fun _=>.ret (by simp)) fun a6=>tT (fun _=>.ret (by simp)) fun a7=>.ret fun _=>⟨f1,f3,f2,by omega,by omega,by omega,by omega,by omega⟩
 have ht:=hb2 e2
 obtain⟨o',e,h1, -⟩:=ZqJ m (by have:=ht.en;omega)
 rw[e]
 cases o' with
 |inl b=>exact .ret fun q=>by rw[show b=false from h1 b rfl]at q;cases q
 |inr u=>exact .ret fun _=>ht
theorem Zm8(r:Zad)(h:RO r)(to_:Int)(snap:List UInt8):Tot (ZfC FF r to_ snap) fun q=>∃g v n m e,q=(g.Id,g.Conf,g.Term,g.Vote,g.Role,g.Leader,g.Trail.Base,g.Trail.BaseTerm,g.Trail.Entries,g.Snap,g.Commit,g.Left,g.Wait,e,v,n,m)∧Res r.Conf g v n m []:=by
 have hnm:=h.nm
 have hv:=h.ok.vo.1
 have hl:=h.ok.tr.len
 have c1:=h.ok.cm1
 unfold ZfC
 have base:Res r.Conf (hd r) r.Votes r.Next r.Match []:=⟨rfl,h.nd.tl,by omega,hnm.1,hnm.2,by simp,fun x hx=>(by cases hx),h.oa⟩
 refine tO (ZjG r h.small) (tO h.ck ?_)
 simp only[YP,Y7]
 refine tB (Q:=fun b=>b=false→r.Trail.Base≤to_∧to_≤r.Commit) (tT (fun _=>.ret (by simp)) fun q1=>tT (fun _=>.ret (by simp)) fun q2=>.ret fun _=>⟨Int.not_lt.1 q1,Int.not_lt.1 q2⟩) fun b _ hb=>tC (fun _=>.ret ⟨hd r,r.Votes,r.Next,r.Match,1,rfl,base⟩) fun e=>?_
 obtain⟨q1,q2⟩:=hb e
 have hr:r.Trail.Base≤to_∧to_≤tEnd r.Trail:=⟨q1,Int.le_trans q2 c1⟩
 cases hx:tAt r.Trail to_ with
 |none=>have:=Znn hx;omega
 |some x=>
  refine tO (h.nd.tc.cut hx) (.ret ⟨Zah.mk r.Id r.Conf r.Term r.Vote r.Role r.Leader (tCut r.Trail to_ x) snap r.Commit r.Left r.Wait,r.Votes,r.Next,r.Match,0,rfl,⟨rfl,?_,by omega,hnm.1,hnm.2,by simp,(fun x hx=>by cases hx),fun k=>⟨fun j hj=>?_,fun c hm hlt=>?_⟩⟩⟩)
  ·show(List.drop _ r.Trail.Entries).length≤10000
   rw[Yz];omega
  ·show _=some (tEnd (tCut r.Trail to_ x))
   rw[ZqN x hr];exact(h.oa k).1 j hj
  ·show tAt (tCut r.Trail to_ x) c≠_
   rw[Zr4 x q1 (Int.lt_of_le_of_lt q2 hlt)];exact(h.oa k).2 c hm hlt
theorem Zmg{C:List Int}{k f t tm i:Int}{y:Bool}(h1:k<10)(hf:f∈C)(hne:t≠f)(h2:f<9223372036854775808)(h3:t<9223372036854775808)(h4:tm<9223372036854775808)(h5:i<9223372036854775808):MC C (Zac.mk k f t tm i 0 0 y [] []):=
 ⟨⟨show k<_ by omega,h2,h3,h4,h5,show(0:Int)<_ by decide,show(0:Int)<_ by decide,fun e he=>by cases he⟩,hf,hne⟩
section
variable {m:Zac}{h:Zah}{v n q:List Int}
theorem ZhH{C:List Int}{x:Zac}(hx:MC C x):∀y,y∈([]:List Zac)++[x]→MC C y:=fun y hy=>by
 simp only[YO,YB]at hy;subst hy;exact hx
theorem Zra(hn:NdOk h)(hu:NumOk h)(ht:TkOk m h)(hv:v.length≤100)(hx:n.length≤7)(hq:q.length≤7)(ho:h.Role=2→OA h q):Tot (ZdC FF m h v n q []) fun r=>Res h.Conf r.1 r.2.1 r.2.2.1 r.2.2.2.1 r.2.2.2.2:=by
 unfold ZdC
 have ans:∀k:Int,k<10→MC h.Conf (Zac.mk k h.Id m.From h.Term 0 0 0 false [] []):=fun k hk=>Zmg hk hn.idc ht.ne hu.id (hu.cf _ ht.fr) hu.tm (by decide)
 refine tC (fun _=>tO (ZfR _ h v n q [] (by decide)) (.ret ⟨rfl,hn.tl,hv,hx,hq,by simp,ZhH (ans 2 (by decide)),ho⟩)) fun _=>?_
 refine tB (Q:=fun _=>True) (tC (fun _=>.ret trivial) fun _=>.ret trivial) fun b _ _=>tC (fun _=>tO (ZfR _ h v n q [] (by decide)) (.ret ⟨rfl,hn.tl,hv,hx,hq,by simp,ZhH (ans 4 (by decide)),ho⟩)) fun _=>.ret ⟨rfl,hn.tl,hv,hx,hq,by simp,(fun x hx=>by cases hx),ho⟩
theorem ZsL(hn:NdOk h)(hu:NumOk h)(ht:TkOk m h)(hv:v.length≤100)(hx:n.length≤7)(hq:q.length≤7)(ho:h.Role=2→OA h q):Tot (Zd4 FF m h v n q []) fun r=>Res h.Conf r.1 v n q r.2:=by
 unfold Zd4
 have nw:Tot (Option.bind (ZeW FF h.Trail m.Index m.LogTerm) fun y=>some y) fun _=>True:=tB (Zpw _ _ _ (by have:=hn.tl;omega)) fun _ _ _=>.ret trivial
 refine tB (Q:=fun _=>True) (tC (fun _=>tC (fun _=>nw) fun _=>.ret trivial) fun _=>tC (fun _=>tC (fun _=>nw) fun _=>.ret trivial) fun _=>.ret trivial) fun b _ _=>?_
 refine tB (Q:=fun g:Zah=>g.Id=h.Id∧g.Conf=h.Conf∧g.Term=h.Term∧g.Trail=h.Trail∧g.Role=h.Role∧g.Commit=h.Commit) (tC (fun _=>.ret ⟨rfl,rfl,rfl,rfl,rfl,rfl⟩) fun _=>.ret ⟨rfl,rfl,rfl,rfl,rfl,rfl⟩) fun g _ hg=>?_
 obtain⟨g1,g2,g3,g4,g5,g6⟩:=hg
 refine tO (ZfR _ g v n q [] (by decide)) (.ret ⟨g2,by simp only;rw[g4];exact hn.tl,hv,hx,hq,by simp,ZhH ?_,fun k=>?_⟩)
 rotate_left
 ·have:=ho (by rw[←g5];exact k)
  unfold OA AF at this⊢;rw[g1,g2,g3,g4,g6];exact this
 exact Zmg (show(2:Int)<10 by decide) (by rw[g1];exact hn.idc) (by rw[g1];exact ht.ne) (by rw[g1];exact hu.id) (hu.cf _ ht.fr) (by rw[g3];exact hu.tm) (show(0:Int)<_ by decide)
theorem ZpS(hn:NdOk h)(hu:NumOk h)(hv:v.length≤90)(hx:n.length≤7)(hq:q.length≤7)(ho:h.Role=2→OA h q):Tot (Zb1 FF m h v n q []) fun o=>
 (∀r,o=.inl r→Res h.Conf r.1 r.2.1 r.2.2.1 r.2.2.2.1 r.2.2.2.2)∧(∀r,o=.inr r→Res h.Conf r.1 r.2.2.2.1 r.2.2.2.2.1 r.2.2.2.2.2.1 r.2.2.2.2.2.2):=by
 have h7:=hn.cf.n7
 unfold Zb1
 refine tB (Q:=fun _=>True) (tC (fun _=>.ret trivial) fun _=>tC (fun _=>.ret trivial) fun _=>tB (ZdM _ _ (by omega)) fun _ _ _=>.ret trivial) fun b _ _=>tC (fun _=>.ret ⟨fun r e=>by cases e;exact⟨rfl,hn.tl,by simp only;omega,hx,hq,by simp,(fun x hx=>by cases hx),ho⟩,fun s e=>by cases e⟩) fun _=>?_
 refine tG (by unfold LIM;omega) (tB (Znh _ _ (by omega) (by simp;omega)) fun b _ _=>tC (fun _=>tB (ZnJ h _ n q [] ⟨hn,hu,by decide,fun x hx=>by cases hx⟩) fun r _ hr=>.ret ⟨(fun r e=>by cases e),fun s e=>?_⟩) fun _=>.ret ⟨fun r e=>by cases e;exact⟨rfl,hn.tl,by simp;omega,hx,hq,by simp,(fun x hx=>by cases hx),ho⟩,fun s e=>by cases e⟩)
 cases e
 obtain⟨h1,h2,h3,h4,h5,h6,h8⟩:=hr
 have om:=h1.om
 rw[h2]at om
 exact⟨h2,h1.nd.tl,by simp only;rw[h4];simp,h5,h6,YV h1.ol (by decide),om,fun _=>h8⟩
theorem Zoz(hn:NdOk h)(hu:NumOk h)(ht:TkOk m h)(hx:n.length≤7)(hq:q.length≤7):Tot (ZcS FF m h v n q []) fun r=>Res h.Conf r.1 [] n q r.2:=by
 have hl:=hn.tl
 have i1:=ht.i1
 unfold ZcS Zci;simp only[Y0]
 refine tB (Q:=fun g:Zah=>g.Id=h.Id∧g.Conf=h.Conf∧g.Term=h.Term∧g.Trail.Entries.length≤10000∧g.Commit<9223372036854775808∧g.Role=0) ?_ fun g _ hg=>?_
 ·refine tT (fun _=>?_) fun _=>.ret ⟨rfl,rfl,rfl,hl,hu.cm,rfl⟩
  refine tB (Zhy _ _ (by omega)) fun z _ _=>tB (Q:=fun _=>True) (tC (fun _=>.ret trivial) fun _=>.ret trivial) fun b _ _=>?_
  refine tB (Q:=fun s:Int×Int×List Zab=>s.2.2.length≤10000) (tC (fun _=>tB (Zqc _ _ (by omega)) fun t _ htc=>.ret ?_) fun _=>.ret (by simp)) fun s _ hs=>.ret ⟨rfl,rfl,rfl,hs,show m.Index<_ by omega,rfl⟩
  by_cases e:t.2=true
  ·obtain⟨-,k,e⟩:=htc.1 e
   simp only[e,Yz];omega
  ·simp only[htc.2 (by simpa using e)];simp
 obtain⟨g1,g2,g3,g4,g5,g6⟩:=hg
 refine tO (ZfR _ g [] n q [] (by decide)) (.ret ⟨g2,g4,by simp,hx,hq,by simp,ZhH ?_,fun k=>by rw[g6]at k;cases k⟩)
 exact Zmg (show(4:Int)<10 by decide) (by rw[g1];exact hn.idc) (by rw[g1];exact ht.ne) (by rw[g1];exact hu.id) (hu.cf _ ht.fr) (by rw[g3];exact hu.tm) g5
theorem ZqK(hn:NdOk h)(hu:NumOk h)(ht:TkOk m h)(hx:n.length≤7)(hq:q.length≤7):Tot (ZdA FF m h v n q []) fun r=>Res h.Conf r.1 [] n q r.2:=by
 have hl:=hn.tl
 have i1:=ht.i1;have i0:=ht.i0;have en:=ht.en
 unfold ZdA Zci;simp only[Y0]
 refine tB (Zsj _ _ _ _ _ hl (by omega) (by omega)) fun t _ htp=>tC (fun _=>?_) fun e=>?_
 ·refine tB (ZfD _ _ _ _ _ hl) fun a _ ha=>tO (ZfR _ _ [] n q [] (by decide)) (.ret ⟨rfl,hl,by simp,hx,hq,by simp,ZhH ?_,fun k=>absurd (show(0:Int)=2 from k) (by decide)⟩)
  refine Zmg (show(4:Int)<10 by decide) hn.idc ht.ne hu.id (hu.cf _ ht.fr) hu.tm ?_
  simp only
  rw[wi64 (by omega) (by omega)]
  split<;>(try split)<;>omega
 ·have hT:=htp (by simpa using e)
  have hb:=hT.b1;have hlen:=hT.len
  refine tB (ZfD _ _ _ _ _ (show t.1.Entries.length≤10000 by omega)) fun a _ ha=>tO (ZfR _ _ [] n q [] (by decide)) (.ret ⟨rfl,show t.1.Entries.length≤10000 by omega,by simp,hx,hq,by simp,ZhH ?_,fun k=>absurd (show(0:Int)=2 from k) (by decide)⟩)
  refine Zmg (show(4:Int)<10 by decide) hn.idc ht.ne hu.id (hu.cf _ ht.fr) hu.tm ?_
  simp only[Ya]
  rw[wi64 (by omega) (by omega)]
  split<;>omega
end
theorem NxOk.set1{h:Zah}{n q:List Int}(hx:NxOk h n q)(i:Nat)(x:Int)(h1: -1000000000000≤x)(h2:x≤1900000000000):NxOk h (n.set i x) q:=
 ⟨by simpa using hx.nl,hx.ml,fun y hy=>by
  rcases List.mem_or_eq_of_mem_set hy with e|e
  ·exact hx.nb _ e
  ·subst e;exact⟨h1,h2⟩⟩
theorem NxOk.set2{h:Zah}{n q:List Int}(hx:NxOk h n q)(i:Nat)(x:Int):NxOk h n (q.set i x):=⟨hx.nl,by simpa using hx.ml,hx.nb⟩
section
variable {m:Zac}{h:Zah}{v n q:List Int}
theorem ZsP(hn:NdOk h)(hu:NumOk h)(ht:TkOk m h)(hv:v.length≤100)(hx:n.length≤7)(hq:q.length≤7)(hk:h.Role=2→NxOk h n q∧∀x,x∈q→0≤x∧x≤1099511627776)(ho:h.Role=2→OA h q):
 Tot (Zd5 FF m h v n q []) fun r=>Res h.Conf r.1 r.2.1 r.2.2.1 r.2.2.2.1 r.2.2.2.2:=by
 have h7:=hn.cf.n7
 have i1:=ht.i1;have i0:=ht.i0
 unfold Zd5
 refine tB (Q:=fun b=>b=false→h.Role=2) (tC (fun _=>.ret (by simp)) fun e=>tB (ZfD _ _ _ _ _ hn.tl) fun _ _ _=>.ret fun _=>by simpa using e) fun b _ hb=>tC (fun _=>.ret ⟨rfl,hn.tl,hv,hx,hq,by simp,(fun x hx=>by cases hx),ho⟩) fun e=>?_
 obtain⟨hX,hB⟩:=hk (hb e)
 have e1:=hX.nl;have e2:=hX.ml
 refine tB (Zj9 _ _ (by omega)) fun i _ hi=>?_
 have j0:=hi.2.2.2 ht.fr
 have j1:=hi.2.1
 have j2:=hi.2.2.1 j0
 obtain⟨k,rfl⟩:∃k:Nat,i=(k:Int):=⟨i.toNat,by omega⟩
 rw[Int.toNat_natCast]at j2
 have hne:∀c,h.Conf[k]? =some c→c≠h.Id:=fun c hc=>by rw[j2]at hc;cases hc;exact ht.ne
 simp only[Int.toNat_natCast]
 refine tC (fun _=>?_) fun _=>?_
 ·refine tG j0 (tE (by omega) fun _ _ _=>tE (by omega) fun a ha am=>tG j0 (tE (by omega) fun _ _ _=>tE (by omega) fun c hc cm=>tG j0 (tE (by omega) fun _ _ _=>tE (by omega) fun _ _ _=>?_)))
  have ba:=hX.nb _ am;have bc:=hB _ cm
  rw[wi64 (x:=c+1) (by omega) (by omega),wi64 (x:=a-1) (by omega) (by omega),wi64 (x:=m.Index+1) (by omega) (by omega)]
  generalize hg:(if c+1>(if a-1<m.Index+1 then a-1 else m.Index+1)then c+1 else(if a-1<m.Index+1 then a-1 else m.Index+1))=g
  have hg1:1≤g∧g≤1900000000000:=by subst hg;split<;>(try split)<;>omega
  have hX2:=hX.set1 k g (by omega) (by omega)
  refine tB (Zlp h v (n.set k g) q [] hn hu hX2 (by decide) k (by omega) hne) fun r _ hr=>.ret ?_
  obtain⟨r1,x,r2,r3⟩:=hr
  rw[r1,r2]
  exact⟨rfl,hn.tl,hv,by simpa using hx,hq,by simp,ZhH r3,ho⟩
 ·refine tG j0 (tE (by omega) fun _ _ _=>tE (by omega) fun c hc cm=>tG j0 (tE (by omega) fun _ _ _=>tE (by omega) fun _ _ _=>tG j0 (tE (by simp;omega) fun _ _ _=>tE (by simp;omega) fun y hy _=>tG j0 (tE (by omega) fun _ _ _=>tE (by omega) fun _ _ _=>?_))))
  have bc:=hB _ cm
  rw[WP (by omega)]at hy
  injection hy with hy
  have by1:0≤y∧y≤1099511627776:=by subst hy;split<;>omega
  rw[wi64 (x:=y+1) (by omega) (by omega)]
  have hX2:=(hX.set1 k (y+1) (by omega) (by omega)).set2 k (if m.Index>c then m.Index else c)
  refine tB (Zkr h v _ _ [] hn hX2) fun g _ hg=>?_
  obtain⟨c',rfl,c1,c2, -⟩:=hg
  have gn:NdOk (hC h c'):=⟨hn.cf,hn.idc,hn.tc,hn.qk⟩
  have gu:NumOk (hC h c'):=⟨hu.id,hu.cf,hu.tm,show c'<_ by have:=hu.cm;omega,hu.bs,hu.bt⟩
  have gx:NxOk (hC h c') (n.set k (y+1)) (q.set k (if m.Index>c then m.Index else c)):=⟨hX2.nl,hX2.ml,hX2.nb⟩
  have go:OA (hC h c') (q.set k (if m.Index>c then m.Index else c)):=⟨fun j hj=>by
   have hjk:k≠j:=fun e=>by subst e;exact hne _ hj rfl
   rw[List.getElem?_set_ne hjk];exact(ho (hb e)).1 j hj,c2⟩
  refine tG j0 (tE (by simp;omega) fun _ _ _=>tE (by simp;omega) fun _ _ _=>tB (ZfD _ _ _ _ _ gn.tl) fun _ _ _=>tT (fun _=>?_) fun _=>.ret ⟨rfl,gn.tl,hv,by simpa using hx,by simpa using hq,by simp,(fun x hx=>by cases hx),fun _=>go⟩)
  refine tB (Zlp (hC h c') v _ _ [] gn gu gx (by decide) k (by show k<h.Conf.length;omega) hne) fun r _ hr=>.ret ?_
  obtain⟨r1,x,r2,r3⟩:=hr
  rw[r1,r2]
  exact⟨rfl,gn.tl,hv,by simpa using hx,by simpa using hq,by simp,ZhH r3,fun _=>go⟩
end
theorem Zoj(r:Zad)(h:RO r)(m:Zac):Tot (Zgc FF r m) (ResT r.Conf):=by
 have hnm:=h.nm
 have hv:=h.ok.vo.1
 unfold Zgc
 refine tO (ZjG r h.small) ?_
 have base:Res r.Conf (hd r) r.Votes r.Next r.Match []:=⟨rfl,h.nd.tl,by omega,hnm.1,hnm.2,by simp,(fun x hx=>by cases hx),h.oa⟩
 refine tB (Q:=fun b=>b=false→TkOk m (hd r)) (tO h.ck ?_) fun b _ hb=>tC (fun _=>.ret ⟨hd r,r.Votes,r.Next,r.Match,[],rfl,base⟩) fun e=>?_
 ·simp only[YP,Y7]
  exact tB (ZoR m (hd r) r.Votes r.Next r.Match [] h.nd) fun d _ hd=>.ret fun q=>hd (by simpa using q)
 have ht:=hb e
 refine tB (Q:=fun s:Zah×List Int×List Int×List Int=>NdOk s.1∧NumOk s.1∧s.1.Conf=r.Conf∧s.2.1.length≤7∧s.2.2.1.length≤7∧s.2.2.2.length≤7∧(s.1.Role=2→NxOk s.1 s.2.2.1 s.2.2.2∧∀x,x∈s.2.2.2→0≤x∧x≤1099511627776)∧s.1.Id=r.Id∧(s.1.Role=2→OA s.1 s.2.2.2)) ?_ fun s _ hs=>?_
 ·refine tT (fun _=>.ret ⟨⟨h.nd.cf,h.nd.idc,h.nd.tc,h.nd.qk⟩,⟨h.nu.id,h.nu.cf,show m.Term<_ by have:=ht.tm;omega,h.nu.cm,h.nu.bs,h.nu.bt⟩,rfl,by simp,by simp,by simp,(fun q=>absurd (show(0:Int)=2 from q) (by decide)),rfl,fun q=>absurd (show(0:Int)=2 from q) (by decide)⟩) fun _=>.ret ⟨h.nd,h.nu,rfl,hv,hnm.1,hnm.2,fun q=>⟨h.nx q,fun x hx=>?_⟩,rfl,h.oa⟩
  have k:=h.ok.kn.1 q
  have a:=h.ok.tr.last
  obtain⟨i,hi,rfl⟩:=YY hx
  obtain⟨y,z,h1,h2,h3⟩:=k.mm i (by rw[←k.ml];exact hi)
  rw[Y3 hi]at h1;cases h1
  omega
 obtain⟨g,v,n,q⟩:=s
 obtain⟨gn,gu,gc,gv,gx,gq,gk,gi,go⟩:=hs
 simp only at gn gu gc gv gx gq gk gi go⊢
 have gt:TkOk m g:=⟨by rw[gc];exact ht.fr,by rw[gi];exact ht.ne,ht.tm,ht.i0,ht.i1,ht.lt,ht.cm,ht.en⟩
 refine tT (fun _=>tB (Zra gn gu gt (by omega) gx gq go) fun s _ hs=>.ret ⟨s.1,s.2.1,s.2.2.1,s.2.2.2.1,s.2.2.2.2,rfl,by rw[gc]at hs;exact hs⟩) fun _=>?_
 refine tB (Q:=fun s:Zah×List Int×List Int×List Int×List Zac=>Res r.Conf s.1 s.2.1 s.2.2.1 s.2.2.2.1 s.2.2.2.2) ?_ fun s _ hs=>.ret ⟨s.1,s.2.1,s.2.2.1,s.2.2.2.1,s.2.2.2.2,rfl,hs⟩
 have same:Res r.Conf g v n q []:=⟨gc,gn.tl,by omega,gx,gq,by simp,(fun x hx=>by cases hx),go⟩
 rw[←gc]at same⊢
 refine tC (fun _=>tB (ZsL gn gu gt (by omega) gx gq go) fun s _ hs=>.ret hs) fun _=>tC (fun _=>?_) fun _=>tC (fun _=>tB (ZsP gn gu gt (by omega) gx gq gk go) fun s _ hs=>.ret hs) fun _=>tC (fun _=>.ret same) fun _=>tC (fun _=>tB (ZqK gn gu gt gx gq) fun s _ hs=>.ret hs) fun _=>tC (fun _=>tB (Zoz gn gu gt gx gq) fun s _ hs=>.ret hs) fun _=>.ret same
 refine tB (ZpS (m:=m) gn gu (by omega) gx gq go) fun o _ ho=>?_
 rcases o with a|b
 ·exact .ret (ho.1 a rfl)
 ·exact .ret (ho.2 b rfl)
end Go.T
