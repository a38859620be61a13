import Derived.Test.YtjpmdkgonlmddaaGreatDoorLD
set_option linter.unusedVariables false
set_option maxRecDepth 20000
namespace Go.T
open Go Go.Ab
structure jA(c:List Int)(t:Int)(h:cy)(v n m:List Int)(out:List bV):Prop where
 cf:h.au=c
 tl:h.Trail.Entries.length≤10000
 vl:v.length≤100
 nl:n.length≤7
 ml:m.length≤7
 ol:out.length≤200
 om:∀x,x∈out→MB x
 tm:t≤h.Term
structure RK(r:bn):Prop where
 ck:kz FF r=some true
 ok:AH r
 cb:∀c,c∈r.au→c<9223372036854775808
theorem RK.nd{r:bn}(h:RK r):fg (hd r):=⟨h.ok.cf,h.ok.kR,show r.Trail.Entries.length≤10000 by have:=h.ok.tr.len;omega⟩
theorem RK.nu{r:bn}(h:RK r):ey (hd r):=by
 have a:=h.ok.IL;have b:=h.ok.Gh;have c:=h.ok.tr.last;have d:=h.ok.tr.b1;have e:=h.ok.tr.t1
 exact⟨h.cb _ h.ok.kR,h.cb,show r.Term<_ by omega,show r.aj<_ by omega,show r.Trail.ar<_ by omega,show r.Trail.aq<_ by omega⟩
theorem RK.nx{r:bn}(h:RK r)(q:r.bx=2):ib (hd r) r.Next r.Match:=by
 have k:=h.ok.kn.1 q
 have a:=h.ok.tr.last;have b:=h.ok.tr.b0
 refine⟨k.nl,k.ml,fun x hx=>?_⟩
 obtain⟨i,hi,rfl⟩:=Wg hx
 obtain⟨m,y,h1,h2,h3⟩:=k.mm i (by rw[←k.nl];exact hi)
 rw[Y3 hi]at h2;cases h2
 omega
theorem RK.nm{r:bn}(h:RK r):r.Next.length≤7∧r.Match.length≤7:=by
 have h7:=h.ok.cf.n7
 by_cases q:r.bx=2
 ·have k:=h.ok.kn.1 q;exact⟨by rw[k.nl];exact h7,by rw[k.ml];exact h7⟩
 ·have k:=h.ok.kn.2 q;rw[k.1,k.2];exact⟨by decide,by decide⟩
theorem T'(draw:Int)(h:cy)(v n m:List Int)(hn:fg h)(hu:ey h)(ht: -1≤h.Term):cr (tq FF draw h v n m []) fun o=>
 (∀r,o=.inl r→jA h.au h.Term r.1 [] [] [] r.2)∧(∀s,o=.inr s→(∀r,s=.inl r→jA h.au h.Term r.1 r.2.1 r.2.2.1 r.2.2.2.1 r.2.2.2.2)∧(∀r,s=.inr r→jA h.au h.Term r.1 [r.2.1] [] [] r.2.2)):=by
 have h7:=hn.cf.n7
 have z0:([]:List Int).length≤7:=by decide
 have z1:([]:List Int).length≤100:=by decide
 unfold tq
 refine tT (fun _=>.ret ⟨fun r e=>by cases e;exact⟨rfl,hn.tl,z1,z0,z0,by simp,(fun x hx=>by cases hx),YQ _⟩,fun s e=>by cases e⟩) fun hlt=>?_
 have IK:h.Term≤IntKind.wrap IntKind.i64 (h.Term+(1:Int)):=by rw[dh (by omega) (by omega)];omega
 refine tB (Q:=fun _=>True) (tT (fun _=>.ret trivial) fun _=>.ret trivial) fun d _ _=>tB (G6 _ _ (by omega) (by simp)) fun b _ _=>?_
 have nd:∀a b,fg (cy.mk h.Id h.au (IntKind.wrap IntKind.i64 (h.Term+(1:Int))) h.Id 1 0 h.Trail h.bM h.aj a b):=fun _ _=>⟨hn.cf,hn.kR,hn.tl⟩
 have nu:∀a b,ey (cy.mk h.Id h.au (IntKind.wrap IntKind.i64 (h.Term+(1:Int))) h.Id 1 0 h.Trail h.bM h.aj a b):=fun _ _=>⟨hu.id,hu.cf,xf _,hu.cm,hu.bs,hu.bt⟩
 refine tC (fun _=>tB (KO _ _ _ _ [] ⟨nd _ _,nu _ _,by decide,fun x hx=>by cases hx⟩) fun r _ hr=>.ret ⟨(fun r e=>by cases e),fun s e=>?_⟩) fun _=>?_
 ·cases e
  obtain⟨h1,h2,h3,h4,h5,h6⟩:=hr
  exact⟨fun r' e=>by cases e;exact⟨h2,h1.nd.tl,by rw[h4];exact z1,h5,h6,YZ h1.ol (by decide),h1.om,by rw[h3];exact IK⟩,fun r' e=>by cases e⟩
 ·refine tB (Q:=fun y:Int×Int=>y.1<9223372036854775808∧y.2<9223372036854775808) ?_ fun y _ hy=>?_
  ·rcases rC h.Trail (by have:=hn.tl;omega)with ⟨hc,hT⟩|hc
   ·have:=hT.last
    exact(A0 hc hT).mono fun y hy=>⟨by omega,by omega⟩
   ·have:mQ FF h.Trail=some (0,0):=by unfold mQ;rw[hc];rfl
    exact⟨_,this,by decide,by decide⟩
  generalize hg:cy.mk h.Id h.au (IntKind.wrap IntKind.i64 (h.Term+(1:Int))) h.Id 1 0 h.Trail h.bM h.aj (IntKind.wrap IntKind.i64 ((10:Int)+(@Int.tmod d (10:Int)))) (IntKind.wrap IntKind.i64 ((10:Int)+(@Int.tmod d (10:Int))))=g
  have gn:fg g:=hg▸nd _ _
  have gu:ey g:=hg▸nu _ _
  have gc:g.au=h.au:=by rw[←hg]
  have:=dk (fun k (s:Nat×cy×List bV)=>rY FF h y k (s.1:Int) s.2.1 s.2.2) (fun s=>s.1≤h.au.length∧s.2.1=g∧s.2.2.length≤s.1∧∀m,m∈s.2.2→MB m) (fun s=>h.au.length-s.1)
   (fun r=>r.1=g∧r.2.length≤7∧∀m,m∈r.2→MB m) (by
    rintro k ⟨i,q,o⟩ ⟨h1,h2,h3,h4⟩ kk;simp only at h1 h2 h3 h4 kk⊢;subst h2;simp only[rY]
    refine tT (fun _=>?_) fun _=>.ret ⟨rfl,by simp only;omega,h4⟩
    refine tB (Q:=fun r=>r.1=q∧r.2.length≤i+1∧∀m,m∈r.2→MB m) (tG (by omega) (tE (by simp;omega) fun c _ OS=>tC (fun _=>tO (s8 _ q _ _ _ o (by omega)) (.ret ⟨rfl,by simp;omega,fun m' jh=>?_⟩)) fun _=>.ret ⟨rfl,by simp only;omega,h4⟩)) fun r _ hr=>?_
    ·simp only[Yw,Ys]at jh
     rcases jh with e|rfl
     ·exact h4 _ e
     ·exact⟨show(1:Int)<_ by decide,gu.id,show c<_ from hu.cf _ OS,gu.tm,hy.1,hy.2,show(0:Int)<_ by decide,fun e he=>by cases he⟩
    ·rw[w1 (by omega)]
     exact kk (i+1,r.1,r.2) ⟨by simp only;omega,hr.1,hr.2.1,hr.2.2⟩ (by simp only;omega)) FF (0,g,[]) ⟨YC _,rfl,Yg _,fun x hx=>by cases hx⟩ (by simp only[FF];omega)
  refine tB this fun r _ hr=>.ret ⟨(fun r e=>by cases e),fun s e=>?_⟩
  cases e
  exact⟨fun r' e=>(by cases e),fun r' e=>by cases e;exact⟨by rw[hr.1,gc],by rw[hr.1];exact gn.tl,by simp,z0,z0,YZ hr.2.1 (by decide),hr.2.2,by rw[hr.1,←hg];exact IK⟩⟩
abbrev Nn:=Int×(List Int)×Int×Int×Int×Int×Int×Int×(List bj)×(List UInt8)×Int×Int×Int×(List Int)×(List Int)×(List Int)×(List bV)
def NG(h:cy)(v n m:List Int)(out:List bV):Nn:=(h.Id,h.au,h.Term,h.bg,h.bx,h.bf,h.Trail.ar,h.Trail.aq,h.Trail.Entries,h.bM,h.aj,h.Left,h.bY,v,n,m,out)
def Cd(c:List Int)(t:Int)(q:Nn):Prop:=∃h v n m out,q=NG h v n m out∧jA c t h v n m out
theorem RK.small{r:bn}(h:RK r):Small r:=h.ok.small
theorem R6(r:bn)(h:RK r)(draw:Int):cr (Bd FF r draw) (Cd r.au r.Term):=by
 have lG:=h.nm
 have hv:=h.ok.vo.1
 unfold Bd
 refine tO (Ds r h.small) (tO h.ck ?_)
 simp only[W4,Y8]
 have base:∀l,jA r.au r.Term (cy.mk r.Id r.au r.Term r.bg r.bx r.bf r.Trail r.bM r.aj l r.bY) r.bB r.Next r.Match []:=fun l=>⟨rfl,h.nd.tl,by omega,lG.1,lG.2,by simp,(fun x hx=>by cases hx),YQ _⟩
 have nd:∀l,fg (cy.mk r.Id r.au r.Term r.bg r.bx r.bf r.Trail r.bM r.aj l r.bY):=fun l=>⟨h.nd.cf,h.nd.kR,h.nd.tl⟩
 have nu:∀l,ey (cy.mk r.Id r.au r.Term r.bg r.bx r.bf r.Trail r.bM r.aj l r.bY):=fun l=>⟨h.nu.id,h.nu.cf,h.nu.tm,h.nu.cm,h.nu.bs,h.nu.bt⟩
 refine tB (Q:=fun s:cy×List Int×List Int×List Int×List bV=>jA r.au r.Term s.1 s.2.1 s.2.2.1 s.2.2.2.1 s.2.2.2.2) ?_ fun s _ hs=>.ret ⟨s.1,s.2.1,s.2.2.1,s.2.2.2.1,s.2.2.2.2,rfl,hs⟩
 refine tT (fun _=>.ret (base _)) fun _=>tC (fun e=>?_) fun e=>?_
 ·have q:r.bx=2:=by simpa[hd]using e
  have hx:=h.nx q
  refine tB (Zip _ r.bB r.Next r.Match [] (nd 2) (nu 2) ⟨hx.nl,hx.ml,hx.nb⟩ (by simp) (fun x hx=>by cases hx)) fun s _ hs=>.ret ?_
  obtain⟨s1,s2,s3,s4,s5,s6⟩:=hs
  exact⟨by rw[s1];rfl,by rw[s1];exact h.nd.tl,by rw[s2];omega,by rw[s3];exact lG.1,by rw[s4];exact lG.2,YZ s5 (by decide),s6,by rw[s1];exact YQ _⟩
 ·have h0:=h.ok.IM
  refine tB (T' draw _ r.bB r.Next r.Match (nd _) (nu _) (show -1≤r.Term by omega)) fun o _ ho=>?_
  rcases o with a|b|c
  ·have:=ho.1 a rfl
   exact .ret ⟨this.cf,this.tl,by simp only;omega,lG.1,lG.2,this.ol,this.om,this.tm⟩
  ·exact .ret ((ho.2 _ rfl).1 b rfl)
  ·exact .ret ((ho.2 _ rfl).2 c rfl)
theorem Ut(r:bn)(h:RK r)(data:List UInt8):cr (Bs FF r data) fun q=>∃g v n m out i e,q=(g.Id,g.au,g.Term,g.bg,g.bx,g.bf,g.Trail.ar,g.Trail.aq,g.Trail.Entries,g.bM,g.aj,g.Left,g.bY,i,e,v,n,m,out)∧jA r.au r.Term g v n m out:=by
 have lG:=h.nm
 have hv:=h.ok.vo.1
 unfold Bs
 refine tO (Ds r h.small) ?_
 have base:jA r.au r.Term (hd r) r.bB r.Next r.Match []:=⟨rfl,h.nd.tl,by omega,lG.1,lG.2,by simp,(fun x hx=>by cases hx),YQ _⟩
 refine tB (Q:=fun b=>b=false→r.bx=2) (tO h.ck (by simp only[W4,Y8];exact .ret fun e=>by simpa using e)) fun b _ hb=>tC (fun _=>.ret ⟨hd r,r.bB,r.Next,r.Match,[],0,4,rfl,base⟩) fun e=>?_
 have hx:=h.nx (hb e)
 refine tB (Q:=fun _=>True) (tT (fun _=>.ret trivial) fun _=>.ret trivial) fun b _ _=>tC (fun _=>.ret ⟨hd r,r.bB,r.Next,r.Match,[],0,1,rfl,base⟩) fun _=>?_
 refine tB (LA _ _ (show r.Trail.Entries.length≤1000000 by have:=h.ok.tr.len;omega)) fun t _ ht=>tC (fun _=>.ret ⟨hd r,r.bB,r.Next,r.Match,[],0,3,rfl,base⟩) fun e2=>?_
 obtain⟨t1,t2,t3,t4⟩:=ht (by simpa using e2)
 have nd:fg (cy.mk r.Id r.au r.Term r.bg r.bx r.bf t.1 r.bM r.aj r.Left r.bY):=⟨h.nd.cf,h.nd.kR,show t.1.Entries.length≤10000 by have:=t1.len;omega⟩
 have nu:ey (cy.mk r.Id r.au r.Term r.bg r.bx r.bf t.1 r.bM r.aj r.Left r.bY):=⟨h.nu.id,h.nu.cf,h.nu.tm,h.nu.cm,show t.1.ar<_ by have:=t1.b1;omega,show t.1.aq<_ by have:=t1.t1;omega⟩
 refine tB (J7 _ r.bB r.Next r.Match [] nd ⟨hx.nl,hx.ml,hx.nb⟩) fun o _ ho=>tB (Hk _ r.bB o.1 o.2 [] nd ho) fun q _ hq=>?_
 have hq2:fg q∧ey q∧q.au=r.au∧q.Term=r.Term∧ib q o.1 o.2:=by
  rcases hq with rfl|⟨c,rfl,hc⟩
  ·exact⟨nd,nu,rfl,rfl,ho⟩
  ·exact⟨⟨nd.cf,nd.kR,nd.tl⟩,⟨nu.id,nu.cf,nu.tm,show c<_ by omega,nu.bs,nu.bt⟩,rfl,rfl,⟨ho.nl,ho.ml,ho.nb⟩⟩
 obtain⟨qn,qu,qc,qt,qx⟩:=hq2
 have h7:=h.ok.cf.n7
 refine tB (Zip q r.bB o.1 o.2 [] qn qu qx (by simp) (fun x hx=>by cases hx)) fun s _ hs=>?_
 obtain⟨s1,s2,s3,s4,s5,s6⟩:=hs
 refine tB (uB _ _ _ _ _ (by rw[s1];exact qn)) fun l _ _=>.ret ⟨s.1,s.2.1,s.2.2.1,s.2.2.2.1,s.2.2.2.2,l,0,rfl,?_⟩
 exact⟨by rw[s1,qc],by rw[s1];exact qn.tl,by rw[s2];omega,by rw[s3,qx.nl,qc];exact h7,by rw[s4,qx.ml,qc];exact h7,YZ s5 (by decide),s6,by rw[s1,qt];exact YQ _⟩
theorem Kk(t:cD)(ht:t.Entries.length≤10000):∀(es:List bj) (k n:Nat),k≤t.Entries.length→es.length<n→cr (ye FF t n es (k:Int)) fun r=>∃k':Nat,r.2=(k':Int)∧k'≤t.Entries.length∧r.1.length≤es.length
 |es,k,0,_,h=>absurd h (W9 _)
 |es,k,n+1,hk,hn=>by
  simp only[ye]
  refine tB (Q:=fun b=>b=true→0<es.length∧k<t.Entries.length) ?_ fun b _ hb=>tC (fun e=>?_) fun _=>.ret ⟨k,rfl,hk,Yg _⟩
  ·refine tT (fun h1=>tT (fun h2=>tG (by omega) (tE (by simp;omega) fun _ _ _=>tE (by simp;omega) fun _ _ _=>.ret fun _=>⟨by omega,by omega⟩)) fun _=>.ret (by simp)) fun _=>.ret (by simp)
  ·obtain⟨h1,h2⟩:=hb e
   refine tG (show Int.toNat 1≤_ by simp;omega) (tG (Yg _) ?_)
   rw[dh (by omega) (by omega),show((k:Int)+1)=((k+1:Nat):Int) by omega]
   match es,h1 with
   |a::r,_=>
    have:=Kk t ht r (k+1) n (by omega) (by simp only[Ye]at hn;omega)
    exact this.mono fun q ⟨k',a1,a2,a3⟩=>⟨k',a1,a2,by simp only[Ye];omega⟩
theorem P4(t:cD)(prev f:Int)(es:List bj)(fixed:Int)(hl:t.Entries.length≤10000)(he:es.length≤1000)(h0:prev≤2000000000000):
 cr (A7 FF t prev f es fixed) fun r=>r.2=true→iz r.1:=by
 have sv:∀(k:Nat) (more:List bj),k≤t.Entries.length→more.length≤1000000→cr (td FF t (k:Int) more) fun r=>r.2=true→iz r.1:=fun k more hk hm=>(KB t k more hk (by omega) hm).mono fun r hr e=>(hr e).1
 unfold A7
 refine tB (Q:=fun b=>b=false→iz t∧0≤prev) ?_ fun b _ hb=>tC (fun _=>.ret (by simp)) fun e=>?_
 ·rcases rC t (by omega)with ⟨hc,h⟩|hc
  ·refine tO hc ?_
   simp only[W4,Y8]
   exact tT (fun _=>.ret (by simp)) fun h1=>tT (fun _=>.ret (by simp)) fun _=>tB (Mb _ _ (by omega)) fun _ _ _=>.ret fun _=>⟨h,by omega⟩
  ·exact tO hc (.ret (by simp))
 obtain⟨hT,hp⟩:=hb e
 have b0:=hT.b0;have b1:=hT.b1
 rw[uX,dh (x:=t.ar-prev) (by omega) (by omega)]
 refine tL (Pr:=fun r:cD×Bool=>r.2=true→iz r.1) (Ps:=fun s:Int×Int×List bj=>s.2.2.length≤1000) ?_ (fun r hr=>.ret hr) fun s hs=>?_
 ·refine tT (fun h1=>tT (fun _=>tB (sv _ [] (Yg _) (by simp)) fun y _ hy=>.ret ⟨fun r e=>by cases e;exact hy,fun s e=>by cases e⟩) fun h2=>?_) fun _=>.ret ⟨(fun r e=>by cases e),fun s e=>by cases e;exact he⟩
  rw[dh (x:=t.ar-prev-1) (by omega) (by omega)]
  refine tG (by omega) (tE (by omega) fun y _ _=>tC (fun _=>.ret ⟨fun r e=>by cases e;simp,fun s e=>by cases e⟩) fun _=>tG (by omega) (tG (by omega) (tG (Yg _) (.ret ⟨(fun r e=>by cases e),fun s e=>by cases e;simp;omega⟩))))
 ·refine tB (xH t s.1 (by omega)) fun z _ hz=>tB (Q:=fun b=>b=false→z.2=true) (tC (fun _=>.ret (by simp)) fun q=>.ret fun _=>by simpa using q) fun b _ hb2=>tC (fun _=>.ret (by simp)) fun e2=>?_
  obtain⟨-,c1,c2⟩:=hz.1 (hb2 e2)
  rw[dh (x:=s.1-t.ar) (by omega) (by omega)]
  have:=Kk t hl s.2.2 (s.1-t.ar).toNat FF (by omega) (by simp only[FF];omega)
  rw[show(((s.1-t.ar).toNat:Nat):Int)=s.1-t.ar by omega]at this
  refine tB this fun q _ hq=>?_
  obtain⟨k',q1,q2,q3⟩:=hq
  refine tC (fun _=>tB (sv _ [] (Yg _) (by simp)) fun y _ hy=>.ret hy) fun _=>tT (fun _=>.ret (by simp)) fun _=>?_
  rw[q1]
  exact tB (sv k' q.1 q2 (by omega)) fun y _ hy=>.ret hy
theorem R5(m:bV)(hl:m.Entries.length≤1000):cr (wN FF m FF m.da 0) fun o=>(∀b,o=.inl b→b=false)∧True:=by
 have:=dk (fun n (s:Int×Nat)=>wN FF m n s.1 (s.2:Int)) (fun s=>s.2≤m.Entries.length) (fun s=>m.Entries.length-s.2) (fun o=>(∀b,o=.inl b→b=false)∧True) (by
  rintro n ⟨tm,i⟩ hi k;simp only at hi k⊢;simp only[wN]
  refine tT (fun h=>?_) fun _=>.ret ⟨(fun r e=>by cases e),trivial⟩
  refine tG (by omega) (tE (by simp;omega) fun y _ _=>tB (Q:=fun _=>True) (tT (fun _=>.ret trivial) fun _=>tT (fun _=>.ret trivial) fun _=>.ret trivial) fun b _ _=>tC (fun _=>.ret ⟨fun r e=>by cases e;rfl,trivial⟩) fun _=>?_)
  rw[w1 (by omega)]
  exact k (y.Term,i+1) (by simp only;omega) (by simp only;omega)) FF (m.da,0) (YC _) (by simp only[FF];omega)
 exact this
structure lP(m:bV)(h:cy):Prop where
 fr:m.eC∈h.au
 tm:m.Term≤1099511627776
 i0:0≤m.Index
 i1:m.Index≤1099511627776
 lt:m.da≤1099511627776
 cm:m.aj≤1099511627776
 en:m.Entries.length≤8
theorem TG(m:bV)(h:cy)(a b c:List Int)(o:List bV)(hn:fg h):cr (BX FF m h a b c o) fun r=>r=true→lP m h:=by
 have h7:=hn.cf.n7
 unfold BX
 refine tB (Q:=fun b=>b=false→m.eC∈h.au∧m.Term≤1099511627776) ?_ fun b _ hb=>tC (fun _=>.ret (by simp)) fun e=>?_
 ·refine tT (fun _=>.ret (by simp)) fun _=>tT (fun _=>.ret (by simp)) fun _=>tC (fun _=>.ret (by simp)) fun _=>tC (fun _=>.ret (by simp)) fun _=>tB (wz _ _ (by omega)) fun d _ hd=>tC (fun _=>.ret (by simp)) fun e=>tT (fun _=>.ret (by simp)) fun _=>.ret fun q=>⟨hd.1 (by simpa using e),by have:=We q;omega⟩
 obtain⟨f1,f2⟩:=hb e
 refine tB (Q:=fun b=>b=false→lP m h) ?_ fun b _ hb2=>tC (fun _=>.ret (by simp)) fun e2=>?_
 ·refine tT (fun _=>.ret (by simp)) fun a1=>tT (fun _=>.ret (by simp)) fun a2=>tT (fun _=>.ret (by simp)) fun a3=>tT (fun _=>.ret (by simp)) fun a4=>tT (fun _=>.ret (by simp)) fun a5=>tT (fun _=>.ret (by simp)) fun a6=>tT (fun _=>.ret (by simp)) fun a7=>.ret fun _=>⟨f1,f2,by omega,by omega,by omega,by omega,by omega⟩
 have ht:=hb2 e2
 obtain⟨o',e,h1, -⟩:=R5 m (by have:=ht.en;omega)
 rw[e]
 cases o' with
 |inl b=>exact .ret fun q=>by rw[show b=false from h1 b rfl]at q;cases q
 |inr u=>exact .ret fun _=>ht
theorem Ug(r:bn)(h:RK r)(dm:Int)(snap:List UInt8):cr (Br FF r dm snap) fun q=>∃g v n m e,q=(g.Id,g.au,g.Term,g.bg,g.bx,g.bf,g.Trail.ar,g.Trail.aq,g.Trail.Entries,g.bM,g.aj,g.Left,g.bY,e,v,n,m)∧jA r.au r.Term g v n m []:=by
 have lG:=h.nm
 have hv:=h.ok.vo.1
 have hl:=h.ok.tr.len
 unfold Br
 have base:jA r.au r.Term (hd r) r.bB r.Next r.Match []:=⟨rfl,h.nd.tl,by omega,lG.1,lG.2,by simp,(fun x hx=>by cases hx),YQ _⟩
 refine tO (Ds r h.small) (tO h.ck ?_)
 simp only[W4,Y8]
 refine tB (Q:=fun _=>True) (tT (fun _=>.ret trivial) fun _=>tT (fun _=>.ret trivial) fun _=>.ret trivial) fun b _ _=>tC (fun _=>.ret ⟨hd r,r.bB,r.Next,r.Match,1,rfl,base⟩) fun _=>?_
 refine tB (GN _ _ (show r.Trail.Entries.length≤1000000 by omega)) fun t _ ht=>.ret ⟨cy.mk r.Id r.au r.Term r.bg r.bx r.bf t.1 snap r.aj r.Left r.bY,r.bB,r.Next,r.Match,0,rfl,⟨rfl,?_,by omega,lG.1,lG.2,by simp,(fun x hx=>by cases hx),YQ _⟩⟩
 show t.1.Entries.length≤10000
 by_cases q:t.2=true
 ·obtain⟨-,k,e⟩:=ht.1 q
  rw[e,YH]
  show r.Trail.Entries.length-k≤10000
  omega
 ·rw[ht.2 (by simpa using q)];simp
theorem AG{k f t tm i:Int}{y:Bool}(h1:k<10)(h2:f<9223372036854775808)(h3:t<9223372036854775808)(h4:tm<9223372036854775808)(h5:i<9223372036854775808):MB (bV.mk k f t tm i 0 0 y [] []):=
 ⟨show k<_ by omega,h2,h3,h4,h5,show(0:Int)<_ by decide,show(0:Int)<_ by decide,fun e he=>by cases he⟩
section
variable {m:bV}{h:cy}{v n q:List Int}
theorem uw{x:bV}(hx:MB x):∀y,y∈([]:List bV)++[x]→MB y:=fun y hy=>by
 simp only[YL,Ys]at hy;subst hy;exact hx
theorem Rf(hn:fg h)(hu:ey h)(ht:lP m h)(hv:v.length≤100)(hx:n.length≤7)(hq:q.length≤7):cr (BD FF m h v n q []) fun r=>jA h.au h.Term r.1 r.2.1 r.2.2.1 r.2.2.2.1 r.2.2.2.2:=by
 unfold BD
 have Jx:∀k:Int,k<10→MB (bV.mk k h.Id m.eC h.Term 0 0 0 false [] []):=fun k hk=>AG hk hu.id (hu.cf _ ht.fr) hu.tm (by decide)
 refine tC (fun _=>tO (s8 _ h v n q [] (by decide)) (.ret ⟨rfl,hn.tl,hv,hx,hq,by simp,uw (Jx 2 (by decide)),YQ _⟩)) fun _=>?_
 refine tB (Q:=fun _=>True) (tC (fun _=>.ret trivial) fun _=>.ret trivial) fun b _ _=>tC (fun _=>tO (s8 _ h v n q [] (by decide)) (.ret ⟨rfl,hn.tl,hv,hx,hq,by simp,uw (Jx 4 (by decide)),YQ _⟩)) fun _=>.ret ⟨rfl,hn.tl,hv,hx,hq,by simp,(fun x hx=>by cases hx),YQ _⟩
theorem Qq(hn:fg h)(hu:ey h)(ht:lP m h)(hv:v.length≤100)(hx:n.length≤7)(hq:q.length≤7):cr (BI FF m h v n q []) fun r=>jA h.au h.Term r.1 v n q r.2:=by
 unfold BI
 have nw:cr (Option.bind (wB FF h.Trail m.Index m.da) fun y=>some y) fun _=>True:=tB (SZ _ _ _ (by have:=hn.tl;omega)) fun _ _ _=>.ret trivial
 refine tB (Q:=fun _=>True) (tC (fun _=>tC (fun _=>nw) fun _=>.ret trivial) fun _=>tC (fun _=>tC (fun _=>nw) fun _=>.ret trivial) fun _=>.ret trivial) fun b _ _=>?_
 refine tB (Q:=fun g:cy=>g.Id=h.Id∧g.au=h.au∧g.Term=h.Term∧g.Trail=h.Trail) (tC (fun _=>.ret ⟨rfl,rfl,rfl,rfl⟩) fun _=>.ret ⟨rfl,rfl,rfl,rfl⟩) fun g _ hg=>?_
 obtain⟨g1,g2,g3,g4⟩:=hg
 refine tO (s8 _ g v n q [] (by decide)) (.ret ⟨g2,by simp only;rw[g4];exact hn.tl,hv,hx,hq,by simp,uw ?_,by show h.Term≤g.Term;omega⟩)
 exact AG (show(2:Int)<10 by decide) (by rw[g1];exact hu.id) (hu.cf _ ht.fr) (by rw[g3];exact hu.tm) (show(0:Int)<_ by decide)
theorem Tc(hn:fg h)(hu:ey h)(hv:v.length≤90)(hx:n.length≤7)(hq:q.length≤7):cr (wQ FF m h v n q []) fun o=>
 (∀r,o=.inl r→jA h.au h.Term r.1 r.2.1 r.2.2.1 r.2.2.2.1 r.2.2.2.2)∧(∀r,o=.inr r→jA h.au h.Term r.1 r.2.2.2.1 r.2.2.2.2.1 r.2.2.2.2.2.1 r.2.2.2.2.2.2):=by
 have h7:=hn.cf.n7
 unfold wQ
 refine tB (Q:=fun _=>True) (tC (fun _=>.ret trivial) fun _=>tC (fun _=>.ret trivial) fun _=>tB (wz _ _ (by omega)) fun _ _ _=>.ret trivial) fun b _ _=>tC (fun _=>.ret ⟨fun r e=>by cases e;exact⟨rfl,hn.tl,by simp only;omega,hx,hq,by simp,(fun x hx=>by cases hx),YQ _⟩,fun s e=>by cases e⟩) fun _=>?_
 refine tG (by unfold bm;omega) (tB (G6 _ _ (by omega) (by simp;omega)) fun b _ _=>tC (fun _=>tB (KO h _ n q [] ⟨hn,hu,by decide,fun x hx=>by cases hx⟩) fun r _ hr=>.ret ⟨(fun r e=>by cases e),fun s e=>?_⟩) fun _=>.ret ⟨fun r e=>by cases e;exact⟨rfl,hn.tl,by simp;omega,hx,hq,by simp,(fun x hx=>by cases hx),YQ _⟩,fun s e=>by cases e⟩)
 cases e
 obtain⟨h1,h2,h3,h4,h5,h6⟩:=hr
 exact⟨h2,h1.nd.tl,by simp only;rw[h4];simp,h5,h6,YZ h1.ol (by decide),h1.om,by rw[h3];exact YQ _⟩
theorem TP(hn:fg h)(hu:ey h)(ht:lP m h)(hx:n.length≤7)(hq:q.length≤7):cr (BU FF m h v n q []) fun r=>jA h.au h.Term r.1 [] n q r.2:=by
 have hl:=hn.tl
 have i1:=ht.i1
 unfold BU ym;simp only[Y1]
 refine tB (Q:=fun g:cy=>g.Id=h.Id∧g.au=h.au∧g.Term=h.Term∧g.Trail.Entries.length≤10000∧g.aj<9223372036854775808) ?_ fun g _ hg=>?_
 ·refine tT (fun _=>?_) fun _=>.ret ⟨rfl,rfl,rfl,hl,hu.cm⟩
  refine tB (xH _ _ (by omega)) fun z _ _=>tB (Q:=fun _=>True) (tC (fun _=>.ret trivial) fun _=>.ret trivial) fun b _ _=>?_
  refine tB (Q:=fun s:Int×Int×List bj=>s.2.2.length≤10000) (tC (fun _=>tB (GN _ _ (by omega)) fun t _ I4=>.ret ?_) fun _=>.ret (by simp)) fun s _ hs=>.ret ⟨rfl,rfl,rfl,hs,show m.Index<_ by omega⟩
  by_cases e:t.2=true
  ·obtain⟨-,k,e⟩:=I4.1 e
   simp only[e,YH];omega
  ·simp only[I4.2 (by simpa using e)];simp
 obtain⟨g1,g2,g3,g4,g5⟩:=hg
 refine tO (s8 _ g [] n q [] (by decide)) (.ret ⟨g2,g4,by simp,hx,hq,by simp,uw ?_,by show h.Term≤g.Term;omega⟩)
 exact AG (show(4:Int)<10 by decide) (by rw[g1];exact hu.id) (hu.cf _ ht.fr) (by rw[g3];exact hu.tm) g5
theorem R4(hn:fg h)(hu:ey h)(ht:lP m h)(hx:n.length≤7)(hq:q.length≤7):cr (BE FF m h v n q []) fun r=>jA h.au h.Term r.1 [] n q r.2:=by
 have hl:=hn.tl
 have i1:=ht.i1;have i0:=ht.i0;have en:=ht.en
 unfold BE ym;simp only[Y1]
 refine tB (P4 _ _ _ _ _ hl (by omega) (by omega)) fun t _ N8=>tC (fun _=>?_) fun e=>?_
 ·refine tB (uB _ _ _ _ _ ⟨hn.cf,hn.kR,hl⟩) fun a _ ha=>tO (s8 _ _ [] n q [] (by decide)) (.ret ⟨rfl,hl,by simp,hx,hq,by simp,uw ?_,YQ _⟩)
  refine AG (show(4:Int)<10 by decide) hu.id (hu.cf _ ht.fr) hu.tm ?_
  simp only
  rw[dh (by omega) (by omega)]
  split<;>(try split)<;>omega
 ·have hT:=N8 (by simpa using e)
  have hb:=hT.b1;have hlen:=hT.len
  refine tB (uB _ _ _ _ _ ⟨hn.cf,hn.kR,show t.1.Entries.length≤10000 by omega⟩) fun a _ ha=>tO (s8 _ _ [] n q [] (by decide)) (.ret ⟨rfl,show t.1.Entries.length≤10000 by omega,by simp,hx,hq,by simp,uw ?_,YQ _⟩)
  refine AG (show(4:Int)<10 by decide) hu.id (hu.cf _ ht.fr) hu.tm ?_
  simp only[Yb]
  rw[dh (by omega) (by omega)]
  split<;>omega
end
theorem ib.yY{h:cy}{n q:List Int}(hx:ib h n q)(i:Nat)(x:Int)(h1: -1000000000000≤x)(h2:x≤1900000000000):ib h (n.set i x) q:=
 ⟨by simpa using hx.nl,hx.ml,fun y hy=>by
  rcases List.mem_or_eq_of_mem_set hy with e|e
  ·exact hx.nb _ e
  ·subst e;exact⟨h1,h2⟩⟩
theorem ib.EJ{h:cy}{n q:List Int}(hx:ib h n q)(i:Nat)(x:Int):ib h n (q.set i x):=⟨hx.nl,by simpa using hx.ml,hx.nb⟩
section
variable {m:bV}{h:cy}{v n q:List Int}
theorem Qm(hn:fg h)(hu:ey h)(ht:lP m h)(hv:v.length≤100)(hx:n.length≤7)(hq:q.length≤7)(hk:h.bx=2→ib h n q∧∀x,x∈q→0≤x∧x≤1099511627776):
 cr (BH FF m h v n q []) fun r=>jA h.au h.Term r.1 r.2.1 r.2.2.1 r.2.2.2.1 r.2.2.2.2:=by
 have h7:=hn.cf.n7
 have i1:=ht.i1;have i0:=ht.i0
 unfold BH
 refine tB (Q:=fun b=>b=false→h.bx=2) (tC (fun _=>.ret (by simp)) fun e=>tB (uB _ _ _ _ _ hn) fun _ _ _=>.ret fun _=>by simpa using e) fun b _ hb=>tC (fun _=>.ret ⟨rfl,hn.tl,hv,hx,hq,by simp,(fun x hx=>by cases hx),YQ _⟩) fun e=>?_
 obtain⟨hX,hB⟩:=hk (hb e)
 have e1:=hX.nl;have e2:=hX.ml
 refine tB (Ht _ _ (by omega)) fun i _ hi=>?_
 have j0:=hi.2.2.2 ht.fr
 have j1:=hi.2.1
 obtain⟨k,rfl⟩:∃k:Nat,i=(k:Int):=⟨i.toNat,by omega⟩
 simp only[Int.toNat_natCast]
 refine tC (fun _=>?_) fun _=>?_
 ·refine tG j0 (tE (by omega) fun _ _ _=>tE (by omega) fun a ha am=>tG j0 (tE (by omega) fun _ _ _=>tE (by omega) fun c hc cm=>tG j0 (tE (by omega) fun _ _ _=>tE (by omega) fun _ _ _=>?_)))
  have ba:=hX.nb _ am;have bc:=hB _ cm
  rw[dh (x:=c+1) (by omega) (by omega),dh (x:=a-1) (by omega) (by omega),dh (x:=m.Index+1) (by omega) (by omega)]
  generalize hg:(if c+1>(if a-1<m.Index+1 then a-1 else m.Index+1)then c+1 else(if a-1<m.Index+1 then a-1 else m.Index+1))=g
  have hg1:1≤g∧g≤1900000000000:=by subst hg;split<;>(try split)<;>omega
  have vJ:=hX.yY k g (by omega) (by omega)
  refine tB (G1 h v (n.set k g) q [] hn hu vJ (by decide) k (by omega)) fun r _ hr=>.ret ?_
  obtain⟨r1,x,r2,r3⟩:=hr
  rw[r1,r2]
  exact⟨rfl,hn.tl,hv,by simpa using hx,hq,by simp,uw r3,YQ _⟩
 ·refine tG j0 (tE (by omega) fun _ _ _=>tE (by omega) fun c hc cm=>tG j0 (tE (by omega) fun _ _ _=>tE (by omega) fun _ _ _=>tG j0 (tE (by simp;omega) fun _ _ _=>tE (by simp;omega) fun y hy _=>tG j0 (tE (by omega) fun _ _ _=>tE (by omega) fun _ _ _=>?_))))
  have bc:=hB _ cm
  rw[WV (by omega)]at hy
  injection hy with hy
  have Zt:0≤y∧y≤1099511627776:=by subst hy;split<;>omega
  rw[dh (x:=y+1) (by omega) (by omega)]
  have vJ:=(hX.yY k (y+1) (by omega) (by omega)).EJ k (if m.Index>c then m.Index else c)
  refine tB (Hk h v _ _ [] hn vJ) fun g _ hg=>?_
  have hg2:fg g∧ey g∧g.au=h.au∧h.Term≤g.Term∧ib g (n.set k (y+1)) (q.set k (if m.Index>c then m.Index else c)):=by
   rcases hg with rfl|⟨c',rfl,hc'⟩
   ·exact⟨hn,hu,rfl,YQ _,vJ⟩
   ·exact⟨⟨hn.cf,hn.kR,hn.tl⟩,⟨hu.id,hu.cf,hu.tm,show c'<_ by omega,hu.bs,hu.bt⟩,rfl,YQ _,⟨vJ.nl,vJ.ml,vJ.nb⟩⟩
  obtain⟨gn,gu,gc,gT,gx⟩:=hg2
  refine tG j0 (tE (by simp;omega) fun _ _ _=>tE (by simp;omega) fun _ _ _=>tB (uB _ _ _ _ _ gn) fun _ _ _=>tT (fun _=>?_) fun _=>.ret ⟨gc,gn.tl,hv,by simpa using hx,by simpa using hq,by simp,(fun x hx=>by cases hx),gT⟩)
  refine tB (G1 g v _ _ [] gn gu gx (by decide) k (by rw[gc];omega)) fun r _ hr=>.ret ?_
  obtain⟨r1,x,r2,r3⟩:=hr
  rw[r1,r2]
  exact⟨gc,gn.tl,hv,by simpa using hx,by simpa using hq,by simp,uw r3,gT⟩
end
theorem jA.up{c:List Int}{t t':Int}{h:cy}{v n m:List Int}{out:List bV}(r:jA c t h v n m out)(e:t'≤t):jA c t' h v n m out:=⟨r.cf,r.tl,r.vl,r.nl,r.ml,r.ol,r.om,Int.le_trans e r.tm⟩
theorem Tk(r:bn)(h:RK r)(m:bV):cr (Bj FF r m) (Cd r.au r.Term):=by
 have lG:=h.nm
 have hv:=h.ok.vo.1
 unfold Bj
 refine tO (Ds r h.small) ?_
 have base:jA r.au r.Term (hd r) r.bB r.Next r.Match []:=⟨rfl,h.nd.tl,by omega,lG.1,lG.2,by simp,(fun x hx=>by cases hx),YQ _⟩
 refine tB (Q:=fun b=>b=false→lP m (hd r)) (tO h.ck ?_) fun b _ hb=>tC (fun _=>.ret ⟨hd r,r.bB,r.Next,r.Match,[],rfl,base⟩) fun e=>?_
 ·simp only[W4,Y8]
  exact tB (TG m (hd r) r.bB r.Next r.Match [] h.nd) fun d _ hd=>.ret fun q=>hd (by simpa using q)
 have ht:=hb e
 refine tB (Q:=fun s:cy×List Int×List Int×List Int=>fg s.1∧ey s.1∧s.1.au=r.au∧r.Term≤s.1.Term∧s.2.1.length≤7∧s.2.2.1.length≤7∧s.2.2.2.length≤7∧(s.1.bx=2→ib s.1 s.2.2.1 s.2.2.2∧∀x,x∈s.2.2.2→0≤x∧x≤1099511627776)) ?_ fun s _ hs=>?_
 ·refine tT (fun qt=>.ret ⟨⟨h.nd.cf,h.nd.kR,h.nd.tl⟩,⟨h.nu.id,h.nu.cf,show m.Term<_ by have:=ht.tm;omega,h.nu.cm,h.nu.bs,h.nu.bt⟩,rfl,Int.le_of_lt qt,by simp,by simp,by simp,fun q=>absurd (show(0:Int)=2 from q) (by decide)⟩) fun _=>.ret ⟨h.nd,h.nu,rfl,YQ _,hv,lG.1,lG.2,fun q=>⟨h.nx q,fun x hx=>?_⟩⟩
  have k:=h.ok.kn.1 q
  have a:=h.ok.tr.last
  obtain⟨i,hi,rfl⟩:=Wg hx
  obtain⟨y,z,h1,h2,h3⟩:=k.mm i (by rw[←k.ml];exact hi)
  rw[Y3 hi]at h1;cases h1
  omega
 obtain⟨g,v,n,q⟩:=s
 obtain⟨gn,gu,gc,gT,gv,gx,gq,gk⟩:=hs
 simp only at gn gu gc gT gv gx gq gk⊢
 have gt:lP m g:=⟨by rw[gc];exact ht.fr,ht.tm,ht.i0,ht.i1,ht.lt,ht.cm,ht.en⟩
 refine tT (fun _=>tB (Rf gn gu gt (by omega) gx gq) fun s _ hs=>.ret ⟨s.1,s.2.1,s.2.2.1,s.2.2.2.1,s.2.2.2.2,rfl,by rw[gc]at hs;exact hs.up gT⟩) fun _=>?_
 refine tB (Q:=fun s:cy×List Int×List Int×List Int×List bV=>jA r.au r.Term s.1 s.2.1 s.2.2.1 s.2.2.2.1 s.2.2.2.2) ?_ fun s _ hs=>.ret ⟨s.1,s.2.1,s.2.2.1,s.2.2.2.1,s.2.2.2.2,rfl,hs⟩
 have same:jA r.au r.Term g v n q []:=⟨gc,gn.tl,by omega,gx,gq,by simp,(fun x hx=>by cases hx),gT⟩
 rw[←gc]at same⊢
 refine tC (fun _=>tB (Qq gn gu gt (by omega) gx gq) fun s _ hs=>.ret (hs.up gT)) fun _=>tC (fun _=>?_) fun _=>tC (fun _=>tB (Qm gn gu gt (by omega) gx gq gk) fun s _ hs=>.ret (hs.up gT)) fun _=>tC (fun _=>.ret same) fun _=>tC (fun _=>tB (R4 gn gu gt gx gq) fun s _ hs=>.ret (hs.up gT)) fun _=>tC (fun _=>tB (TP gn gu gt gx gq) fun s _ hs=>.ret (hs.up gT)) fun _=>.ret same
 refine tB (Tc (m:=m) gn gu (by omega) gx gq) fun o _ ho=>?_
 rcases o with a|b
 ·exact .ret ((ho.1 a rfl).up gT)
 ·exact .ret ((ho.2 b rfl).up gT)
end Go.T
