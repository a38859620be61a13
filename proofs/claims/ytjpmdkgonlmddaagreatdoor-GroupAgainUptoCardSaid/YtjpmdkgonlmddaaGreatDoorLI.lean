import Derived.Test.YtjpmdkgonlmddaaGreatDoorLH
set_option linter.unusedVariables false
set_option maxRecDepth 20000
namespace Go.T
open Go Go.Ab
theorem ZgW.lt{l:List Int}(h:ZgW l):∀(d i:Nat) (a b:Int),l[i]? =some a→l[i+d+1]? =some b→a<b
 |0,i,a,b,h1,h2=>by
  have hi:i+1<l.length:=by
   by_cases q:i+1<l.length
   ·exact q
   ·rw[List.getElem?_eq_none (by omega)]at h2;cases h2
  obtain⟨x,y,g1,g2,g3⟩:=h.inc i hi
  rw[g1]at h1;cases h1
  rw[show i+0+1=i+1 from rfl,g2]at h2;cases h2
  exact g3
 |d+1,i,a,b,h1,h2=>by
  have hi:i+(d+1)+1<l.length:=by
   by_cases q:i+(d+1)+1<l.length
   ·exact q
   ·rw[List.getElem?_eq_none (by omega)]at h2;cases h2
  obtain⟨x,y,g1,g2,g3⟩:=h.inc i (by omega)
  rw[g1]at h1;cases h1
  have:=ZgW.lt h d (i+1) y b g2 (by rw[←h2];congr 1;omega)
  omega
theorem Zsb(F:Nat):Zdq F=ZaX F:=rfl
theorem ZkY{κ ν:Type}[DecidableEq κ]{q:κ}:∀{l:List (κ×ν)},(∀e,e∈l→e.1≠q)→mget q l=none
 | [],_=>rfl
 |e::r,h=>by
  simp only[mget]
  rw[if_neg (fun k=>h e (List.mem_cons_self ..) k.symm)]
  exact ZkY fun x hx=>h x (List.mem_cons_of_mem _ hx)
theorem Zj7{κ ν:Type}[DecidableEq κ]{q:κ}{x:ν}:∀(l:List (κ×ν)),mget q (mput q x l)=some x
 | []=>by simp[mput,mget]
 |e::r=>by
  simp only[mput]
  by_cases k:q=e.1
  ·rw[if_pos k];simp[mget]
  ·rw[if_neg k];simp only[mget];rw[if_neg k,Zj7 r]
theorem ZkX{κ ν:Type}[DecidableEq κ]{q:κ}(x:ν){y:ν}:∀{l:List (κ×ν)},mget q l=some y→(mput q x l).length=l.length
 | [],h=>by cases h
 |e::r,h=>by
  simp only[mget]at h;simp only[mput]
  by_cases k:q=e.1
  ·rw[if_pos k];rfl
  ·rw[if_neg k]at h;rw[if_neg k,List.length_cons,List.length_cons,ZkX x h]
abbrev NewT:=Int×(List Int)×Bool×(List (Int×group_node))×Int×Bool×(List Zab)×(List Int)×(List Int)×(List Zag)×(List Zac)×(List (mesh_pair×Int))
theorem keysP{conf:List Int}{gs:List (Int×group_node)}(hcf:CF conf)(i:Nat)(h:∀e,e∈gs→∃j,j<i∧conf[j]? =some e.1){id:Int}(hi:conf[i]? =some id):mget id gs=none:=by
 refine ZkY fun e he q=>?_
 obtain⟨j,hj,e1⟩:=h e he
 have:=hcf.ok.lt (i-j-1) j e.1 id e1 (by rw[←hi];congr 1;omega)
 omega
theorem ZpM{conf:List Int}{gs:List (Int×group_node)}{i:Nat}(h:∀e,e∈gs→∃j,j<i∧conf[j]? =some e.1){k:Int}(hk:conf[i]? =some k)(x:group_node):∀e,e∈mput k x gs→∃j,j<i+1∧conf[j]? =some e.1:=fun e he=>by
 rcases ZgI he with rfl|he
 ·exact⟨i,Nat.lt_succ_self _,hk⟩
 ·obtain⟨j,h1,h2⟩:=h e he
  exact⟨j,by omega,h2⟩
theorem Zs6(conf:List Int)(hcf:CF conf)(y2:Int×(List Zac)×(List (mesh_pair×Int)))(tb:Bool)(h2:PK y2.2.1):Tot (Zda FF conf conf y2 tb FF 0 []) fun gs=>∀e,e∈gs→e.1∈conf∧NdK conf e.2:=by
 have h7:=hcf.ok.n7
 have:=loopT (fun n (s:Nat×List (Int×group_node))=>Zda FF conf conf y2 tb n (s.1:Int) s.2) (fun s=>s.1≤conf.length∧s.2.length≤s.1∧∀e,e∈s.2→e.1∈conf∧NdK conf e.2∧∃j,j<s.1∧conf[j]? =some e.1) (fun s=>conf.length-s.1) (fun gs=>∀e,e∈gs→e.1∈conf∧NdK conf e.2) (by
  rintro n ⟨i,gs⟩ ⟨g1,g2,g3⟩ k;simp only at g1 g2 g3 k⊢;simp only[Zda]
  refine Tot.test (fun a=>?_) fun _=>.ret fun e he=>⟨(g3 e he).1,(g3 e he).2.1⟩
  refine Tot.grd (by omega) (Tot.get (by simp;omega) fun id hi hm=>?_)
  rw[Int.toNat_natCast]at hi
  refine Tot.of (show ZjO FF=some (0,[])from rfl) ?_
  have hn:=keysP hcf i (fun e he=>(g3 e he).2.2) hi
  rw[show(!Option.isSome (mget id gs)&&Nat.blt (List.length gs) LIM)=true by
   rw[hn];simp only[Option.isSome_none,Bool.not_false,Bool.true_and];rw[Nat.blt_eq];unfold LIM;omega,cond_true,Zsb]
  refine Tot.bind (Zl0 (gs:=mput id (.inl default) gs) hcf id hm (by rw[Zj7];rfl) _ _ _ 0 [] [] ZrU (WI.nil _) y2.1 tb) fun y _ hy=>?_
  obtain⟨⟨x,hx,e⟩, -⟩:=hy
  rw[w1 (by omega),e]
  refine k (i+1,_) ⟨by simp only;omega,?_,fun e he=>?_⟩ (by simp only;omega)
  ·have a1:=Zj5 id (.inl default:group_node) gs
   have a2:=Zj7 (q:=id) (x:=(.inl default:group_node)) gs
   have a3:=ZkX x a2
   simp only;omega
  ·have e1:=fun e he=>(ZpM (fun e he=>(g3 e he).2.2) hi (.inl default):∀e,e∈mput id _ gs→_) e he
   rcases ZgI he with rfl|he2
   ·exact⟨hm,hx,i,Nat.lt_succ_self _,hi⟩
   ·refine⟨?_,?_,e1 e he2⟩
    ·rcases ZgI he2 with rfl|he3
     ·exact hm
     ·exact(g3 e he3).1
    ·rcases ZgI he2 with rfl|he3
     ·exact⟨ZrU,WI.nil _⟩
     ·exact(g3 e he3).2.1) FF (0,[]) ⟨Nat.zero_le _,by simp,fun e he=>by cases he⟩ (by simp only[FF];omega)
 exact this
theorem Zsp(conf:List Int)(hc:∀x,x∈conf→x<9223372036854775808):Tot (Zd2 FF conf) fun o=>∀y:NewT,o=.inr y→∃gs,y=(0,conf,false,gs,0,false,[],[0],[0],[],[],[])∧CF conf∧∀e,e∈gs→e.1∈conf∧NdK conf e.2:=by
 unfold Zd2
 refine Tot.bind (ZjP conf) fun b hb h=>Tot.cond (fun _=>.ret fun y e=>by cases e) fun e=>?_
 have e:b=true:=by simpa using e
 subst e
 have hcf:CF conf:=⟨hb,h rfl,hc⟩
 refine Tot.of (ZlN conf (by have:=hcf.ok.n7;omega)) ?_
 simp only[ZjK,ZlM,Option.bind_some]
 refine Tot.bind (Zs6 conf hcf (0,[],[]) false ⟨by decide,fun p hp=>by cases hp⟩) fun gs _ hg=>.ret fun y e=>?_
 cases e;exact⟨gs,rfl,hcf,hg⟩
theorem Zob(id:Int)(c:List Int)(br:Bool)(gs:List (Int×group_node))(last:Int)(tb:Bool)(l:List Zab)(n7 n8:List Int)(n9:List Zag)(n10:List Zac)(m:List (mesh_pair×Int)):
 ∃v e,Zbs FF id c br gs last tb l n7 n8 n9 n10 m=some (v,e,gs):=by
 unfold Zbs
 cases h:mget id gs with
 |none=>exact⟨_,_,rfl⟩
 |some x=>
  cases x with
  |inl d=>
   simp only[Option.elim_some,Sum.elim_inl,Option.isSome_some,decide_true,Bool.and_true,cond_true];rw[Zf2 h];exact⟨_,_,rfl⟩
  |inr u=>
   simp only[Option.elim_some,Sum.elim_inr,Option.isSome_some,decide_true,Bool.and_true,cond_true];rw[Zf2 h];exact⟨_,_,rfl⟩
theorem Zkj(c:List Int)(br:Bool)(gs:List (Int×group_node))(last:Int)(tb:Bool)(l:List Zab)(n7 n8:List Int)(n9:List Zag)(n10:List Zac)(m:List (mesh_pair×Int))(h:n10.length≤1000000):
 Zbt FF c br gs last tb l n7 n8 n9 n10 m=some n10:=by
 unfold Zbt ZdS Za3
 rw[show decide (n10.length≤LIM)=true from decide_eq_true (by unfold LIM;omega)];rfl
theorem ZmM(c:List Int)(br:Bool)(gs:List (Int×group_node))(last:Int)(tb:Bool)(l:List Zab)(n7 n8:List Int)(n9:List Zag)(n10:List Zac)(m:List (mesh_pair×Int))(h:l.length≤1000000000):
 ZaL FF c br gs last tb l n7 n8 n9 n10 m=some l:=by
 unfold ZaL Za0
 rw[show decide (l.length≤LIM)=true from decide_eq_true (by unfold LIM;omega)];rfl
theorem ZkZ(c:List Int)(br:Bool)(gs:List (Int×group_node))(last:Int)(tb:Bool)(l:List Zab)(n7 n8:List Int)(n9:List Zag)(n10:List Zac)(m:List (mesh_pair×Int))(h:n9.length≤1000000000):
 ZbM FF c br gs last tb l n7 n8 n9 n10 m=some n9:=by
 unfold ZbM Zbn
 rw[show decide (n9.length≤LIM)=true from decide_eq_true (by unfold LIM;omega)];rfl
theorem Zma(a:List Zac)(h:a.length≤1000000):ZcR FF a a=some true:=by
 have:=loopT (fun n (i:Nat)=>ZbJ FF a a n (i:Int)) (fun i=>i≤a.length) (fun i=>a.length-i) (fun o=>o=.inr ()) (by
  intro n i h1 k;simp only[ZbJ]
  refine Tot.test (fun q=>?_) fun _=>.ret rfl
  refine Tot.grd (by omega) (Tot.get (by simp;omega) fun x hx _=>Tot.grd (by omega) (Tot.get (by simp;omega) fun y hy _=>Tot.cond (fun q=>?_) fun q=>?_))
  ·rw[hx]at hy;cases hy;simp at q
  ·rw[w1 (by omega)]
   exact k (i+1) (by omega) (by omega)) FF 0 (Nat.zero_le _) (by simp only[FF];omega)
 obtain⟨o,e,rfl⟩:=this
 unfold ZcR
 rw[show((0:Int))=((0:Nat):Int)from rfl,e]
 simp
theorem ZmB(a:List Zab)(h:a.length≤3000000):ZcQ FF a a=some true:=by
 have:=loopT (fun n (i:Nat)=>ZbI FF a a n (i:Int)) (fun i=>i≤a.length) (fun i=>a.length-i) (fun o=>o=.inr ()) (by
  intro n i h1 k;simp only[ZbI]
  refine Tot.test (fun q=>?_) fun _=>.ret rfl
  refine Tot.grd (by omega) (Tot.get (by simp;omega) fun x hx _=>Tot.grd (by omega) (Tot.get (by simp;omega) fun y hy _=>Tot.cond (fun q=>?_) fun q=>?_))
  ·rw[hx]at hy;cases hy;simp at q
  ·rw[w1 (by omega)]
   exact k (i+1) (by omega) (by omega)) FF 0 (Nat.zero_le _) (by simp only[FF];omega)
 obtain⟨o,e,rfl⟩:=this
 unfold ZcQ
 rw[show((0:Int))=((0:Nat):Int)from rfl,e]
 simp
theorem Zqz(a:Zau)(c:List Int)(br:Bool)(gs:List (Int×group_node))(last:Int)(tb:Bool)(l:List Zab)(n7 n8:List Int)(n9:List Zag)(n10:List Zac)(m:List (mesh_pair×Int))(h:n10.length≤1000000)(ha: -9223372036854775808≤a.Id):
 Tot (Zdu FF a c br gs last tb l n7 n8 n9 n10 m) fun _=>True:=by
 unfold Zdu
 refine Tot.of (Zkj c br gs last tb l n7 n8 n9 n10 m h) ?_
 rw[List.length_map]
 refine Tot.bind (Q:=fun t=>t=true→a.Id≤0∧0<n10.length) (Tot.test (fun q=>.ret fun e=>⟨q,by have:=of_decide_eq_true e;omega⟩) fun _=>.ret (by simp)) fun t _ ht=>Tot.bind (Q:=fun _=>True) (Tot.cond (fun e=>?_) fun _=>.ret trivial) fun _ _ _=>.ret trivial
 obtain⟨h1,h2⟩:=ht e
 refine Tot.bind (Q:=fun n=>0≤n) (Tot.cond (fun _=>.ret (by decide)) fun e=>.ret ?_) fun n _ hn=>?_
 ·have e:a.Id≠0:=by simpa using e
  rw[wi64 (x:=a.Id+1) (by omega) (by omega),wi64 (by omega) (by omega)];omega
 ·have t0:0≤Int.tmod n (n10.length:Int):=Int.tmod_nonneg _ hn
  have t1:Int.tmod n (n10.length:Int)<(n10.length:Int):=Int.tmod_lt_of_pos _ (by omega)
  exact Tot.grd (by omega) (Tot.grd t0 (Tot.get (by omega) fun _ _ _=>Tot.get (by omega) fun _ _ _=>.ret trivial))
theorem ZrD(conf:List Int)(h7:conf.length≤7)(e:Int)(c:List Int)(br:Bool)(gs:List (Int×group_node))(last:Int)(tb:Bool)(l:List Zab)(n7 n8:List Int)(n9:List Zag)(n10:List Zac)(m:List (mesh_pair×Int)):
 ZaY FF conf (e,c,br,gs,last,tb,m,l,n7,n8,n9,n10) c br last tb l n7 n8 n9 n10 m FF 0 gs gs=some (.inr (gs,gs)):=by
 have:=loopT (fun n (i:Nat)=>ZaY FF conf (e,c,br,gs,last,tb,m,l,n7,n8,n9,n10) c br last tb l n7 n8 n9 n10 m n (i:Int) gs gs) (fun i=>i≤conf.length) (fun i=>conf.length-i) (fun o=>o=.inr (gs,gs)) (by
  intro n i h1 k;simp only[ZaY]
  refine Tot.test (fun q=>?_) fun _=>.ret rfl
  refine Tot.grd (by omega) (Tot.get (by simp;omega) fun x hx _=>?_)
  obtain⟨v,e2,hv⟩:=Zob x c br gs last tb l n7 n8 n9 n10 m
  refine Tot.of hv (Tot.grd (by omega) (Tot.get (by simp;omega) fun x2 hx2 _=>?_))
  rw[hx]at hx2;cases hx2
  refine Tot.of hv (Tot.cond (fun q=>by simp at q) fun _=>?_)
  rw[w1 (by omega)]
  exact k (i+1) (by omega) (by omega)) FF 0 (Nat.zero_le _) (by simp only[FF];omega)
 obtain⟨o,e,rfl⟩:=this
 exact e
abbrev AgT:=(List Int)×Bool×(List Int)×Bool×(List (Int×group_node))×Int×Bool×(List Zab)×(List Int)×(List Int)×(List Zag)×(List (Int×group_node))×Int×Bool×(List Zab)×(List Int)×(List Int)×(List Zag)×(List Zac)×(List (mesh_pair×Int))×(List Zac)×(List (mesh_pair×Int))
abbrev StT:=(List Int)×Bool×(List (Int×group_node))×Int×Bool×(List (mesh_pair×Int))×(List Zab)×(List Int)×(List Int)×(List Zag)×(List Zac)
def agT(s:StT):AgT:=(s.1,s.2.1,s.1,s.2.1,s.2.2.1,s.2.2.2.1,s.2.2.2.2.1,s.2.2.2.2.2.2.1,s.2.2.2.2.2.2.2.1,s.2.2.2.2.2.2.2.2.1,s.2.2.2.2.2.2.2.2.2.1,s.2.2.1,s.2.2.2.1,s.2.2.2.2.1,s.2.2.2.2.2.2.1,s.2.2.2.2.2.2.2.1,s.2.2.2.2.2.2.2.2.1,s.2.2.2.2.2.2.2.2.2.1,s.2.2.2.2.2.2.2.2.2.2,s.2.2.2.2.2.1,s.2.2.2.2.2.2.2.2.2.2,s.2.2.2.2.2.1)
theorem ZrE(conf:List Int)(hcf:CF conf)(script:List Zau)(hs:∀a,a∈script→ -9223372036854775808≤a.Id)(c:List Int)(br:Bool)(gs:List (Int×group_node))(last:Int)(tb:Bool)(l:List Zab)(n7 n8:List Int)(n9:List Zag)(n10:List Zac)(m:List (mesh_pair×Int))(h:GID conf 0 (0,c,br,gs,last,tb,m,l,n7,n8,n9,n10)):
 Tot (ZaZ FF conf script FF 0 c br c br gs last tb l n7 n8 n9 gs last tb l n7 n8 n9 n10 m n10 m) fun o=>∃s:StT,o=.inr (agT s)∧GID conf 2000000 (0,s):=by
 have h7:=hcf.ok.n7
 have:=loopT (fun n (s:Nat×StT)=>ZaZ FF conf script n (s.1:Int) s.2.1 s.2.2.1 s.2.1 s.2.2.1 s.2.2.2.1 s.2.2.2.2.1 s.2.2.2.2.2.1 s.2.2.2.2.2.2.2.1 s.2.2.2.2.2.2.2.2.1 s.2.2.2.2.2.2.2.2.2.1 s.2.2.2.2.2.2.2.2.2.2.1 s.2.2.2.1 s.2.2.2.2.1 s.2.2.2.2.2.1 s.2.2.2.2.2.2.2.1 s.2.2.2.2.2.2.2.2.1 s.2.2.2.2.2.2.2.2.2.1 s.2.2.2.2.2.2.2.2.2.2.1 s.2.2.2.2.2.2.2.2.2.2.2 s.2.2.2.2.2.2.1 s.2.2.2.2.2.2.2.2.2.2.2 s.2.2.2.2.2.2.1)
  (fun s=>s.1≤400∧GID conf (s.1*4097) (0,s.2)) (fun s=>400-s.1) (fun o=>∃s:StT,o=.inr (agT s)∧GID conf 2000000 (0,s)) (by
  rintro n ⟨i,c,br,gs,last,tb,m,l,n7,n8,n9,n10⟩ ⟨g1,g2⟩ k;simp only at g1 g2 k⊢
  obtain⟨hG,hm⟩:=g2
  simp only at hG hm;simp only[ZaZ]
  have hp:=hG.pk.1
  refine Tot.bind (Q:=fun t=>t=true→i<script.length∧i<400) (Tot.test (fun q=>.ret fun e=>⟨by omega,by have:=of_decide_eq_true e;omega⟩) fun _=>.ret (by simp)) fun t _ ht=>Tot.cond (fun e=>?_) fun e=>.ret ⟨(c,br,gs,last,tb,m,l,n7,n8,n9,n10),rfl,hG.mono (by omega),by simp only;omega⟩
  obtain⟨q1,q2⟩:=ht e
  refine Tot.elim (Pr:=fun _=>False) (Ps:=fun z:AgT=>∃s:StT,z=agT s∧GID conf ((i+1)*4097) (0,s)) ?_ (fun _ h=>h.elim) fun z hz=>?_
  ·refine Tot.grd (by omega) (Tot.get (by simp;omega) fun a _ ha=>Tot.bind (Zqz a c br gs last tb l n7 n8 n9 n10 m (by omega) (hs a ha)) fun a' _ _=>?_)
   refine Tot.bind (Ztg (a:=a') (br:=br) (last:=last) (tb:=tb) hcf (by omega) hG hm) fun y hy hd=>?_
   obtain⟨e,c1,br1,gs1,last1,tb1,m1,l1,a7,a8,a9,a10⟩:=y
   obtain⟨d1,d2⟩:=hd
   simp only at d1 d2⊢
   refine Tot.bind (Q:=fun t=>t=false→e≠0∧e≠3∧e≠21) (Tot.cond (fun _=>.ret (by simp)) fun e1=>Tot.cond (fun _=>.ret (by simp)) fun e2=>.ret fun e3=>⟨by simpa using e1,by simpa using e2,by simpa using e3⟩) fun t _ ht=>?_
   have hnx:(bif t then Option.bind (ZaO FF a' c br gs last tb l n7 n8 n9 n10 m) fun y_282=>bif y_282.1 != e then(some (Sum.inl false):Option (Bool⊕((List Int)×Bool×(List (Int×group_node))×Int×Bool×(List Zab)×(List Int)×(List Int)×(List Zag)×(List Zac)×(List (mesh_pair×Int)))))else some (Sum.inr (y_282.2.1,y_282.2.2.1,y_282.2.2.2.1,y_282.2.2.2.2.1,y_282.2.2.2.2.2.1,y_282.2.2.2.2.2.2.2.1,y_282.2.2.2.2.2.2.2.2.1,y_282.2.2.2.2.2.2.2.2.2.1,y_282.2.2.2.2.2.2.2.2.2.2.1,y_282.2.2.2.2.2.2.2.2.2.2.2,y_282.2.2.2.2.2.2.1))else some (Sum.inr (c,br,gs,last,tb,l,n7,n8,n9,n10,m)))=some (Sum.inr (c1,br1,gs1,last1,tb1,l1,a7,a8,a9,a10,m1)):=by
    cases t with
    |true=>rw[hy];simp
    |false=>
     obtain⟨t1,t2,t3⟩:=ht rfl
     rcases d2 with q|q|q|q
     ·exact absurd q t1
     ·exact absurd q t2
     ·exact absurd q t3
     ·cases q;rfl
   refine Tot.of hnx ?_
   simp only[Sum.elim_inr]
   have hp1:=d1.1.pk.1
   simp only at hp1
   refine Tot.of (Zkj c1 br1 gs1 last1 tb1 l1 a7 a8 a9 a10 m1 (by omega)) (Tot.of (Zkj c1 br1 gs1 last1 tb1 l1 a7 a8 a9 a10 m1 (by omega)) (Tot.of (Zma a10 (by omega)) ?_))
   simp only[Bool.not_true,cond_false]
   refine Tot.of (ZrD conf h7 e c1 br1 gs1 last1 tb1 l1 a7 a8 a9 a10 m1) ?_
   refine .ret ⟨(fun _ q=>by cases q),fun z q=>⟨(c1,br1,gs1,last1,tb1,m1,l1,a7,a8,a9,a10),?_,d1.1.mono (by omega),by have:=d1.2;simp only at this⊢;omega⟩⟩
   cases q;rfl
  ·obtain⟨s,rfl,hs⟩:=hz
   rw[w1 (by omega)]
   exact k (i+1,s) ⟨by simp only;omega,hs⟩ (by simp only;omega)) FF (0,c,br,gs,last,tb,m,l,n7,n8,n9,n10) ⟨Nat.zero_le _,by simpa using h⟩ (by simp only[FF];omega)
 exact this
theorem Znk:ZeC FF=some true:=by kernel_rfl
theorem Zky(conf:List Int)(script:List Zau)(hc:∀x,x∈conf→x<9223372036854775808)(hs:∀a,a∈script→ -9223372036854775808≤a.Id):ZbK FF conf script=some true:=by
 suffices h:Tot (ZbK FF conf script) fun b=>b=true by
  obtain⟨b,e,rfl⟩:=h;exact e
 unfold ZbK
 refine Tot.of Znk ?_
 simp only[Bool.not_true,cond_false]
 refine Tot.bind (Zsp conf hc) fun o ho h=>?_
 rcases o with y|y
 ·simp only[Sum.elim_inl]
  refine Tot.of ho (.ret rfl)
 ·obtain⟨gs,rfl,hcf,hg⟩:=h y rfl
  simp only[Sum.elim_inr]
  refine Tot.of ho ?_
  simp only[Sum.elim_inr]
  refine Tot.elim (Pr:=fun _=>False) (Ps:=fun z:AgT=>∃s:StT,z=agT s∧GID conf 2000000 (0,s)) ((ZrE conf hcf script hs conf false gs 0 false [] [0] [0] [] [] [] ⟨⟨rfl,hg,⟨by simp,rfl,rfl⟩,by simp,by simp,fun p hp=>by cases hp⟩,by simp⟩).mono fun o ho=>?_) (fun _ h=>h.elim) fun z hz=>?_
  ·obtain⟨s,rfl,h⟩:=ho
   exact⟨(fun _ q=>by cases q),fun z q=>by cases q;exact⟨s,rfl,h⟩⟩
  ·obtain⟨s,rfl,hs⟩:=hz
   obtain⟨c,br,gs,last,tb,m,l,n7,n8,n9,n10⟩:=s
   obtain⟨h1,h2⟩:=hs
   have hl:=h1.nt.le
   have h9:=h1.ld
   simp only at h1 h2 hl h9;simp only[agT]
   refine Tot.of (ZmM c br gs last tb l n7 n8 n9 n10 m (by omega)) (Tot.of (ZmM c br gs last tb l n7 n8 n9 n10 m (by omega)) (Tot.of (ZmB l (by omega)) ?_))
   simp only[cond_true]
   refine Tot.of (ZkZ c br gs last tb l n7 n8 n9 n10 m (by omega)) (Tot.of (ZkZ c br gs last tb l n7 n8 n9 n10 m (by omega)) (.ret ?_))
   simp
theorem ZkK(conf:List Int)(script:List Zau)(hc:conf.length≤1048576∧∀y,y∈conf→okI IntKind.i64 y)(hs:script.length≤1048576∧∀y,y∈script→Zau.ok 1048576 y):ZbK FF conf script=some true:=
 Zky conf script (fun x hx=>by have:=(Zpz (hc.2 x hx)).2;omega) fun a ha=>by
  obtain⟨-, -, -, -,h, -⟩:=hs.2 a ha
  exact(Zpz h).1
end Go.T
