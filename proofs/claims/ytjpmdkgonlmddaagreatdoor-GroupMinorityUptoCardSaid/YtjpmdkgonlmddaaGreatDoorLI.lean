import Derived.Test.YtjpmdkgonlmddaaGreatDoorLH
set_option linter.unusedVariables false
set_option maxRecDepth 20000
namespace Go.T
open Go Go.Ab
theorem Zej.lt{l:List Int}(h:Zej l):∀(d i:Nat) (a b:Int),l[i]? =some a→l[i+d+1]? =some b→a<b
 |0,i,a,b,h1,h2=>by
  have hi:i+1<l.length:=by
   by_cases q:i+1<l.length
   ·exact q
   ·rw[Wo (by omega)]at h2;cases h2
  obtain⟨x,y,g1,g2,g3⟩:=h.inc i hi
  rw[g1]at h1;cases h1
  rw[show i+0+1=i+1 from rfl,g2]at h2;cases h2
  exact g3
 |d+1,i,a,b,h1,h2=>by
  have hi:i+(d+1)+1<l.length:=by
   by_cases q:i+(d+1)+1<l.length
   ·exact q
   ·rw[Wo (by omega)]at h2;cases h2
  obtain⟨x,y,g1,g2,g3⟩:=h.inc i (by omega)
  rw[g1]at h1;cases h1
  have:=Zej.lt h d (i+1) y b g2 (by rw[←h2];congr 1;omega)
  omega
theorem Zr8(F:Nat):Zdq F=Za3 F:=rfl
theorem ZkT{κ ν:Type}[DecidableEq κ]{q:κ}:∀{l:List (κ×ν)},(∀e,e∈l→e.1≠q)→mget q l=none
 | [],_=>rfl
 |e::r,h=>by
  simp only[mget]
  rw[if_neg (fun k=>h e (Ys ..) k.symm)]
  exact ZkT fun x hx=>h x (Yk _ hx)
theorem ZkS{κ ν:Type}[DecidableEq κ]{q:κ}(x:ν){y:ν}:∀{l:List (κ×ν)},mget q l=some y→(mput q x l).length=l.length
 | [],h=>by cases h
 |e::r,h=>by
  simp only[mget]at h;simp only[mput]
  by_cases k:q=e.1
  ·rw[if_pos k];rfl
  ·rw[if_neg k]at h;rw[if_neg k,Yf,Yf,ZkS x h]
abbrev NewT:=Int×(List Int)×Bool×(List (Int×group_node))×Int×Bool×(List Zab)×(List Int)×(List Int)×(List Zai)×(List Zae)×(List (mesh_pair×Int))
theorem keysP{conf:List Int}{gs:List (Int×group_node)}(hcf:CF conf)(i:Nat)(h:∀e,e∈gs→∃j,j<i∧conf[j]? =some e.1){id:Int}(hi:conf[i]? =some id):mget id gs=none:=by
 refine ZkT fun e he q=>?_
 obtain⟨j,hj,e1⟩:=h e he
 have:=hcf.ok.lt (i-j-1) j e.1 id e1 (by rw[←hi];congr 1;omega)
 omega
theorem ZpC{conf:List Int}{gs:List (Int×group_node)}{i:Nat}(h:∀e,e∈gs→∃j,j<i∧conf[j]? =some e.1){k:Int}(hk:conf[i]? =some k)(x:group_node):∀e,e∈mput k x gs→∃j,j<i+1∧conf[j]? =some e.1:=fun e he=>by
 rcases ZgF he with rfl|he
 ·exact⟨i,V0 _,hk⟩
 ·obtain⟨j,h1,h2⟩:=h e he
  exact⟨j,by omega,h2⟩
theorem Zs5(conf:List Int)(hcf:CF conf)(y2:Int×(List Zae)×(List (mesh_pair×Int)))(tb:Bool):Tot (Zda FF conf conf y2 tb FF 0 []) fun gs=>∀e,e∈gs→e.1∈conf∧NdK conf e.2:=by
 have h7:=hcf.ok.n7
 have:=loopT (fun n (s:Nat×List (Int×group_node))=>Zda FF conf conf y2 tb n (s.1:Int) s.2) (fun s=>s.1≤conf.length∧s.2.length≤s.1∧∀e,e∈s.2→e.1∈conf∧NdK conf e.2∧∃j,j<s.1∧conf[j]? =some e.1) (fun s=>conf.length-s.1) (fun gs=>∀e,e∈gs→e.1∈conf∧NdK conf e.2) (by
  rintro n ⟨i,gs⟩ ⟨g1,g2,g3⟩ k;simp only at g1 g2 g3 k⊢;simp only[Zda]
  refine tT (fun a=>?_) fun _=>.ret fun e he=>⟨(g3 e he).1,(g3 e he).2.1⟩
  refine tG (by omega) (tE (by simp;omega) fun id hi hm=>?_)
  rw[Int.toNat_natCast]at hi
  refine tO (show ZjN FF=some (0,[])from rfl) ?_
  have hn:=keysP hcf i (fun e he=>(g3 e he).2.2) hi
  rw[show(!Option.isSome (mget id gs)&&Nat.blt (List.length gs) LIM)=true by
   rw[hn];simp only[Option.isSome_none,WH,Bool.true_and];rw[Nat.blt_eq];unfold LIM;omega,Y4,Zr8]
  refine tB (ZlW (gs:=mput id (.inl default) gs) hcf id hm (by rw[Zge];rfl) _ _ _ 0 [] [] ZrN (WI.nil _) y2.1 tb) fun y _ hy=>?_
  obtain⟨x,hx,e⟩:=hy
  rw[w1 (by omega),e]
  refine k (i+1,_) ⟨by simp only;omega,?_,fun e he=>?_⟩ (by simp only;omega)
  ·have a1:=ZiE id (.inl default:group_node) gs
   have a2:=Zge (q:=id) (x:=(.inl default:group_node)) gs
   have a3:=ZkS x a2
   simp only;omega
  ·have e1:=fun e he=>(ZpC (fun e he=>(g3 e he).2.2) hi (.inl default):∀e,e∈mput id _ gs→_) e he
   rcases ZgF he with rfl|he2
   ·exact⟨hm,hx,i,V0 _,hi⟩
   ·refine⟨?_,?_,e1 e he2⟩
    ·rcases ZgF he2 with rfl|he3
     ·exact hm
     ·exact(g3 e he3).1
    ·rcases ZgF he2 with rfl|he3
     ·exact⟨ZrN,WI.nil _⟩
     ·exact(g3 e he3).2.1) FF (0,[]) ⟨Yv _,by simp,fun e he=>by cases he⟩ (by simp only[FF];omega)
 exact this
theorem Zsn(conf:List Int)(hc:∀x,x∈conf→x<9223372036854775808):Tot (ZeN FF conf) fun o=>∀y:NewT,o=.inr y→∃gs,y=(0,conf,false,gs,0,false,[],[0],[0],[],[],[])∧CF conf∧∀e,e∈gs→e.1∈conf∧NdK conf e.2:=by
 unfold ZeN
 refine tB (ZlH conf) fun b hb h=>tC (fun _=>.ret fun y e=>by cases e) fun e=>?_
 have e:b=true:=by simpa using e
 subst e
 have hcf:CF conf:=⟨hb,h rfl,hc⟩
 refine tO (ZlI conf (by have:=hcf.ok.n7;omega)) ?_
 simp only[ZjJ,ZlG,Y0]
 refine tB (Zs5 conf hcf (0,[],[]) false) fun gs _ hg=>.ret fun y e=>?_
 cases e;exact⟨gs,rfl,hcf,hg⟩
theorem ZkF(id:Int)(c:List Int)(br:Bool)(gs:List (Int×group_node))(last:Int)(tb:Bool)(l:List Zab)(n7 n8:List Int)(n9:List Zai)(n10:List Zae)(m:List (mesh_pair×Int)):
 ∃v e,Zbx FF id c br gs last tb l n7 n8 n9 n10 m=some (v,e,gs)∧(v.Up=true→Sty id v.Commit gs∧∃u,mget id gs=some (.inr u)):=by
 unfold Zbx
 cases h:mget id gs with
 |none=>exact⟨_,_,rfl,fun e=>by cases e⟩
 |some x=>
  cases x with
  |inl d=>
   simp only[Option.elim_some,Sum.elim_inl,Option.isSome_some,decide_true,Bool.and_true,Y4]
   rw[Zf0 h];exact⟨_,_,rfl,fun e=>by cases e⟩
  |inr u=>
   simp only[Option.elim_some,Sum.elim_inr,Option.isSome_some,decide_true,Bool.and_true,Y4]
   rw[Zf0 h];exact⟨_,_,rfl,fun _=>⟨fun u' hu=>(by rw[h]at hu;cases hu;rfl),u,rfl⟩⟩
theorem Zms(c:List Int)(br:Bool)(gs:List (Int×group_node))(last:Int)(tb:Bool)(l:List Zab)(n7 n8:List Int)(n9:List Zai)(n10:List Zae)(m:List (mesh_pair×Int))(h:n10.length≤1000000):
 ZbV FF c br gs last tb l n7 n8 n9 n10 m=some n10:=by
 unfold ZbV ZdT Za9
 rw[show decide (n10.length≤LIM)=true from Y2 (by unfold LIM;omega)];rfl
theorem ZmG(c:List Int)(br:Bool)(gs:List (Int×group_node))(last:Int)(tb:Bool)(l:List Zab)(n7 n8:List Int)(n9:List Zai)(n10:List Zae)(m:List (mesh_pair×Int))(h:l.length≤1000000000):
 ZaC FF c br gs last tb l n7 n8 n9 n10 m=some l:=by
 unfold ZaC Za6
 rw[show decide (l.length≤LIM)=true from Y2 (by unfold LIM;omega)];rfl
theorem Zqq(a:Zau)(c:List Int)(br:Bool)(gs:List (Int×group_node))(last:Int)(tb:Bool)(l:List Zab)(n7 n8:List Int)(n9:List Zai)(n10:List Zae)(m:List (mesh_pair×Int))(h:n10.length≤1000000)(ha: -9223372036854775808≤a.Id):
 Tot (Zdu FF a c br gs last tb l n7 n8 n9 n10 m) fun _=>True:=by
 unfold Zdu
 refine tO (Zms c br gs last tb l n7 n8 n9 n10 m h) ?_
 rw[Ya]
 refine tB (Q:=fun t=>t=true→a.Id≤0∧0<n10.length) (tT (fun q=>.ret fun e=>⟨q,by have:=YD e;omega⟩) fun _=>.ret (by simp)) fun t _ ht=>tB (Q:=fun _=>True) (tC (fun e=>?_) fun _=>.ret trivial) fun _ _ _=>.ret trivial
 obtain⟨h1,h2⟩:=ht e
 refine tB (Q:=fun n=>0≤n) (tC (fun _=>.ret (by decide)) fun e=>.ret ?_) fun n _ hn=>?_
 ·have e:a.Id≠0:=by simpa using e
  rw[wi64 (x:=a.Id+1) (by omega) (by omega),wi64 (by omega) (by omega)];omega
 ·have t0:0≤Int.tmod n (n10.length:Int):=Int.tmod_nonneg _ hn
  have t1:Int.tmod n (n10.length:Int)<(n10.length:Int):=Int.tmod_lt_of_pos _ (by omega)
  exact tG (by omega) (tG t0 (tE (by omega) fun _ _ _=>tE (by omega) fun _ _ _=>.ret trivial))
abbrev StT:=(List Int)×Bool×(List (Int×group_node))×Int×Bool×(List Zab)×(List Int)×(List Int)×(List Zai)×(List Zae)×(List (mesh_pair×Int))
def GS(conf:List Int)(b:Nat)(s:StT):Prop:=GI conf b s.1 s.2.2.1 s.2.2.2.1 s.2.2.2.2.2.1 s.2.2.2.2.2.2.1 s.2.2.2.2.2.2.2.1 s.2.2.2.2.2.2.2.2.1 s.2.2.2.2.2.2.2.2.2.1∧s.2.2.2.2.2.2.2.2.2.2.length≤b
theorem GS.of{conf:List Int}{b:Nat}{y:DoT}(h:GID conf b y):GS conf b (y.2.1,y.2.2.1,y.2.2.2.1,y.2.2.2.2.1,y.2.2.2.2.2.1,y.2.2.2.2.2.2.2.1,y.2.2.2.2.2.2.2.2.1,y.2.2.2.2.2.2.2.2.2.1,y.2.2.2.2.2.2.2.2.2.2.1,y.2.2.2.2.2.2.2.2.2.2.2,y.2.2.2.2.2.2.1):=h
theorem Zta(conf:List Int)(hcf:CF conf)(script:List Zau)(hs:∀a,a∈script→ -9223372036854775808≤a.Id)(s:StT)(h:GS conf 0 s):
 Tot (ZaO FF script FF 0 s.1 s.2.1 s.2.2.1 s.2.2.2.1 s.2.2.2.2.1 s.2.2.2.2.2.1 s.2.2.2.2.2.2.1 s.2.2.2.2.2.2.2.1 s.2.2.2.2.2.2.2.2.1 s.2.2.2.2.2.2.2.2.2.1 s.2.2.2.2.2.2.2.2.2.2) (GS conf 820000):=by
 have:=loopT (fun n (s:Nat×StT)=>ZaO FF script n (s.1:Int) s.2.1 s.2.2.1 s.2.2.2.1 s.2.2.2.2.1 s.2.2.2.2.2.1 s.2.2.2.2.2.2.1 s.2.2.2.2.2.2.2.1 s.2.2.2.2.2.2.2.2.1 s.2.2.2.2.2.2.2.2.2.1 s.2.2.2.2.2.2.2.2.2.2.1 s.2.2.2.2.2.2.2.2.2.2.2)
  (fun s=>s.1≤200∧GS conf (s.1*4097) s.2) (fun s=>200-s.1) (GS conf 820000) (by
  rintro n ⟨i,c,br,gs,last,tb,l,n7,n8,n9,n10,m⟩ ⟨g1,g2⟩ k;simp only at g1 g2 k⊢
  obtain⟨hG,hm⟩:=g2
  simp only at hG hm;simp only[ZaO]
  have hp:=hG.pk.le
  refine tB (Q:=fun t=>t=true→i<script.length∧i<200) (tT (fun q=>.ret fun e=>⟨by omega,by have:=YD e;omega⟩) fun _=>.ret (by simp)) fun t _ ht=>tC (fun e=>?_) fun e=>.ret ⟨hG.mono (by omega),by simp only;omega⟩
  obtain⟨q1,q2⟩:=ht e
  refine tG (by omega) (tE (by simp;omega) fun a _ ha=>tB (Zqq a c br gs last tb l n7 n8 n9 n10 m (by omega) (hs a ha)) fun a' _ _=>tB (Zti hcf (by omega) hG hm) fun y _ hd=>?_)
  rw[w1 (by omega)]
  obtain⟨e,c1,br1,gs1,last1,tb1,m1,l1,a7,a8,a9,a10⟩:=y
  refine k (i+1,c1,br1,gs1,last1,tb1,l1,a7,a8,a9,a10,m1) ⟨by simp only;omega,?_⟩ (by simp only;omega)
  have:=GS.of hd
  rw[show i*4097+4097=(i+1)*4097 by omega]at this
  exact this) FF (0,s) ⟨Yv _,by simpa using h⟩ (by simp only[FF];omega)
 exact this
def Cutd(m:List (mesh_pair×Int))(x y:Int):Prop:=Option.getD (mget (mesh_pair.mk (if y<x then y else x) (if y>x then y else x)) m) 0≠0
theorem Cutd.put{m:List (mesh_pair×Int)}{x y:Int}(h:Cutd m x y)(p:mesh_pair):Cutd (mput p 1 m) x y:=by
 unfold Cutd at h⊢
 generalize mesh_pair.mk (if y<x then y else x) (if y>x then y else x)=q at h⊢
 by_cases e:q=p
 ·subst e;rw[Zge];decide
 ·rw[Zj3 e];exact h
theorem Cutd.symm{m:List (mesh_pair×Int)}{x y:Int}(h:Cutd m x y):Cutd m y x:=by
 unfold Cutd at h⊢
 rw[show(if x<y then x else y)=(if y<x then y else x) by split<;>split<;>omega,show(if x>y then x else y)=(if y>x then y else x) by split<;>split<;>omega];exact h
theorem Zs9(conf:List Int)(h7:conf.length≤7)(id:Int)(c:List Int)(br:Bool)(gs:List (Int×group_node))(last:Int)(tb:Bool)(l:List Zab)(n7 n8:List Int)(n9:List Zai)(n10:List Zae)(m:List (mesh_pair×Int))(hm:m.length≤820000):
 Tot (ZaN FF conf id FF 0 c br gs last tb l n7 n8 n9 n10 m) fun s=>∃m',s=(c,br,gs,last,tb,l,n7,n8,n9,n10,m')∧m'.length≤820007∧∀x,x∈conf→x≠id→Cutd m' id x:=by
 have:=loopT (fun n (s:Nat×List (mesh_pair×Int))=>ZaN FF conf id n (s.1:Int) c br gs last tb l n7 n8 n9 n10 s.2) (fun s=>s.1≤conf.length∧s.2.length≤820000+s.1∧∀x,x∈conf.take s.1→x≠id→Cutd s.2 id x) (fun s=>conf.length-s.1) (fun s=>∃m',s=(c,br,gs,last,tb,l,n7,n8,n9,n10,m')∧m'.length≤820007∧∀x,x∈conf→x≠id→Cutd m' id x) (by
  rintro n ⟨i,m⟩ ⟨h1,h2,h3⟩ k;simp only at h1 h2 h3 k⊢;simp only[ZaN]
  refine tT (fun q=>?_) fun q=>.ret ⟨m,rfl,by omega,by rw[YS (by omega)]at h3;exact h3⟩
  refine tB (Q:=fun s:StT=>∃m',s=(c,br,gs,last,tb,l,n7,n8,n9,n10,m')∧m'.length≤820000+(i+1)∧∀x,x∈conf.take (i+1)→x≠id→Cutd m' id x) (tG (by omega) (tE (by simp;omega) fun x hx _=>?_)) fun s _ hs=>?_
  ·rw[Int.toNat_natCast]at hx
   have ht:conf.take (i+1)=conf.take i++[x]:=by rw[W5,hx];rfl
   refine tC (fun e=>tG (by omega) (tE (by simp;omega) fun x2 hx2 _=>?_)) fun e=>.ret ⟨m,rfl,by omega,fun z hz hne=>?_⟩
   ·rw[Int.toNat_natCast,hx]at hx2;cases hx2
    have hl:=ZiE (mesh_pair.mk (if x<id then x else id) (if x>id then x else id)) (1:Int) m
    have hdo:Zar FF (Zau.mk (8:Int) (0:Int) id x (0:Int) (0:Int) (0:Int) (0:Int) false ([]:List UInt8) (0:Int) (Zdx.mk (0:Int) (0:Int) (0:Int) ([]:List UInt8) ([]:List UInt8) ([]:List UInt8) ([]:List UInt8) (0:Int)) (Zcw.mk (0:Int) (0:Int) (0:Int) (0:Int) (0:Int) (0:Int) (0:Int) ([]:List UInt8))) c br gs last tb l n7 n8 n9 n10 m=some (0,c,br,gs,last,tb,mput (mesh_pair.mk (if x<id then x else id) (if x>id then x else id)) 1 m,l,n7,n8,n9,n10):=by
     unfold Zar Zfu Zdc Zd6 ZgZ;simp only[Y0]
     rw[show decide (m.length+1≤LIM)=true from Y2 (by unfold LIM;omega)];rfl
    refine tO hdo (.ret ⟨_,rfl,by simp only;omega,fun z hz hne=>?_⟩)
    rw[ht]at hz
    rcases Yy.1 hz with q|q
    ·exact(h3 z q hne).put _
    ·simp only[YB]at q;subst q
     unfold Cutd;rw[Zge];decide
   ·rw[ht]at hz
    rcases Yy.1 hz with q|q
    ·exact h3 z q hne
    ·simp only[YB]at q;subst q;exact absurd (by simpa using e) hne
  ·obtain⟨m',rfl,q1,q2⟩:=hs
   rw[w1 (by omega)]
   exact k (i+1,m') ⟨by simp only;omega,q1,q2⟩ (by simp only;omega)) FF (0,m) ⟨Yv _,by simpa using hm,fun x hx=>by simp at hx⟩ (by simp only[FF];omega)
 exact this
theorem Zs3{C:List Int}{b:Nat}{x:Int}{l:List Zae}(h:PK C b x l){p q:Zae}(hp:p∈l)(hq:q∈l)(e:p.Id=q.Id):p=q:=by
 obtain⟨i,hi,rfl⟩:=YY hp
 obtain⟨j,hj,rfl⟩:=YY hq
 have hu:=WE.1 h.un
 rcases WR i j with k|k|k
 ·exact absurd e (hu i j hi hj k)
 ·subst k;rfl
 ·exact absurd e.symm (hu j i hj hi k)
theorem Zs7{conf:List Int}{b:Nat}(id:Int)(c:List Int)(br:Bool)(gs:List (Int×group_node))(last:Int)(tb:Bool)(l:List Zab)(n7 n8:List Int)(n9:List Zai)(n10:List Zae)(m:List (mesh_pair×Int))(hp:PK conf b last n10)(hc:∀x,x∈conf→x≠id→Cutd m id x):
 Tot (ZaL FF id n10 FF 0 c br gs last tb l n7 n8 n9 n10 m) fun s=>s=(c,br,gs,last,tb,l,n7,n8,n9,n10,m):=by
 have hl:=hp.le
 have:=loopT (fun n (i:Nat)=>ZaL FF id n10 n (i:Int) c br gs last tb l n7 n8 n9 n10 m) (fun i=>i≤n10.length) (fun i=>n10.length-i) (fun s=>s=(c,br,gs,last,tb,l,n7,n8,n9,n10,m)) (by
  intro n i h1 k;simp only[ZaL]
  refine tB (Q:=fun t=>t=true→i<n10.length) (tT (fun q=>.ret fun _=>by omega) fun _=>.ret (by simp)) fun t _ ht=>tC (fun e=>?_) fun _=>.ret rfl
  have q:=ht e
  refine tB (Q:=fun s:StT=>s=(c,br,gs,last,tb,l,n7,n8,n9,n10,m)) (tG (by omega) (tE (by omega) fun _ _ _=>tE (by omega) fun p hpi hpm=>tC (fun e=>tG (by omega) (tE (by omega) fun _ _ _=>tE (by omega) fun p2 hpi2 _=>?_)) fun _=>.ret rfl)) fun s _ hs=>?_
  ·rw[hpi]at hpi2;cases hpi2
   have eto:p.To=id:=by simpa using e
   have hno:∀r,r∈n10→r.Id=p.Id→Cutd m r.From r.To:=fun r hr e=>by
    have:=Zs3 hp hr hpm e
    subst this
    have hk:=hp.pk _ hpm
    rw[eto];rw[eto]at hk
    exact(hc _ hk.2.1 (fun z=>hk.2.2.1 z.symm)).symm
   refine tB (Q:=fun y:DoT=>y.2=(c,br,gs,last,tb,m,l,n7,n8,n9,n10)) ?_ fun y _ hy=>.ret (by rw[hy])
   unfold Zar Zfu;simp only[Y0]
   refine tC (fun e=>absurd (show((2:Int)==1)=true from e) (by decide)) fun _=>tC (fun _=>tB (Q:=fun y:ActT=>y.2=(c,br,gs,last,tb,l,n7,n8,n9,n10)) ?_ fun y _ hy=>.ret (by rw[hy])) fun e=>absurd (show((2:Int)==2)=false from e) (by decide)
   unfold ZbN
   refine tB (ZkU (m:=m) p.Id last hp) fun y _ hy=>?_
   obtain⟨p3,ok,last2,pk⟩:=y
   have:=hy.2.2 hno
   cases this;exact .ret rfl
  ·subst hs
   rw[w1 (by omega)]
   exact k (i+1) (by omega) (by omega)) FF 0 (Yv _) (by simp only[FF];omega)
 exact this
theorem ZrM{conf:List Int}{b:Nat}(hcf:CF conf)(a:Zau)(c:List Int)(br:Bool)(gs:List (Int×group_node))(last:Int)(tb:Bool)(l:List Zab)(n7 n8:List Int)(n9:List Zai)(n10:List Zae)(m:List (mesh_pair×Int))(hb:b≤2000000)(hG:GI conf b c gs last l n7 n8 n9 n10)(hm:m.length≤b)(ha:a.Kind=1∨a.Kind=5):
 Tot (Zar FF a c br gs last tb l n7 n8 n9 n10 m) fun y=>GID conf (b+4097) y∧y.2.2.2.2.2.2.1=m∧(2≤conf.length→∀C,Sty a.Node C gs→Sty a.Node C y.2.2.2.1∧y.2.2.2.2.2.2.2.1=l):=by
 have hm':m.length≤b+4097:=by omega
 unfold Zar Zfu;simp only[Y0]
 rcases ha with h|h<;>rw[h]
 ·refine tC (fun _=>tB (ZlS hcf hb hG) fun y _ hy=>.ret ⟨⟨hy.1,hm'⟩,rfl,hy.2⟩) fun e=>absurd e (by decide)
 ·refine tC (fun e=>absurd e (by decide)) fun _=>tC (fun e=>absurd e (by decide)) fun _=>tC (fun e=>absurd e (by decide)) fun _=>tC (fun e=>absurd e (by decide)) fun _=>tC (fun _=>tB (Zjm hcf hb hG) fun y _ hy=>.ret ⟨⟨hy.1,hm'⟩,rfl,hy.2⟩) fun e=>absurd e (by decide)
theorem Zs8{conf:List Int}(hcf:CF conf)(h2:2≤conf.length)(id:Int)(l0:List Zab)(v:Zfk)(ve:Int)(vg:List (Int×group_node))(c:List Int)(br:Bool)(gs:List (Int×group_node))(last:Int)(tb:Bool)(l:List Zab)(n7 n8:List Int)(n9:List Zai)(n10:List Zae)(m:List (mesh_pair×Int))(hG:GI conf 900000 c gs last l n7 n8 n9 n10)(hm:m.length≤900000)(hc:∀x,x∈conf→x≠id→Cutd m id x)(hl:l=l0)(hv:v.Up=true→Sty id v.Commit gs):
 Tot (ZaM FF id l0 (v,ve,vg) FF 0 c br gs last tb l n7 n8 n9 n10 m) fun o=>o=.inr ():=by
 have:=loopT (fun n (s:Nat×StT)=>ZaM FF id l0 (v,ve,vg) n (s.1:Int) s.2.1 s.2.2.1 s.2.2.2.1 s.2.2.2.2.1 s.2.2.2.2.2.1 s.2.2.2.2.2.2.1 s.2.2.2.2.2.2.2.1 s.2.2.2.2.2.2.2.2.1 s.2.2.2.2.2.2.2.2.2.1 s.2.2.2.2.2.2.2.2.2.2.1 s.2.2.2.2.2.2.2.2.2.2.2)
  (fun s=>s.1≤60∧GS conf (900000+s.1*8194) s.2∧s.2.2.2.2.2.2.2.2.2.2.2=m∧s.2.2.2.2.2.2.1=l0∧(v.Up=true→Sty id v.Commit s.2.2.2.1)) (fun s=>60-s.1) (fun o=>o=.inr ()) (by
  rintro n ⟨i,c,br,gs,last,tb,l,n7,n8,n9,n10,m'⟩ ⟨g1,g2,g3,g4,g5⟩ k;simp only at g1 g2 g3 g4 g5 k⊢
  obtain⟨hG,hm'⟩:=g2
  simp only at hG hm';subst g3 g4;simp only[ZaM]
  refine tB (Q:=fun t=>t=true→i<60∧v.Up=true) (tT (fun q=>.ret fun e=>⟨by omega,e⟩) fun _=>.ret (by simp)) fun t _ ht=>tC (fun e=>?_) fun _=>.ret rfl
  obtain⟨q1,q2⟩:=ht e
  refine tL (Pr:=fun _:Bool=>False) (Ps:=fun s:StT=>GS conf (900000+(i+1)*8194) s∧s.2.2.2.2.2.2.2.2.2.2=m'∧s.2.2.2.2.2.1=l∧Sty id v.Commit s.2.2.1) ?_ (fun _ h=>h.elim) fun s hs=>?_
  ·refine tB (ZrM hcf _ c br gs last tb l n7 n8 n9 n10 m' (by omega) hG (by omega) (.inl rfl)) fun y _ hy=>?_
   obtain⟨e1,c1,br1,gs1,last1,tb1,m1,l1,a7,a8,a9,a10⟩:=y
   obtain⟨⟨d1,d2⟩,d3,d4⟩:=hy
   simp only at d1 d2 d3 d4⊢
   obtain⟨d5,d6⟩:=d4 h2 _ (g5 q2)
   subst d3 d6
   refine tB (ZrM hcf _ c1 br1 gs1 last1 tb1 l1 a7 a8 a9 a10 m1 (by omega) d1 d2 (.inr rfl)) fun y _ hy=>?_
   obtain⟨e2,c2,br2,gs2,last2,tb2,m2,l2,b7,b8,b9,b10⟩:=y
   obtain⟨⟨f1,f2⟩,f3,f4⟩:=hy
   simp only at f1 f2 f3 f4⊢
   obtain⟨f5,f6⟩:=f4 h2 _ d5
   subst f3 f6
   have hp:=f1.pk.le
   refine tO (Zms c2 br2 gs2 last2 tb2 l2 b7 b8 b9 b10 m2 (by omega)) (tB (Zs7 id c2 br2 gs2 last2 tb2 l2 b7 b8 b9 b10 m2 f1.pk hc) fun s _ hs=>?_)
   subst hs;simp only
   have hle:=f1.nt.le
   obtain⟨w,e,hw,hup⟩:=ZkF id c2 br2 gs2 last2 tb2 l2 b7 b8 b9 b10 m2
   have hag:ZaC FF c2 br2 gs2 last2 tb2 l2 b7 b8 b9 b10 m2=some l2:=ZmG c2 br2 gs2 last2 tb2 l2 b7 b8 b9 b10 m2 (by omega)
   refine tO hw (tB (Q:=fun t=>t=false) (tC (fun e=>tC (fun e2=>?_) fun _=>tO hag (.ret (by simp))) fun _=>tO hag (.ret (by simp))) fun t _ ht=>?_)
   ·exfalso
    obtain⟨u1,u,hu⟩:=hup e
    have a1:=u1 u hu;have a2:=f5 u hu
    rw[←a1,a2]at e2;simp at e2
   ·subst ht
    refine .ret ⟨(fun _ q=>by cases q),fun z q=>?_⟩
    cases q
    refine⟨⟨?_,by simp only;omega⟩,rfl,rfl,f5⟩
    exact f1.mono (by omega)
  ·obtain⟨c1,br1,gs1,last1,tb1,l1,a7,a8,a9,a10,m1⟩:=s
   obtain⟨s1,s2,s3,s4⟩:=hs
   simp only
   rw[w1 (by omega)]
   exact k (i+1,c1,br1,gs1,last1,tb1,l1,a7,a8,a9,a10,m1) ⟨by simp only;omega,s1,s2,s3,fun _=>s4⟩ (by simp only;omega)) FF (0,c,br,gs,last,tb,l,n7,n8,n9,n10,m) ⟨Yv _,⟨hG,hm⟩,rfl,hl,hv⟩ (by simp only[FF];omega)
 exact this
theorem Znc:ZeB FF=some true:=by kernel_rfl
theorem Zi1(conf:List Int)(script:List Zau)(at_:Int)(hc:∀x,x∈conf→x<9223372036854775808)(hs:∀a,a∈script→ -9223372036854775808≤a.Id):Zbm FF conf script at_=some true:=by
 have:Tot (Zbm FF conf script at_) fun r=>r=true:=by
  unfold Zbm
  refine tO Znc ?_
  simp only[YP,Y7]
  refine tB (Zsn conf hc) fun o _ ho=>?_
  rcases o with y|y
  ·exact .ret rfl
  obtain⟨gs,rfl,hcf,hg⟩:=ho y rfl
  have h7:=hcf.ok.n7
  simp only[Sum.elim_inr]
  refine tT (fun _=>.ret rfl) fun h2=>?_
  have h2:2≤conf.length:=by omega
  refine tB (Zta conf hcf script hs (conf,false,gs,0,false,[],[0],[0],[],[],[]) ⟨⟨rfl,hg,⟨by simp,by simp,by simp⟩,by simp,⟨by simp,Vj _,by simp,(fun p hp=>by cases hp),List.Pairwise.nil⟩⟩,by simp⟩) fun s _ hS=>?_
  obtain⟨c,br,gs,last,tb,l,n7,n8,n9,n10,m⟩:=s
  obtain⟨hG,hm⟩:=hS
  simp only at hG hm⊢;simp only[Ya];rw[WA,WA]
  have e1:(conf.length:Int)% 18446744073709551616=(conf.length:Int):=by omega
  simp only[e1]
  have t0:0≤Int.tmod (at_% 18446744073709551616) (conf.length:Int):=Int.tmod_nonneg _ (by omega)
  have t1:Int.tmod (at_% 18446744073709551616) (conf.length:Int)<(conf.length:Int):=Int.tmod_lt_of_pos _ (by omega)
  rw[wi64 (x:=Int.tmod (at_% 18446744073709551616) (conf.length:Int)) (by omega) (by omega)]
  refine tG (by omega) (tG t0 (tE (by omega) fun id _ hid=>tB (Zs9 conf h7 id c br gs last tb l n7 n8 n9 n10 m hm) fun s _ hs1=>?_))
  obtain⟨m',rfl,hm',hcut⟩:=hs1
  simp only
  have hle:=hG.nt.le
  refine tO (ZmG c br gs last tb l n7 n8 n9 n10 m' (by omega)) ?_
  obtain⟨v,e,hv,hup⟩:=ZkF id c br gs last tb l n7 n8 n9 n10 m'
  refine tO hv (tB (Zs8 hcf h2 id l v e gs c br gs last tb l n7 n8 n9 n10 m' (hG.mono (by omega)) (by omega) hcut rfl fun q=>(hup q).1) fun o _ ho=>?_)
  subst ho;exact .ret rfl
 obtain⟨r,e,rfl⟩:=this
 exact e
theorem Zjh(conf:List Int)(script:List Zau)(at_:Int)(hc:conf.length≤1048576∧∀y,y∈conf→okI IntKind.i64 y)(hs:script.length≤1048576∧∀y,y∈script→Zau.ok 1048576 y):Zbm FF conf script at_=some true:=
 Zi1 conf script at_ (fun x hx=>by have:=(Zpp (hc.2 x hx)).2;omega) fun a ha=>by
  obtain⟨-, -, -, -,h, -⟩:=hs.2 a ha
  exact(Zpp h).1
end Go.T
