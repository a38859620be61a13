import Derived.Test.YtjpmdkgonlmddaaGreatDoorLH
import Derived.KernelRfl
set_option linter.unusedVariables false
set_option maxRecDepth 20000
namespace Go.T
open Go Go.Ab
theorem mD.lt{l:List Int}(h:mD l):∀(d i:Nat) (a b:Int),l[i]? =some a→l[i+d+1]? =some b→a<b
 |0,i,a,b,h1,h2=>by
  have hi:i+1<l.length:=by
   by_cases q:i+1<l.length
   ·exact q
   ·rw[Wq (by omega)]at h2;cases h2
  obtain⟨x,y,g1,g2,g3⟩:=h.inc i hi
  rw[g1]at h1;cases h1
  rw[show i+0+1=i+1 from rfl,g2]at h2;cases h2
  exact g3
 |d+1,i,a,b,h1,h2=>by
  have hi:i+(d+1)+1<l.length:=by
   by_cases q:i+(d+1)+1<l.length
   ·exact q
   ·rw[Wq (by omega)]at h2;cases h2
  obtain⟨x,y,g1,g2,g3⟩:=h.inc i (by omega)
  rw[g1]at h1;cases h1
  have:=mD.lt h d (i+1) y b g2 (by rw[←h2];congr 1;omega)
  omega
theorem Qe(F:Nat):Ee F=uR F:=rfl
theorem Mf{κ ν:Type}[DecidableEq κ]{q:κ}:∀{l:List (κ×ν)},(∀e,e∈l→e.1≠q)→ak q l=none
 | [],_=>rfl
 |e::r,h=>by
  simp only[ak]
  rw[if_neg (fun k=>h e (Yl ..) k.symm)]
  exact Mf fun x hx=>h x (Yk _ hx)
theorem Mg{κ ν:Type}[DecidableEq κ]{q:κ}(x:ν){y:ν}:∀{l:List (κ×ν)},ak q l=some y→(bw q x l).length=l.length
 | [],h=>by cases h
 |e::r,h=>by
  simp only[ak]at h;simp only[bw]
  by_cases k:q=e.1
  ·rw[if_pos k];rfl
  ·rw[if_neg k]at h;rw[if_neg k,Ye,Ye,Mg x h]
abbrev IB:=Int×(List Int)×Bool×(List (Int×aa))×Int×Bool×(List bj)×(List Int)×(List Int)×(List cq)×(List bQ)×(List (ag×Int))
theorem zk{ah:List Int}{gs:List (Int×aa)}(eL:CF ah)(i:Nat)(h:∀e,e∈gs→∃j,j<i∧ah[j]? =some e.1){id:Int}(hi:ah[i]? =some id):ak id gs=none:=by
 refine Mf fun e he q=>?_
 obtain⟨j,hj,e1⟩:=h e he
 have:=eL.ok.lt (i-j-1) j e.1 id e1 (by rw[←hi];congr 1;omega)
 omega
theorem SR{ah:List Int}{gs:List (Int×aa)}{i:Nat}(h:∀e,e∈gs→∃j,j<i∧ah[j]? =some e.1){k:Int}(hk:ah[i]? =some k)(x:aa):∀e,e∈bw k x gs→∃j,j<i+1∧ah[j]? =some e.1:=fun e he=>by
 rcases HN he with rfl|he
 ·exact⟨i,V2 _,hk⟩
 ·obtain⟨j,h1,h2⟩:=h e he
  exact⟨j,by omega,h2⟩
theorem cr.eqv{α:Type}{o:Option α}{x:α}{P:α→Prop}(h:cr o P)(e:o=some x):P x:=by
 obtain⟨y,e2,h⟩:=h
 rw[e2]at e;cases e;exact h
theorem RI(l:List Int)(h:mD l):cr (pE FF l) fun b=>b=true:=by
 obtain⟨h1,h7,hi,p,hp,hp1⟩:=h
 unfold pE
 refine tB (Q:=fun b=>b=false) (tT (fun q=>by omega) fun _=>tT (fun q=>by omega) fun _=>tE (by simp;omega) fun y hy _=>.ret ?_) fun b _ hb=>tC (fun q=>by rw[hb]at q;cases q) fun e=>?_
 ·have hy:l[0]? =some y:=by simpa using hy
  rw[hp]at hy;cases hy
  exact Ym (by omega)
 ·have el:(@cut (List AV) (some (Operand.const (Value.int IntKind.i64 (1:Int)))) none (List.map (bG IntKind.i64) l) (Int.toNat (1:Int)) (List.length l)).length=l.length-1:=by simp
  have key:=dk (fun n (i:Nat)=>tu FF l n (i:Int)) (fun k=>k+1≤l.length) (fun i=>l.length-i) (fun o=>(∀r,o=.inl r→r=true)∧∀s:Unit,o=.inr s→True) (by
   rintro n i hi' k;simp only[tu];rw[el]
   refine tT (fun h=>?_) fun h=>.ret ⟨(fun r e=>by cases e),fun _ _=>trivial⟩
   obtain⟨a,b,ha,hb2,gr⟩:=hi i (by omega)
   refine tG (by omega) (tE (by simp;omega) fun y hy _=>tG (by omega) (tE (by simp;omega) fun z hz _=>?_))
   rw[Int.toNat_natCast]at hy hz
   rw[YR,show(1:Int).toNat+i=i+1 by simp;omega,hb2]at hy
   rw[ha]at hz;cases hy;cases hz
   refine tT (fun q=>by omega) fun _=>?_
   rw[w1 (by omega)]
   exact k (i+1) (by omega) (by omega)) FF 0 (by omega) (by simp only[FF];omega)
  exact tG (by simp;omega) (tG (Yg _) (tL key (fun r hr=>.ret hr) fun _ _=>.ret rfl))
theorem Sm(l:List Int):cr (BG FF l) fun b=>b=true→mD l:=by
 unfold BG
 refine tB (Q:=fun b=>b=false→1≤l.length∧l.length≤7) (tC (fun _=>.ret (by simp)) fun q=>.ret fun q2=>?_) fun b _ hb=>tC (fun _=>.ret (by simp)) fun e=>?_
 ·have q:¬(l.length:Int)=0:=by simpa using q
  have q2:=We q2
  rw[Yb]at q2;omega
 obtain⟨h1,h7⟩:=hb e
 have key:=dk (fun n (s:Nat×Int)=>yJ FF l n s.2 (s.1:Int)) (fun s=>s.1≤l.length∧(s.1=0→s.2=0)∧(∀j,j+1=s.1→l[j]? =some s.2)∧(0<s.1→∃a,l[0]? =some a∧1≤a)∧∀j,j+1<s.1→∃a b,l[j]? =some a∧l[j+1]? =some b∧a<b) (fun s=>l.length-s.1) (fun o=>(∀r,o=.inl r→r=false)∧∀s:Unit,o=.inr s→mD l) (by
  rintro n ⟨i,x⟩ ⟨g1,g0,g2,g3,g4⟩ k;simp only at g1 g0 g2 g3 g4 k⊢;simp only[yJ]
  refine tT (fun q=>?_) fun q=>.ret ⟨(fun r e=>by cases e),fun _ _=>⟨h1,h7,fun j hj=>g4 j (by omega),g3 (by omega)⟩⟩
  refine tG (by omega) (tE (by simp;omega) fun y hy _=>tT (fun _=>.ret ⟨(fun r e=>by cases e;rfl),fun _ e=>by cases e⟩) fun X0=>tG (by omega) (tE (by simp;omega) fun y2 hy2 _=>?_))
  rw[hy]at hy2;cases hy2;rw[Int.toNat_natCast]at hy
  rw[w1 (by omega)]
  refine k (i+1,y) ⟨by simp only;omega,(fun q=>by cases q),fun j hj=>?_,fun _=>?_,fun j hj=>?_⟩ (by simp only;omega)
  ·have:j=i:=by omega
   subst this;exact hy
  ·by_cases z:i=0
   ·subst z;exact⟨y,hy,by have:=g0 rfl;omega⟩
   ·exact g3 (by omega)
  ·by_cases z:j+1=i
   ·exact⟨x,y,g2 j z,by rw[z];exact hy,by omega⟩
   ·exact g4 j (by omega)) FF (0,0) ⟨YC _,fun _=>rfl,(fun j hj=>by omega),(fun h=>by omega),fun j hj=>by omega⟩ (by simp only[FF];omega)
 exact tL key (fun r hr=>.ret fun q=>by rw[hr]at q;cases q) fun _ hs=>.ret fun _=>hs
theorem Pw:DR 0 [] [] []:=⟨Pv,WI.nil _,fun e he=>(by cases he),.inl ⟨rfl,fun z Y _ _ h=>by cases h⟩⟩
theorem PG(ah:List Int)(eL:CF ah)(y2:Int×(List bQ)×(List (ag×Int)))(tb:Bool)(h2:PK y2.2.1):cr (tj FF ah ah y2 tb FF 0 []) fun gs=>∀i x,ak i gs=some x→i∈ah∧pJ ah 0 0 false x:=by
 have h7:=eL.ok.n7
 have:=dk (fun n (s:Nat×List (Int×aa))=>tj FF ah ah y2 tb n (s.1:Int) s.2) (fun s=>s.1≤ah.length∧s.2.length≤s.1∧(∀i x,ak i s.2=some x→i∈ah∧pJ ah 0 0 false x)∧∀e,e∈s.2→∃j,j<s.1∧ah[j]? =some e.1) (fun s=>ah.length-s.1) (fun gs=>∀i x,ak i gs=some x→i∈ah∧pJ ah 0 0 false x) (by
  rintro n ⟨i,gs⟩ ⟨g1,g2,g3,g4⟩ k;simp only at g1 g2 g3 g4 k⊢;simp only[tj]
  refine tT (fun a=>?_) fun _=>.ret g3
  refine tG (by omega) (tE (by simp;omega) fun id hi hm=>?_)
  rw[Int.toNat_natCast]at hi
  refine tO (show Dk FF=some (0,[])from rfl) ?_
  have hn:=zk eL i g4 hi
  rw[show(!Option.isSome (ak id gs)&&Nat.blt (List.length gs) bm)=true by
   rw[hn];simp only[Option.isSome_none,WM,Bool.true_and];rw[Nat.blt_eq];unfold bm;omega,Y5,Qe]
  refine tB (Kp (gs:=bw id (.inl default) gs) eL id hm (by rw[Bc];rfl) _ _ _ 0 [] [] Pw y2.1 tb) fun y _ hy=>?_
  obtain⟨e,F7⟩:=y
  obtain⟨x,rfl,hx⟩:=hy
  have hN:pJ ah 0 0 false x:=by
   rcases hx with ⟨-,d,rfl,h1⟩|⟨-,u,rfl,h1,h2,h3⟩
   ·exact⟨[],h1,YQ _,fun _=>rfl⟩
   ·exact⟨h1,YF Prod.fst h3,YF Prod.snd h3⟩
  rw[w1 (by omega)]
  refine k (i+1,_) ⟨by simp only;omega,?_,fun j z hz=>?_,?_⟩ (by simp only;omega)
  ·have a1:=HM id (.inl default:aa) gs
   have a2:=Bc (q:=id) (x:=(.inl default:aa)) gs
   have a3:=Mg x a2
   simp only;omega
  ·by_cases q:j=id
   ·subst q;rw[Bc]at hz;cases hz;exact⟨hm,hN⟩
   ·rw[DQ q,DQ q]at hz;exact g3 j z hz
  ·have h1:=SR g4 hi (.inl default)
   intro e he
   rcases HN he with rfl|he
   ·exact⟨i,V2 _,hi⟩
   ·exact h1 e he) FF (0,[]) ⟨YC _,by simp,(fun i x h=>by cases h),fun e he=>by cases he⟩ (by simp only[FF];omega)
 exact this
theorem ze(ah:List Int)(hc:∀x,x∈ah→x<9223372036854775808):cr (rK FF ah) fun o=>(∀y,o=.inl y→¬mD ah)∧∀y:IB,o=.inr y→∃gs,y=(0,ah,false,gs,0,false,[],[0],[0],[],[],[])∧CF ah∧∀i x,ak i gs=some x→i∈ah∧pJ ah 0 0 false x:=by
 unfold rK
 refine tB (Dj ah) fun b hb h=>tC (fun e=>.ret ⟨fun y _ hO=>?_,fun y e=>by cases e⟩) fun e=>?_
 ·have:=(RI ah hO).eqv hb
  rw[this]at e;cases e
 have e:b=true:=by simpa using e
 subst e
 have eL:CF ah:=⟨hb,h rfl,hc⟩
 refine tO (Ha ah (by have:=eL.ok.n7;omega)) ?_
 simp only[Dp,Dc,Y1]
 refine tB (PG ah eL (0,[],[]) false ⟨by decide,fun p hp=>by cases hp⟩) fun gs _ hg=>.ret ⟨(fun y e=>by cases e),fun y e=>?_⟩
 cases e;exact⟨gs,rfl,eL,hg⟩
theorem QO(id:Int)(c:List Int)(br:Bool)(gs:List (Int×aa))(last:Int)(tb:Bool)(l:List bj)(n7 n8:List Int)(n9:List cq)(n10:List bQ)(m:List (ag×Int)):
 ∃v e,wT FF id c br gs last tb l n7 n8 n9 n10 m=some (v,e,gs)∧(v.Up=true→∃u,ak id gs=some (.inr u)∧v.Term=u.dH.Term∧v.bg=u.dH.bg∧v.bx=u.dH.bx)∧(v.Up=false→∀u,ak id gs≠some (.inr u)):=by
 unfold wT
 cases h:ak id gs with
 |none=>exact⟨_,_,rfl,(fun q=>by cases q),fun _ u q=>by cases q⟩
 |some x=>
  cases x with
  |inl d=>
   simp only[Option.elim_some,Sum.elim_inl,Option.isSome_some,decide_true,Bool.and_true,Y5]
   rw[wo h];exact⟨_,_,rfl,(fun q=>by cases q),fun _ u q=>by cases q⟩
  |inr u=>
   simp only[Option.elim_some,Sum.elim_inr,Option.isSome_some,decide_true,Bool.and_true,Y5]
   rw[wo h];exact⟨_,_,rfl,fun _=>⟨u,rfl,rfl,rfl,rfl⟩,fun q=>by cases q⟩
theorem S9(c:List Int)(br:Bool)(gs:List (Int×aa))(last:Int)(tb:Bool)(l:List bj)(n7 n8:List Int)(n9:List cq)(n10:List bQ)(m:List (ag×Int))(h:n10.length≤1000000):
 BL FF c br gs last tb l n7 n8 n9 n10 m=some n10:=by
 unfold BL Em EA
 rw[show decide (n10.length≤bm)=true from Y4 (by unfold bm;omega)];rfl
theorem RC(a:dP)(c:List Int)(br:Bool)(gs:List (Int×aa))(last:Int)(tb:Bool)(l:List bj)(n7 n8:List Int)(n9:List cq)(n10:List bQ)(m:List (ag×Int))(h:n10.length≤1000000)(ha: -9223372036854775808≤a.Id):
 cr (BF FF a c br gs last tb l n7 n8 n9 n10 m) fun _=>True:=by
 unfold BF
 refine tO (S9 c br gs last tb l n7 n8 n9 n10 m h) ?_
 rw[Yb]
 refine tB (Q:=fun t=>t=true→a.Id≤0∧0<n10.length) (tT (fun q=>.ret fun e=>⟨q,by have:=YI e;omega⟩) fun _=>.ret (by simp)) fun t _ ht=>tB (Q:=fun _=>True) (tC (fun e=>?_) fun _=>.ret trivial) fun _ _ _=>.ret trivial
 obtain⟨h1,h2⟩:=ht e
 refine tB (Q:=fun n=>0≤n) (tC (fun _=>.ret (by decide)) fun e=>.ret ?_) fun n _ hn=>?_
 ·have e:a.Id≠0:=by simpa using e
  rw[dh (x:=a.Id+1) (by omega) (by omega),dh (by omega) (by omega)];omega
 ·have t0:0≤Int.tmod n (n10.length:Int):=Int.tmod_nonneg _ hn
  have t1:Int.tmod n (n10.length:Int)<(n10.length:Int):=Int.tmod_lt_of_pos _ (by omega)
  exact tG (by omega) (tG t0 (tE (by omega) fun _ _ _=>tE (by omega) fun _ _ _=>.ret trivial))
def tP(i:Int):List Int→Nat
 | []=>0
 |c::r=>if c=i then 0 else tP i r+1
theorem JE{i:Int}:∀{l:List Int} {k:Nat},l[k]? =some i→(∀j,j<k→l[j]? ≠some i)→tP i l=k
 | [],k,h,_=>by simp at h
 |c::r,0,h,_=>by simp at h;simp only[tP,if_pos h]
 |c::r,k+1,h,g=>by
  have h0:=g 0 (by omega)
  simp only[List.getElem?_cons_zero,ne_eq,Y2]at h0
  simp only[tP,if_neg h0]
  rw[JE (by simpa using h) fun j hj=>by have:=g (j+1) (by omega);simpa using this]
theorem CF.ix{ah:List Int}(h:CF ah){k:Nat}{i:Int}(e:ah[k]? =some i):tP i ah=k:=JE e fun j hj q=>by
 have:=h.ok.lt (k-j-1) j i i q (by rw[←e];congr 1;omega)
 omega
theorem GV.EW{ah:List Int}{b:Nat}{P Q:Int→aa→Prop}{c:List Int}{gs:List (Int×aa)}{l:List bj}{n7 n8:List Int}{n9:List cq}{n10:List bQ}(h:GV ah b P c gs l n7 n8 n9 n10)(hq:∀i x,ak i gs=some x→i∈ah→Q i x):GV ah b Q c gs l n7 n8 n9 n10:=⟨h.cc,fun i x e=>⟨(h.nd i x e).1,hq i x e (h.nd i x e).1⟩,h.nt,h.ld,h.pk⟩
structure VL(ah:List Int)(a:dP)(e:Int)(gs:List (Int×aa))(k:Nat)(jx:List iN)(fl:List Bool):Prop where
 wl:jx.length=ah.length
 lf:fl.length=ah.length
 nd:∀j i w f x,ah[j]? =some i→jx[j]? =some w→fl[j]? =some f→ak i gs=some x→(j<k→pJ ah w.Term w.bg f x)∧(k≤j→IC ah w.Term w.bg f (a.lR=true∨e=3) (a.Kind=7∧a.Node=i∧e=0) x)
theorem VL.next{ah:List Int}{a:dP}{e:Int}{gs:List (Int×aa)}{k:Nat}{jx jl:List iN}{fl kY:List Bool}(h:VL ah a e gs k jx fl)(hw:jl.length=jx.length)(hf:kY.length=fl.length)(hk:∀i w f x,ah[k]? =some i→jl[k]? =some w→kY[k]? =some f→ak i gs=some x→pJ ah w.Term w.bg f x)(ho:∀j,j≠k→jl[j]? =jx[j]? ∧kY[j]? =fl[j]?):VL ah a e gs (k+1) jl kY:=by
 refine⟨hw.trans h.wl,hf.trans h.lf,fun j i w f x h1 h2 h3 h4=>?_⟩
 by_cases q:j=k
 ·subst q;exact⟨fun _=>hk i w f x h1 h2 h3 h4,fun z=>by omega⟩
 ·obtain⟨o1,o2⟩:=ho j q
  rw[o1]at h2;rw[o2]at h3
  obtain⟨a1,a2⟩:=h.nd j i w f x h1 h2 h3 h4
  exact⟨fun _=>a1 (by omega),fun _=>a2 (by omega)⟩
theorem Sa(ah:List Int)(h7:ah.length≤7)(a:dP)(e:Int)(c:List Int)(br:Bool)(gs:List (Int×aa))(last:Int)(tb:Bool)(m:List (ag×Int))(l:List bj)(n7 n8:List Int)(n9:List cq)(n10:List bQ)(jx:List iN)(fl:List Bool)(h:VL ah a e gs 0 jx fl):
 cr (w7 FF ah a (e,c,br,gs,last,tb,m,l,n7,n8,n9,n10) FF 0 jx fl gs) fun o=>∃jl kY,o=.inr (jl,kY,gs)∧VL ah a e gs ah.length jl kY:=by
 have:=dk (fun n (s:Nat×List iN×List Bool)=>w7 FF ah a (e,c,br,gs,last,tb,m,l,n7,n8,n9,n10) n (s.1:Int) s.2.1 s.2.2 gs) (fun s=>s.1≤ah.length∧VL ah a e gs s.1 s.2.1 s.2.2) (fun s=>ah.length-s.1) (fun o=>∃jl kY,o=.inr (jl,kY,gs)∧VL ah a e gs ah.length jl kY) (by
  rintro n ⟨i,jx,fl⟩ ⟨g1,g2⟩ k;simp only at g1 g2 k⊢
  have sv:=g2.wl;have hfl:=g2.lf
  simp only[w7]
  refine tT (fun q=>?_) fun q=>.ret ⟨jx,fl,rfl,by rw[show ah.length=i by omega];exact g2⟩
  have hi:i<ah.length:=by omega
  refine tL (Pr:=fun _=>False) (Ps:=fun z:List iN×List Bool×List (Int×aa)=>z.2.2=gs∧VL ah a e gs (i+1) z.1 z.2.1) ?_ (fun _ h=>h.elim) fun z hz=>?_
  ·refine tG (by omega) (tE (by simp;omega) fun id hid _=>?_)
   rw[Int.toNat_natCast]at hid
   obtain⟨v,e2,hv,N5,OO⟩:=QO id c br gs last tb l n7 n8 n9 n10 m
   refine tO hv ?_
   obtain⟨w,hw⟩:∃w,jx[i]? =some w:=⟨_,Y3 (by omega)⟩
   obtain⟨f,hf⟩:∃f,fl[i]? =some f:=⟨_,Y3 (by omega)⟩
   simp only[Int.toNat_natCast,hw,hf,hid,Y1]
   refine tC (fun q=>?_) fun q=>?_
   ·have q:v.Up=false:=by simpa using q
    refine tB (Q:=fun kY=>∃b,kY=fl.set i b∧(b=false→f=false∧¬(a.lR=true∨e=3))) ?_ fun kY _ sD=>.ret ⟨(fun _ z=>by cases z),fun z hz=>?_⟩
    ·refine tG (by omega) (tC (fun _=>tG (by omega) (.ret ⟨true,rfl,by simp⟩)) fun f0=>tC (fun _=>tG (by omega) (.ret ⟨true,rfl,by simp⟩)) fun a0=>tG (by omega) (.ret ⟨_,rfl,fun b0=>⟨f0,fun z=>?_⟩⟩))
     rcases z with z|z
     ·rw[z]at a0;cases a0
     ·rw[z]at b0;cases b0
    ·obtain⟨b,rfl,hb⟩:=sD
     cases hz
     refine⟨rfl,g2.next rfl (by simp) (fun i' w' f' x h1 h2 h3 h4=>?_) fun j hj=>⟨rfl,V1 (fun z=>hj z.symm)⟩⟩
     rw[hid]at h1;cases h1;simp only at h2 h3;rw[hw]at h2;cases h2
     rw[WV (by omega)]at h3;cases h3
     cases x with
     |inr u=>exact absurd h4 (OO q u)
     |inl d=>
      obtain⟨rs,d1,d2,d3⟩:=(g2.nd i id w f _ hid hw hf h4).2 (Yg _)
      exact⟨rs,d1,d2,fun z=>d3 (hb z).1 (hb z).2⟩
   ·have q:v.Up=true:=by simpa using q
    obtain⟨u,hu,v1,v2,v3⟩:=N5 q
    obtain⟨u1,u2,u3⟩:=(g2.nd i id w f _ hid hw hf hu).2 (Yg _)
    refine tB (Q:=fun t=>t=true→a.Kind=7∧a.Node=id∧e=0) (tC (fun k7=>tG (by omega) (tC (fun kn=>.ret fun k0=>⟨by simpa using k7,by simpa using kn,by simpa using k0⟩) fun _=>.ret (by simp))) fun _=>.ret (by simp)) fun t _ ht=>?_
    refine tL (Pr:=fun _=>False) (Ps:=fun kY:List Bool=>kY=fl∨kY=fl.set i false) (tC (fun t0=>?_) fun _=>.ret ⟨(fun _ z=>by cases z),fun z hz=>by cases hz;exact .inl rfl⟩) (fun _ h=>h.elim) fun kY sD=>?_
    ·obtain⟨r1,r2⟩:=u3 (ht t0)
     refine tB (Q:=fun b=>b=false) (tG (by omega) (tT (fun z=>by omega) fun _=>tG (by omega) (tC (fun f0=>tG (by omega) ?_) fun _=>.ret ?_))) fun b _ hb=>tC (fun z=>by rw[hb]at z;cases z) fun _=>tG (by omega) (.ret ⟨(fun _ z=>by cases z),fun z hz=>by cases hz;exact .inr rfl⟩)
     ·obtain⟨t1,t2⟩:=r1 (by simpa using f0)
      refine tC (fun z=>absurd (show v.Term=w.Term by omega) (by simpa using z)) fun _=>tG (by omega) (tC (fun z=>absurd (show v.bg=w.bg by omega) (by simpa using z)) fun _=>.ret ?_)
      rw[v3,r2];rfl
     ·rw[v3,r2];rfl
    ·refine tG (by omega) (tT (fun z=>by omega) fun _=>tG (by omega) (.ret ⟨(fun _ z=>by cases z),fun z hz=>?_⟩))
     cases hz
     refine⟨rfl,g2.next (by simp) (by rcases sD with rfl|rfl<;>simp) (fun i' w' f' x h1 h2 h3 h4=>?_) fun j hj=>⟨V1 (fun z=>hj z.symm),sD.elim (fun q=>by rw[q]) fun q=>by rw[q];exact V1 (fun z=>hj z.symm)⟩⟩
     rw[hid]at h1;cases h1;simp only at h2
     rw[WV (by omega)]at h2;cases h2
     rw[hu]at h4;cases h4;exact⟨u1,v1.symm,v2.symm⟩
  ·obtain⟨z1,z2,z3⟩:=z
   obtain⟨rfl,hz⟩:=hz
   rw[w1 (by omega)]
   exact k (i+1,z1,z2) ⟨by simp only;omega,hz⟩ (by simp only;omega)) FF (0,jx,fl) ⟨YC _,h⟩ (by simp only[FF];omega)
 exact this
abbrev IA:=(List Int)×Bool×(List (Int×aa))×Int×Bool×(List (ag×Int))×(List bj)×(List Int)×(List Int)×(List cq)×(List bQ)
def VK(ah:List Int)(gs:List (Int×aa))(jx:List iN)(fl:List Bool):Prop:=jx.length=ah.length∧fl.length=ah.length∧∀(j:Nat) (i:Int) (w:iN) (f:Bool) (x:aa),ah[j]? =some i→jx[j]? =some w→fl[j]? =some f→ak i gs=some x→pJ ah w.Term w.bg f x
def IE(ah:List Int)(b:Nat)(P:Int→aa→Prop)(s:IA):Prop:=Np ah b P (0,s)
theorem R'(ah:List Int)(eL:CF ah)(script:List dP)(hs:∀a,a∈script→ -9223372036854775808≤a.Id)(s0:IA)(jx:List iN)(fl:List Bool)(h:IE ah 0 (fun _ _=>True) s0)(hk:VK ah s0.2.2.1 jx fl):
 cr (w6 FF ah script FF 0 s0.1 s0.2.1 jx fl s0.2.2.1 s0.2.2.2.1 s0.2.2.2.2.1 s0.2.2.2.2.2.2.1 s0.2.2.2.2.2.2.2.1 s0.2.2.2.2.2.2.2.2.1 s0.2.2.2.2.2.2.2.2.2.1 s0.2.2.2.2.2.2.2.2.2.2 s0.2.2.2.2.2.1) fun o=>o=.inr ():=by
 have h7:=eL.ok.n7
 have:=dk (fun n (s:Nat×IA×List iN×List Bool)=>w6 FF ah script n (s.1:Int) s.2.1.1 s.2.1.2.1 s.2.2.1 s.2.2.2 s.2.1.2.2.1 s.2.1.2.2.2.1 s.2.1.2.2.2.2.1 s.2.1.2.2.2.2.2.2.1 s.2.1.2.2.2.2.2.2.2.1 s.2.1.2.2.2.2.2.2.2.2.1 s.2.1.2.2.2.2.2.2.2.2.2.1 s.2.1.2.2.2.2.2.2.2.2.2.2 s.2.1.2.2.2.2.2.1)
  (fun s=>s.1≤400∧IE ah (s.1*4097) (fun _ _=>True) s.2.1∧VK ah s.2.1.2.2.1 s.2.2.1 s.2.2.2) (fun s=>400-s.1) (fun o=>o=.inr ()) (by
  rintro n ⟨i,⟨c,br,gs,last,tb,m,l,n7,n8,n9,n10⟩,jx,fl⟩ ⟨g1,⟨hG,hm⟩,sv,hfl,I1⟩ k;simp only at g1 hG hm sv hfl I1 k⊢;simp only[w6]
  have hp:=hG.pk.1
  refine tB (Q:=fun t=>t=true→i<script.length∧i<400) (tT (fun q=>.ret fun e=>⟨by omega,by have:=YI e;omega⟩) fun _=>.ret (by simp)) fun t _ ht=>tC (fun e=>?_) fun e=>.ret rfl
  obtain⟨q1,q2⟩:=ht e
  refine tL (Pr:=fun _=>False) (Ps:=fun z:(List Int)×Bool×(List iN)×(List Bool)×(List (Int×aa))×Int×Bool×(List bj)×(List Int)×(List Int)×(List cq)×(List bQ)×(List (ag×Int))=>IE ah ((i+1)*4097) (fun _ _=>True) (z.1,z.2.1,z.2.2.2.2.1,z.2.2.2.2.2.1,z.2.2.2.2.2.2.1,z.2.2.2.2.2.2.2.2.2.2.2.2,z.2.2.2.2.2.2.2.1,z.2.2.2.2.2.2.2.2.1,z.2.2.2.2.2.2.2.2.2.1,z.2.2.2.2.2.2.2.2.2.2.1,z.2.2.2.2.2.2.2.2.2.2.2.1)∧VK ah z.2.2.2.2.1 z.2.2.1 z.2.2.2.1) ?_ (fun _ h=>h.elim) fun z hz=>?_
  ·refine tG (by omega) (tE (by simp;omega) fun a _ ha=>tB (RC a c br gs last tb l n7 n8 n9 n10 m (by omega) (hs a ha)) fun a' _ _=>?_)
   have O6:GV ah (i*4097) (VP ah (fun id=>((jx[tP id ah]?).map (·.Term)).getD 0) (fun id=>((jx[tP id ah]?).map (·.bg)).getD 0) (fun id=>(fl[tP id ah]?).getD false)) c gs l n7 n8 n9 n10:=hG.EW fun id x hx hid=>by
    obtain⟨j,hj,ej⟩:=Wg hid
    have ej:ah[j]? =some id:=by rw[Y3 hj,ej]
    obtain⟨w,hw⟩:∃w,jx[j]? =some w:=⟨_,Y3 (by omega)⟩
    obtain⟨f,hf⟩:∃f,fl[j]? =some f:=⟨_,Y3 (by omega)⟩
    unfold VP;simp only[eL.ix ej,hw,hf,Yo,Yv];exact I1 j id w f x ej hw hf hx
   refine tB (Gd (a:=a') (br:=br) (last:=last) (tb:=tb) eL (by omega) O6 hm) fun y _ hd=>?_
   obtain⟨e,c1,Pn,F6,pT,NF,m1,l1,a7,a8,a9,Jy⟩:=y
   obtain⟨d1,d2⟩:=hd
   simp only at d1 d2⊢
   refine tL (Pr:=fun _=>False) (Ps:=fun z:List iN×List Bool×List (Int×aa)=>z.2.2=F6∧VK ah F6 z.1 z.2.1) ((Sa ah h7 a' e c1 Pn F6 pT NF m1 l1 a7 a8 a9 Jy jx fl ⟨sv,hfl,fun j id w f x h1 h2 h3 h4=>⟨fun q=>by omega,fun _=>?_⟩⟩).mono fun o ho=>?_) (fun _ h=>h.elim) fun z hz=>.ret ⟨(fun _ z=>by cases z),fun z' hz'=>?_⟩
   ·have:=(d1.nd id x h4).2
    unfold VW at this;simp only[eL.ix h1,h2,h3,Yo,Yv]at this;exact this
   ·obtain⟨jl,kY,rfl,hv⟩:=ho
    exact⟨(fun _ z=>by cases z),fun z hz=>by cases hz;exact⟨rfl,hv.wl,hv.lf,fun j id w f x h1 h2 h3 h4=>(hv.nd j id w f x h1 h2 h3 h4).1 (by
     have:=(Wo.1 h1).1;omega)⟩⟩
   ·obtain⟨z1,z2,z3⟩:=z
    obtain⟨e3,zp⟩:=hz
    simp only at e3 zp;subst e3;cases hz'
    exact⟨⟨(d1.map fun _ _ _ _=>trivial).mono (by omega),by have:=d2;simp only;omega⟩,zp⟩
  ·obtain⟨c,br,jl,kY,gs,last,tb,l,n7,n8,n9,n10,m⟩:=z
   obtain⟨z1,z2⟩:=hz
   rw[w1 (by omega)]
   exact k (i+1,(c,br,gs,last,tb,m,l,n7,n8,n9,n10),jl,kY) ⟨by simp only;omega,z1,z2⟩ (by simp only;omega)) FF (0,s0,jx,fl) ⟨YC _,by simpa using h,hk⟩ (by simp only[FF];omega)
 exact this
theorem Uy:D4 FF=some true:=by kernel_rfl
theorem U7(ah:List Int)(script:List dP)(hc:∀x,x∈ah→x<9223372036854775808)(hs:∀a,a∈script→ -9223372036854775808≤a.Id):yH FF ah script=some true:=by
 suffices h:cr (yH FF ah script) fun b=>b=true by
  obtain⟨b,e,rfl⟩:=h;exact e
 unfold yH
 refine tO Uy ?_
 simp only[W4,Y8]
 refine tB (ze ah hc) fun o _ h=>?_
 rcases o with y|y
 ·simp only[Sum.elim_inl]
  have hn:=h.1 y rfl
  refine tB (Sm ah) fun b _ hb=>.ret ?_
  cases b with
  |false=>rfl
  |true=>exact absurd (hb rfl) hn
 ·obtain⟨gs,rfl,eL,hg⟩:=h.2 y rfl
  have h7:=eL.ok.n7
  simp only[Sum.elim_inr]
  refine tG (YQ _) (tG (by unfold bm;omega) (tG (YQ _) (tG (by unfold bm;omega) ?_)))
  rw[Yb,Int.toNat_natCast]
  refine tB (R' ah eL script hs (ah,false,gs,0,false,[],[],[0],[0],[],[]) _ _ ⟨⟨rfl,fun i x e=>⟨(hg i x e).1,trivial⟩,⟨by simp,rfl,rfl⟩,by simp,by simp,fun p hp=>by cases hp⟩,by simp⟩ ⟨WJ,WJ,fun j i w f x h1 h2 h3 h4=>?_⟩) fun o _ ho=>?_
  ·have e1:=WO (YA h2)
   have e2:=WO (YA h3)
   subst e1 e2;exact(hg i x h4).2
  ·subst ho;exact .ret rfl
theorem UX(ah:List Int)(script:List dP)(hc:ah.length≤1048576∧∀y,y∈ah→dX IntKind.i64 y)(hs:script.length≤1048576∧∀y,y∈script→dP.ok 1048576 y):yH FF ah script=some true:=
 U7 ah script (fun x hx=>by have:=(J5 (hc.2 x hx)).2;omega) fun a ha=>by
  obtain⟨-, -, -, -,h, -⟩:=hs.2 a ha
  exact(J5 h).1
end Go.T
