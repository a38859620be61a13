import Derived.Test.YtjpmdkgonlmddaaGreatDoorAbI
import Derived.Shelf.Spec.SlicesInsert
import Derived.Lib.AppendZerosOnto
import Derived.Lib.Overlaps
import Derived.Laws.NewBlocks
import Derived.Test.YtjpmdkgonlmddaaGreatDoorAbJ
set_option linter.unusedVariables false
namespace Go.Ab
open Go.Proofs
theorem UL{P:Program}(w:World)(t e ty:TypeId)(i:TypeInfo)(z:Value)(ht:P.underlying t=some (.slice e))(hi:P.info? e=some i)(hz:i.zero=some z)(b o c:Nat)(zs:List Value)
 (hzs:(Builtin.zeroCells z.cells 1).toList=zs) (h1:∀v∈zs,v.oneCell'=true)
 (hc:∀j,j<zs.length→(w.cell? ⟨b,o+j,none⟩).isSome=true) (hf:∀j,j<zs.length→w.frozen? ⟨b,o+j,none⟩=false):
 (Builtin.clear_ #[t] ty #[.slice (some ⟨b,o,none⟩) 1 c]).run P w=.ok (.tuple #[]) (w.setCells b o zs):=by
 have hst:=V0 (P:=P) b o zs 0 w (by omega) (by omega) h1
 simp only[Nat.add_zero]at hst;simp[Builtin.clear_,Y6 ht,zeroValue,typeInfo,hi,hz,hzs,hst]
theorem Sv{S0:Nat→Prop}{ι0:ax}{w0 w':World}{oin:Os}{k z:Nat}{p:Bool}{R:List (List AV)}{us:List Value}{L:Loc}{cap:Nat}
 (hs0:∀b,S0 b→b<w0.heap.size) (hι:∀o,oin.length≤o→ι0 o=none) (hk:oin.length≤k) (Fy:k<W)
 (hfr:Fr (dx w0 ι0 oin) w0 w') (jn:dx w0 ι0 oin L.bd) (hS:¬S0 L.bd) (hlt:L.bd<w'.heap.size)
 (hcnt:R.length=L.dO) (hm:kr w' L) (hF:Flat p S0 w' ι0 L.bo R us) (hc:∀(j:Nat) v,us[j]? =some v→eY w' L.bd (L.base+j)=some v)
 (h1:R.length≤cap) (h2:L.base+cap*L.bo≤L.size) (h3:R.length≤bm) (h0:R.length=0→L.bo=z):
 ∃v S' ι',Ending.returned (.slice (some ⟨L.bd,L.base,none⟩) R.length cap)=.returned v∧Fr (dx w0 ι0 oin) w0 w'∧
  (∀b,S' b→(S0 b∨dx w0 ι0 oin b)∧b<w'.heap.size)∧(∀b,S0 b→S' b)∧ι0.le ι'∧(∀o,W≤o→ι' o=none)∧
  bP S' w' ι' (.an k z) v∧jG (dx w0 ι0 oin) S' w' ι' (lk [(k,.rows p R)]):=by
 have hle:ι0.le (fun o=>if o=k then some (some L)else ι0 o):=fun o x e=>by
  grind
 have hlk:∀o x,lk [(k,AO.rows p R)] o=some x→o=k∧x=.rows p R:=fun o x h=>by
  simp only[lk]at h;simp_all
 have FD:(fun o=>if o=k then some (some L)else ι0 o) k=some (some L):=by simp
 refine⟨_,S0,_,rfl,hfr,fun b hb=>⟨.inl hb,Wr (hs0 b hb) hfr.size⟩,fun _ h=>h,hle,fun o ho=>?_,?_,⟨?_,?_,?_⟩⟩
 ·grind
 ·have hR:bP S0 w' (fun o=>if o=k then some (some L)else ι0 o) (.an k z) (.slice (some ⟨L.bd,L.base,none⟩) L.dO cap):=
   bP.an k z cap _ _ FD (by omega) h2 (by omega) (fun h _=>h0 (by omega)) (fun _=>rfl)
  simp_all
 ·intro o x hx
  obtain⟨rfl,rfl⟩:=hlk o x hx
  have rz:=hF.mono (fun _ h=>h) (fun _ _=>rfl) hle
  refine .inr ⟨L,_,FD,hcnt,hm,rz.at hc ?_,rz.rows⟩
  have:R.length*L.bo≤cap*L.bo:=Yr _ h1
  omega
 ·intro o x hx _ l hl b hb
  obtain⟨rfl,rfl⟩:=hlk o x hx
  have dJ:=FD.symm.trans hl;injection dJ with hl;injection hl with hl;subst hl
  obtain rfl:=iw rfl hb
  simp_all
 grind
theorem LX{Ow:Nat→Prop}{w0 w:World}(h:Fr Ow w0 w){b:Nat}(hb:Ow b)(o:Nat)(vs:List Value):Fr Ow w0 (w.setCells b o vs):=by
 have hs:=xZ w b vs o
 refine⟨?_,?_,by rw[hs];exact h.size,fun c hc hn=>?_⟩
 ·rw[←h.os];exact World.os_setCells w b o vs
 ·rw[←h.output];exact World.output_setCells w b o vs
 ·rw[Wx w b o vs (Wr hc h.size) (fun e=>hn (e▸hb))]
  exact h.old c hc hn
structure uW(P:Program)(f:Nat)(sz:Nat):Prop where
 call:eF P f=true
 del:∀(b off n c i:Nat) (cs:List Value) (w:World),i<n→n≤c→n≤bm→cs.length=n*sz→(∀(j:Nat) v,cs[j]? =some v→w.cell? ⟨b,off+j,none⟩=some v)→
  (∀j,j<n*sz→w.frozen? ⟨b,off+j,none⟩=false)→(∀v∈cs,v.oneCell'=true)→
  Calls P f #[.slice (some ⟨b,off,none⟩) n c,.int .i64 i,.int .i64 ((i:Int)+1)] w fun e w'=>
   ∃zs:List Value,e=.returned (.slice (some ⟨b,off,none⟩) (n-1) c)∧zs.length=sz∧w'=(w.drew.setCells b (off+i*sz) (cs.drop ((i+1)*sz))).setCells b (off+(n-1)*sz) zs
theorem QY{p:Bool}{S:Nat→Prop}{w:World}{ι:ax}{sz:Nat}{s:List (List AV)}{us:List Value}{i:Nat}(h:Flat p S w ι sz s us)(hi:i<s.length):
 Flat p S w ι sz (s.take i++s.drop (i+1)) (us.take (i*sz)++us.drop ((i+1)*sz)):=by
 have hfl:∀(rs:List (List AV)) (i:Nat),(∀r,r∈rs→r.length=sz)→i≤rs.length→(rs.take i).flatten=rs.flatten.take (i*sz)∧(rs.drop i).flatten=rs.flatten.drop (i*sz):=by
  intro rs
  induction rs with
  |nil=>simp
  |cons r rs ih=>
   intro i hl hi
   cases i with
   |zero=>simp
   |succ i=>
    have hr:=hl r (by simp)
    obtain⟨h1,h2⟩:=ih i (fun r hr=>hl r (by simp[hr])) (by simp_all)
    have e:(i+1)*sz=r.length+i*sz:=by rw[YT,hr];omega
    refine⟨?_,?_⟩
    ·grind
    ·rw[List.drop_succ_cons,List.flatten_cons,h2,e,List.drop_length_add_append]
 have hp:Flat p S w ι sz (s.take i) (us.take (i*sz)):=by
  refine⟨fun r hr=>h.rl r (YN hr),?_,fun v hv=>h.one v (YN hv),?_⟩
  ·rw[YD,YD,h.len,W0 (WH hi),W0 (Yr _ (WH hi))]
  ·rw[(hfl s i h.rl (WH hi)).1];exact h.rep.take _
 have hd:Flat p S w ι sz (s.drop (i+1)) (us.drop ((i+1)*sz)):=by
  refine⟨fun r hr=>h.rl r (Wm hr),?_,fun v hv=>h.one v (Wm hv),?_⟩
  ·rw[YH,YH,h.len,Nat.sub_mul]
  ·rw[(hfl s (i+1) h.rl hi).2];exact h.rep.drop _
 have:=hp.append hd
 simp_all
theorem Se{P:Program}{G:db}{f:Nat}{sz:Nat}{s:List (List AV)}{p:Bool}{i:Nat}(hI:uW P f sz)(hsz:1<sz)(hs:∀r,r∈s→r.length=sz)
 (hi:i<s.length):FC P G f [(0,.rows p s)] [.an 0 sz,.int .i64 i,.int .i64 ((i:Int)+1)] (.an 1 sz) [(1,.rows p (s.take i++s.drop (i+1)))]:=by
 refine⟨hI.call,fun o x hx=>?_,fun S0 ι0 w0 vs hs0 hG hob hι hL'=>?_⟩
 ·have:=sV hx
  simp only[Ys,Wv]at this;rw[this.1];unfold W;omega
 obtain⟨vs⟩:=vs
 obtain⟨hlen,hrep⟩:=hL'
 match vs,hlen with
 | [v0,v1,v2],_=>
  have r0:=hrep 0 _ v0 rfl rfl
  obtain rfl:=(hrep 1 _ v1 rfl rfl).bu
  obtain rfl:=(hrep 2 _ v2 rfl rfl).bu
  rcases kp r0 with ⟨l,a,cap,q0,rfl,b1,b2,b3,bz,ba⟩|⟨q0,a,rfl⟩
  ·rcases hob.ob 0 (.rows p s) rfl with ⟨h,_⟩|⟨l',vals,u6,CG,hm,hat,xm⟩
   ·simp_all
   rw[q0]at u6;injection u6 with u6;injection u6 with u6;subst u6
   obtain⟨us,hF,hv0⟩:=Dz hat xm 0 s.length (by omega)
   simp only[Vf,Wl,Vb,Nat.add_zero]at hF hv0
   obtain rfl:=ba (by omega)
   have sE:l.bo=sz:=by
    obtain⟨r,hr⟩:=Wy s (fun h=>by simp_all)
    exact(hF.rl r hr).symm.trans (hs r hr)
   rw[sE]at hF
   have I3:=hF.len
   have hOw:dx w0 ι0 [(0,.rows p s)] l.bd:=.inr ⟨0,.rows p s,l,rfl,rfl,q0,.inl rfl⟩
   obtain⟨_,On,hlt⟩:=hob.own 0 (.rows p s) rfl rfl l q0 _ (.inl rfl)
   rw[←CG];rw[←CG]at b1 b3;rw[sE]at b2
   have hfz:∀j,w0.frozen? ⟨l.bd,j,none⟩=false:=fun j=>(hm j).2 (.inr (by omega))
   have qa:s.length*sz≤cap*sz:=Yr _ b1
   have hi2:(i+1)*sz=i*sz+sz:=by rw[YT];omega
   have hi3:(i+1)*sz≤s.length*sz:=Yr _ hi
   have hi4:(s.length-1)*sz=s.length*sz-sz:=by rw[Nat.sub_mul];omega
   have hsome:∀j,j<s.length*sz→(w0.cell? ⟨l.bd,l.base+j,none⟩).isSome=true:=fun j hj=>by
    simp_all
   refine(hI.del l.bd l.base s.length cap i us w0 hi b1 b3 I3 hv0 (fun j _=>hfz _) hF.one).mono ?_
   rintro e' w' ⟨zs,rfl,hzl,rfl⟩
   have hfr1:Fr (dx w0 ι0 [(0,.rows p s)]) w0 w0.drew:=⟨rfl,rfl,Yg _,fun _ _ _=>rfl⟩
   have hfr:=LX (LX hfr1 hOw (l.base+i*sz) (us.drop ((i+1)*sz))) hOw (l.base+(s.length-1)*sz) zs
   have Fv:kr w0.drew l:=hm
   have jh:=(Fv.setCells (l.base+i*sz) (us.drop ((i+1)*sz))).setCells (l.base+(s.length-1)*sz) zs
   have hsame:fz S0 w0 ((w0.drew.setCells l.bd (l.base+i*sz) (us.drop ((i+1)*sz))).setCells l.bd (l.base+(s.length-1)*sz) zs):=fun b hb=>hfr.old b (hs0 b hb) (fun hO=>by
    rcases hO with h|⟨o,x,l',t1,t2,t3,t4⟩
    ·grind
    ·exact(hob.own o x t1 t2 l' t3 b t4).2.1 hb)
   have CK:=QY (hF.mono (fun _ h=>h) hsame (ax.le_refl _)) hi
   have O2:(s.take i++s.drop (i+1)).length=s.length-1:=by
    simp only[Ya,YD,YH];omega
   have hw1:(w0.drew.setCells l.bd (l.base+i*sz) (us.drop ((i+1)*sz))).heap.size=w0.heap.size:=(xZ _ _ _ _).trans rfl
   have:=Sv (k:=1) (z:=sz) (cap:=cap) (L:=⟨l.bd,l.base,sz,l.size,s.length-1⟩) hs0 hι (by simp) (by unfold W;omega) hfr hOw On (by
    show l.bd<_;rw[xZ,hw1];exact hlt)
    O2 (fun j=>⟨(jh j).1,fun h=>(jh j).2 (by omega)⟩) CK (fun j v hv=>?_) (by omega) (by omega) (by omega) (fun _=>rfl)
   ·simp_all
   ·have hj:=eZ hv
    have xk:(us.take (i*sz)).length=i*sz:=by rw[YD];omega
    have hdl:(us.drop ((i+1)*sz)).length=s.length*sz-(i+1)*sz:=by rw[YH];omega
    rw[Ya,xk,hdl]at hj
    show((w0.drew.setCells _ _ _).setCells _ _ _).cell? ⟨l.bd,l.base+j,none⟩=_
    rw[Wa _ _ _ _ _ (fun _ _=>.inl (by grind))]
    by_cases c1:j<i*sz
    ·rw[Wa _ _ _ _ _ (fun _ _=>.inl (by simp_all))]
     rw[Yt (by omega),W8,if_pos c1]at hv
     simp_all
    ·rw[Yf (by omega),xk]at hv
     have OD:=eZ hv
     have:=WE l.bd (us.drop ((i+1)*sz)) (l.base+i*sz) w0.drew (fun t ht=>by
      rw[WB];exact hsome _ (by omega)) (j-i*sz) OD
     grind
  ·rcases hob.ob 0 (.rows p s) rfl with ⟨_,h⟩|⟨l',vals,u6,_⟩
   all_goals simp_all
theorem PT{P:Program}{G:db}{f:Nat}{fn:Func}{c:Code}{args:List AV}{rv:AV}(fuel:Nat)(hf:P.funcs[f]? =some fn)(hb:fn.body=some c)
 (hn:eF P f=true) (hm:P.follows .mixedOrders=true) (hsz:args.length≤fn.ntmps)
 (h:dL P G ⟨0,fn.ntmps,false⟩ 0 (sN P fn.results.toList fun r=>Wk r rv) fuel [.code c] (gV args 0) [] W):FC P G f [] args rv []:=by
 refine⟨hn,fun o x hx=>by simp[lk]at hx,fun S0 ι0 w0 vs h0 hG hob hι hL=>?_⟩
 have him:∀j L,ι0 j=some L→j<([]:Os).length:=fun j L e=>by simp_all
 have hinv:=Hu (fn:=fn) hsz h0 hG hob hι (YC _) him hL
 refine Hz hm hf hb ⟨rfl,rfl⟩ hinv h ?_
 intro N dfs qb g os hfin S ι un a w hi
 obtain⟨rs,hrs,h2⟩:=bh hfin
 obtain⟨rv',hrv,h3⟩:=bh h2
 rw[lb]at h3
 obtain⟨v,hv1,hv2⟩:=HT (P:=P) hi hrs
 have hcl:=wk hi.ob 8 _ _ _ hv2 hrv
 have hR:∃v' S' ι',Ending.returned v=.returned v'∧Fr (dx w0 ι0 []) w0 w∧(∀b,S' b→(S0 b∨dx w0 ι0 [] b)∧b<w.heap.size)∧(∀b,S0 b→S' b)∧ι0.le ι'∧
  (∀o,W≤o→ι' o=none)∧bP S' w ι' rv v'∧jG (dx w0 ι0 []) S' w ι' (lk []):=by
  refine⟨v,SV S ι (cz g os).os (os.map (·.1)),ι0,rfl,hi.fr,fun b hb=>⟨?_,mH hi _ b hb⟩,?_,ax.le_refl _,fun o _=>hι o (YC _),.bI _ _ (h3.vc _ hcl),
   ⟨fun o x hx=>by simp[lk]at hx,fun o x hx=>by simp_all,fun o o' x x' hx=>by simp_all⟩⟩
  ·rcases hb with hb|⟨o,x,l,_,hx,hl,rfl⟩
   ·exact hi.sn b hb
   ·by_cases hlv:x.live=true
    ·exact .inr (hi.own o x hx hlv l hl _ (.inl rfl)).1
    ·have hob2:=hi.ob o x hx
     cases x with
     |cT rs=>
      rcases hob2 with ⟨q,_⟩|⟨l',vals,q,_,hS,_⟩
      ·simp_all
      ·rw[q]at hl;injection hl with hl;injection hl with hl;subst hl
       exact hi.sn _ hS
     |rows p rs=>exact absurd rfl hlv
     |aw p es=>exact absurd rfl hlv
     |bL z fs hh=>exact absurd rfl hlv
     |bK es hh=>exact absurd rfl hlv
     |lit rs=>exact absurd rfl hlv
  ·exact fun b hb=>.inl (hi.s0 b hb)
 simp_all
abbrev aI(n:Int):AV:=.int .i64 n
theorem oL{a b:Prop}(h:a):a∨b:=.inl h
theorem bC{b:Bool}{α:Type}{X Y:Option α}{r:α}{A B:Prop}(h:cond b X Y=some r)(h1:b=true→X=some r→A)(h2:b=false→Y=some r→B):sR b A B:=
 gU (fun hb=>h1 hb (qH h hb)) (fun hb=>h2 hb (qF h hb))
theorem oG{α:Type}{c:α→List AV}{L:List α}{i:Nat}{y:α}{K:List AV→Prop}(h:L[i]? =some y)(k:K (c y)):opt ((L.map c)[i]?) K:=fm (c y) (na rfl h) k
theorem eI{m:Nat}{R:Prop}{gx:Tm}{osx:Os}{nx:Nat}{g':Tm}{os':Os}(σ:List (Nat×Nat))(hR:R:=by first|trivial|rfl)
 (h2:gx.map (fun e=>cd (ap σ) e.2)=gx.map (fun e=>bX g' e.1):=by exact rfl) (h3:osx.map (fun e=>some (cC (ap σ) e.2))=osx.map (fun e=>lk os' (ap σ e.1)):=by exact rfl)
 (h1:(gx.all (fun e=>eS nx e.2)&&osx.all (fun e=>decide (e.1<nx)&&cE nx e.2)&&decide ((osx.map fun e=>ap σ e.1).Nodup)&&decide (m≤nx)&&(List.range m).all (fun j=>ap σ j==j))=true:=by exact rfl):
 R∧∃σ,jL m g' os' σ gx osx nx:=nZ hR σ h2 h3 h1
theorem gI{m:Nat}{rv:AV}{os':Os}{v:AV}{os:Os}(σ:List (Nat×Nat))(h2:cd (ap σ) rv=v:=by exact rfl)
 (h3:os'.map (fun e=>some (cC (ap σ) e.2))=os'.map (fun e=>lk os (ap σ e.1)):=by exact rfl)
 (h1:(eS W rv&&os'.all (fun e=>decide (e.1<W)&&cE W e.2)&&decide ((os'.map fun e=>ap σ e.1).Nodup)&&decide (m≤W)&&(List.range m).all (fun j=>ap σ j==j))=true:=by exact rfl):
 jd m rv os' v os:=kG σ h2 h3 h1
variable {A B R:Prop}{G:db}{K:AV→List (Nat×Option AO)→List Nat→Prop}{P:Program}{args bD jF:List AV}{body:(Tm→Os→Nat→Prop)→Prop}{f id m nx:Nat}{g' gx:Tm}{oin:List (Nat×AO)}{ol:Nat→Option AO}{os os' osx:Os}{rv:AV}{α β:Type}
theorem jU{a b:List (List AV)}{p:Bool}(h:a=b):some (AO.rows p a)=some (AO.rows p b):=by rw[h]
theorem rQ{a b:α}(h:a=b:=by first|rfl|(simp;done)|(rw[Yd];rfl)|exact cP|exact cO|exact cM|(simp only[YX];rfl)|(simp[dE];done)|(simp only[dE,Sum.elim_inr,id,Yd,YP];rfl)):a=b:=h
theorem bS{b b':Bool}{X Y:Option α}{r:α}(h:cond b' X Y=some r)(h1:X=some r→A)(h2:Y=some r→B)
 (e1:b=true→b'=true:=by intro hb;first|exact hb|(simp;done)|simpa using hb|simpa[chunk]using hb|(simp[chunk]at hb⊢;omega))
 (e2:b=false→b'=false:=by intro hb;first|exact hb|(simp;done)|simpa using hb|simpa[chunk]using hb|(simp[chunk]at hb⊢;omega)):sR b A B:=
 gU (fun hb=>h1 (qH h (e1 hb))) (fun hb=>h2 (qF h (e2 hb)))
theorem bT{b b':Bool}{Y:Option α}{r:α}(h:cond b' none Y=some r)(h2:Y=some r→B)
 (e1:b=true→b'=true:=by intro hb;first|exact hb|(simp;done)|simpa using hb|simpa[chunk]using hb|(simp[chunk]at hb⊢;omega))
 (e2:b=false→b'=false:=by intro hb;first|exact hb|(simp;done)|simpa using hb|simpa[chunk]using hb|(simp[chunk]at hb⊢;omega)):sR b A B:=
 gU (fun hb=>by simp_all) (fun hb=>h2 (qF h (e2 hb)))
theorem bF{b b':Bool}{X:Option α}{r:α}(h:cond b' X none=some r)(h1:X=some r→A)
 (e1:b=true→b'=true:=by intro hb;first|exact hb|(simp;done)|simpa using hb|simpa[chunk]using hb|(simp[chunk]at hb⊢;omega))
 (e2:b=false→b'=false:=by intro hb;first|exact hb|(simp;done)|simpa using hb|simpa[chunk]using hb|(simp[chunk]at hb⊢;omega)):sR b A B:=
 gU (fun hb=>h1 (qH h (e1 hb))) (fun hb=>by simp_all)
theorem gS{p q:Prop}{_:Decidable q}{X:Option α}{r:α}{b:Prop}(h:cond (decide q) X none=some r)(k:X=some r→b)
 (e:q→p:=by intro hg;first|exact hg|(simp;done)|simpa using hg|simpa[chunk]using hg|(simp[chunk]at hg⊢;omega)):p∧b:=
 ⟨e (dA h).1,k (dA h).2⟩
theorem gX{q:Prop}{_:Decidable q}{X:Option α}{r:α}{b:Prop}(h:cond (decide q) X none=some r)(k:X=some r→b):q∧b:=⟨(dA h).1,k (dA h).2⟩
theorem aX{a b:Prop}(k:b)(h:a:=by first|exact dU.map (fun _=>rfl)|exact dU.cons rfl dU.nil|exact dU.nil|exact W5 rfl|kernel_rfl|decide|trivial|exact⟨by kernel_rfl,_,rfl⟩):a∧b:=⟨h,k⟩
theorem oB{c:α→List AV}{L:List α}{i:Nat}{g:α→Option β}{r:β}{X:List (List AV)}{K:List AV→Prop}(h:Option.bind L[i]? g=some r)(k:∀y,g y=some r→K (c y))
 (e:X=L.map c:=by first|exact rfl|(simp;done)|(rw[Yd];rfl)|exact cP|exact cO|exact cM|(simp only[YX];rfl)):opt (X[i]?) K:=by
 obtain⟨y,hy,h⟩:=dS h
 exact fm (c y) (na e hy) (k y h)
theorem cL{X:Option α}{g:α→Option β}{r:β}{rv:α→AV}{Kf:AV→Prop}{Z:AV→Os→Prop}
 (h:Option.bind X g=some r) (c:∀{y},X=some y→FC P G f [] args (rv y) []) (k:∀y,g y=some r→Kf (rv y)) (hf:∀y,flat (rv y)=true:=by exact fun _=>rfl):
 ∃v os,FC P G f [] args v os∧((flat v=true∧os=[]∧Kf v)∨Z v os):=by
 obtain⟨y,hy,h⟩:=dS h
 grind
theorem cR{X:Option α}{g:α→Option β}{r:β}{rv:α→AV}{os':α→Os}{Y:AV→Os→Prop}{A:List Nat→Option (List AV)}{B:AV→Os→List Nat→Prop}
 (h:Option.bind X g=some r) (c:∀{y},X=some y→FC P G f [] args (rv y) (os' y)) (k:∀y,g y=some r→B (rv y) (os' y) []) (hA:A []=some args:=by exact rfl):
 ∃v os,FC P G f [] args v os∧(Y v os∨∃V,A V=some args∧B v os V):=by
 obtain⟨y,hy,h⟩:=dS h
 grind
theorem cG{X:Option α}{g:α→Option β}{r:β}
 {rv:α→AV} {os':α→List (Nat×AO)}
 (V:List Nat) (h:Option.bind X g=some r) (c:∀{y},X=some y→FC P G f oin bD (rv y) (os' y)) (k:∀y,g y=some r→ic (cd (bk V id) (rv y)) fun v=>K v (gm V id (os' y)) V)
 (h1:(decide V.Nodup&&eJ V.length bD&&oin.all fun e=>cE V.length e.2)=true:=by exact rfl) (h2:oin.map (·.1)=List.range V.length:=by exact rfl)
 (h3:oin.map (fun e=>some (cC (bk V id) e.2))=V.map ol:=by first|exact rfl|(repeat' first|exact rfl|refine bZ ?_ ?_|refine jU ?_|(simp;done)|(rw[Yd];rfl)|exact cP|exact cO|exact cM|(simp only[YX];rfl)|(simp[dE];done)|(simp only[dE,Sum.elim_inr,id,Yd,YP];rfl))) (h4:fi (bk V id) bD=jF:=by exact rfl):A∨je P G f jF ol id K:=by
 obtain⟨y,hy,h⟩:=dS h
 exact .inr (uq V (c hy) h1 h2 h3 h4 (k y h))
theorem cH{X:Option α}{g:α→Option β}{r:β}
 {rv:α→AV}
 (V:List Nat) (h:Option.bind X g=some r) (c:∀{y},X=some y→FC P G f oin bD (rv y) oin) (k:∀y,g y=some r→ic (cd (bk V id) (rv y)) fun v=>K v [] V)
 (h1:(decide V.Nodup&&eJ V.length bD&&oin.all fun e=>cE V.length e.2)=true:=by exact rfl) (h2:oin.map (·.1)=List.range V.length:=by exact rfl)
 (h3:oin.map (fun e=>some (cC (bk V id) e.2))=V.map ol:=by first|exact rfl|(repeat' first|exact rfl|refine bZ ?_ ?_|refine jU ?_|(simp;done)|(rw[Yd];rfl)|exact cP|exact cO|exact cM|(simp only[YX];rfl)|(simp[dE];done)|(simp only[dE,Sum.elim_inr,id,Yd,YP];rfl))) (h4:fi (bk V id) bD=jF:=by exact rfl):A∨je P G f jF ol id K:=by
 obtain⟨y,hy,h⟩:=dS h
 exact .inr (JZ V (c hy) h1 h2 h3 h4 (k y h))
theorem cg
 {os':List (Nat×AO)}
 (V:List Nat) (c:FC P G f oin bD rv os') (k:ic (cd (bk V id) rv) fun v=>K v (gm V id os') V)
 (h1:(decide V.Nodup&&eJ V.length bD&&oin.all fun e=>cE V.length e.2)=true:=by exact rfl) (h2:oin.map (·.1)=List.range V.length:=by exact rfl)
 (h3:oin.map (fun e=>some (cC (bk V id) e.2))=V.map ol:=by first|exact rfl|(repeat' first|exact rfl|refine bZ ?_ ?_|refine jU ?_|(simp;done)|(rw[Yd];rfl)|exact cP|exact cO|exact cM|(simp only[YX];rfl)|(simp[dE];done)|(simp only[dE,Sum.elim_inr,id,Yd,YP];rfl))) (h4:fi (bk V id) bD=jF:=by exact rfl):A∨je P G f jF ol id K:=
 .inr (uq V c h1 h2 h3 h4 k)
theorem ch
 (V:List Nat) (c:FC P G f oin bD rv oin) (k:ic (cd (bk V id) rv) fun v=>K v [] V)
 (h1:(decide V.Nodup&&eJ V.length bD&&oin.all fun e=>cE V.length e.2)=true:=by exact rfl) (h2:oin.map (·.1)=List.range V.length:=by exact rfl)
 (h3:oin.map (fun e=>some (cC (bk V id) e.2))=V.map ol:=by first|exact rfl|(repeat' first|exact rfl|refine bZ ?_ ?_|refine jU ?_|(simp;done)|(rw[Yd];rfl)|exact cP|exact cO|exact cM|(simp only[YX];rfl)|(simp[dE];done)|(simp only[dE,Sum.elim_inr,id,Yd,YP];rfl))) (h4:fi (bk V id) bD=jF:=by exact rfl):A∨je P G f jF ol id K:=
 .inr (JZ V c h1 h2 h3 h4 k)
def xx:Os→(Os→Prop)→Prop
 | [],K=>K []
 |e::r,K=>xx r fun l=>K (e::l)
theorem mv:∀(l:Os) {K:Os→Prop},xx l K→K l
 | [],_,h=>h
 |e::r,K,h=>mv r (K:=fun l=>K (e::l)) h
def ii:Nat→List (Nat×Nat)→List (Nat×Nat)
 |0,l=>l
 |n+1,l=>ii n ((n,n)::l)
theorem kV{a b:AV}(h:Wk a b:=by repeat' first|exact Wk.eq rfl|exact Wk.dq|refine Wk.t ?_|refine Wk.a ?_|exact ep.nil|refine ep.cons ?_ ?_|exact Wk.eq (by first|(simp;done)|(rw[Yd];rfl)|exact cP|exact cO|exact cM|(simp only[YX];rfl)|(simp[dE];done)|(simp only[dE,Sum.elim_inr,id,Yd,YP];rfl))):Wk a b:=h
theorem kL{a b:List AV}(h:ep a b:=by repeat' first|exact Wk.eq rfl|exact Wk.dq|refine Wk.t ?_|refine Wk.a ?_|exact ep.nil|refine ep.cons ?_ ?_|exact Wk.eq (by first|(simp;done)|(rw[Yd];rfl)|exact cP|exact cO|exact cM|(simp only[YX];rfl)|(simp[dE];done)|(simp only[dE,Sum.elim_inr,id,Yd,YP];rfl))):ep a b:=h
theorem kO{a b:List (Option AO)}(h:du a b:=by repeat' first|exact du.nil|refine du.cons ?_ ?_|exact fT.eq (YO rfl)|(refine fT.eq (YO (jU ?_));first|(simp;done)|(rw[Yd];rfl)|(simp[dE];done)|(simp only[dE,Sum.elim_inr,id,Yd,YP];rfl))|refine fT.r ?_|exact lN.nil|refine lN.cons ?_ ?_|refine kL|(refine lN.of_eq ?_;first|(simp;done)|rfl|(rw[Yd];rfl)|exact cP|exact cO|exact cM|(simp only[YX];rfl)|(simp[dE];done)|(simp only[dE,Sum.elim_inr,id,Yd,YP];rfl))):du a b:=h
theorem cW
 {os':List (Nat×AO)} (V:List Nat) (c:FC P G f oin bD rv os') (k:ic (cd (bk V id) rv) fun v=>K v (gm V id os') V)
 (h1:(decide V.Nodup&&eJ V.length bD&&oin.all fun e=>cE V.length e.2)=true:=by exact rfl) (h2:oin.map (·.1)=List.range V.length:=by exact rfl)
 (h3:du (V.map ol) (oin.map fun e=>some (cC (bk V id) e.2)):=by exact kO) (h4:ep jF (fi (bk V id) bD):=by exact kL):A∨je P G f jF ol id K:=.inr (Qv V c h1 h2 h3 h4 k)
structure JB(m:Nat)(body:(Tm→Os→Nat→Prop)→Prop)(K:Tm→Os→Nat→Prop)(R A B:Prop):Prop where
 h:∃gx osx nx,(A→body (fun g' os' _=>R∧∃σ,jL m g' os' σ gx osx nx))∧(B→K gx osx nx)
theorem jM{K:Tm→Os→Nat→Prop}(gx:Tm)(osx:Os)(nx:Nat)(b1:A→body (fun g' os' _=>R∧∃σ,jL m g' os' σ gx osx nx))(b2:B→xx osx fun o=>K gx o nx):JB m body K R A B:=⟨gx,osx,nx,b1,fun h=>mv osx (b2 h)⟩
theorem jN{K:Tm→Os→Nat→Prop}{Z:Prop}{X:Option α}{g:α→Option β}{r:β}(h:Option.bind X g=some r)
 (k:∀y,JB m body K True (X=some y) (g y=some r)):Z∨ov m body K:=by
 obtain⟨y,hy,h⟩:=dS h
 obtain⟨gx,osx,nx,b1,b2⟩:=(k y).h
 exact .inr (Dg True gx osx nx (b1 hy) fun _=>b2 h)
theorem jS{K:Tm→Os→Nat→Prop}{Z:Prop}{R V:Type}[Inhabited V]{X:Option (R⊕V)}{f:R→Option β}{g:V→Option β}{r:β}(h:Option.bind X (fun o=>Sum.elim f g o)=some r)
 (k:∀o v,JB m body K (o=Sum.inr v) (X=some o∧Sum.elim f g o=some r∧dE o=v) (g v=some r)):Z∨ov m body K:=by
 obtain⟨o,ho,h⟩:=dS h
 obtain⟨gx,osx,nx,b1,b2⟩:=(k o (dE o)).h
 exact .inr (Dg (o=Sum.inr (dE o)) gx osx nx (b1 ⟨ho,h,rfl⟩) fun hR=>b2 (Px hR h))
theorem jT{K:Tm→Os→Nat→Prop}{A1 A2 A3:Prop}(gx:Tm)(osx:Os)(nx:Nat)(b1:A1→A2→A3→body (fun g' os' _=>R∧∃σ,jL m g' os' σ gx osx nx))(b2:B→xx osx fun o=>K gx o nx):
 JB m body K R (A1∧A2∧A3) B:=⟨gx,osx,nx,fun h=>b1 h.1 h.2.1 h.2.2,fun h=>mv osx (b2 h)⟩
theorem lI{g:Tm}{body:(Tm→Os→Nat→Prop)→Tm→Os→Nat→Prop}{γ:Type}(f:Nat→β→Option γ)(gx:β→Tm)(osx:β→Os)(nx:Nat){n:Nat}(x0:β)(σ0:List (Nat×Nat)){o:γ}(hI:f n x0=some o)
 (hr:∀n x,f (n+1) x=some o→xx (osx x) fun oo=>body (fun g' os' _=>∃x' σ,(fun q:Nat×β=>f q.1 q.2=some o) x'∧(fun q:Nat×β=>q.1) x'<(fun q:Nat×β=>q.1) (n+1,x)∧jL m g' os' σ ((fun q:Nat×β=>gx q.2) x') ((fun q:Nat×β=>osx q.2) x') nx) (gx x) oo nx)
 (h2:(gx x0).map (fun e=>cd (ap σ0) e.2)=(gx x0).map (fun e=>bX g e.1):=by repeat' first|exact rfl|refine bZ ?_ ?_|refine YF AV.sl ?_|(simp;done)|(rw[Yd];rfl)|exact cP|exact cO|exact cM|(simp only[YX];rfl)|(simp[dE];done)|(simp only[dE,Sum.elim_inr,id,Yd,YP];rfl))
 (h3:(osx x0).map (fun e=>some (cC (ap σ0) e.2))=(osx x0).map (fun e=>lk os (ap σ0 e.1)):=by first|exact rfl|(repeat' first|exact rfl|refine bZ ?_ ?_|refine jU ?_|(simp;done)|(rw[Yd];rfl)|exact cP|exact cO|exact cM|(simp only[YX];rfl)|(simp[dE];done)|(simp only[dE,Sum.elim_inr,id,Yd,YP];rfl)))
 (h1:((gx x0).all (fun e=>eS nx e.2)&&(osx x0).all (fun e=>decide (e.1<nx)&&cE nx e.2)&&decide (((osx x0).map fun e=>ap σ0 e.1).Nodup)&&decide (m≤nx)&&(List.range m).all (fun j=>ap σ0 j==j))=true:=by exact rfl)
 (hz:∀x,f 0 x=none:=by exact fun _=>rfl):ra m g os body:=
 vW (fun q:Nat×β=>gx q.2) (fun q=>osx q.2) nx (fun q=>f q.1 q.2=some o) (fun q=>q.1) (n,x0) σ0 hI h2 h3 h1 (by
  rintro⟨n,x⟩ h
  cases n with
  |zero=>simp_all
  |succ n=>exact mv _ (hr n x h))
theorem eE(σ:List (Nat×Nat))(hR:R:=by first|trivial|rfl)
 (h2:gx.map (fun e=>cd (ap σ) e.2)=gx.map (fun e=>bX g' e.1):=by exact rfl)
 (h3:osx.map (fun e=>some (cC (ap σ) e.2))=osx.map (fun e=>lk os' (ap σ e.1)):=by repeat' first|exact rfl|refine bZ ?_ ?_|refine jU ?_|(simp;done)|(rw[Yd];rfl)|exact cP|exact cO|exact cM|(simp only[YX];rfl)|(simp[dE];done)|(simp only[dE,Sum.elim_inr,id,Yd,YP];rfl))
 (h1:(gx.all (fun e=>eS nx e.2)&&osx.all (fun e=>decide (e.1<nx)&&cE nx e.2)&&decide ((osx.map fun e=>ap σ e.1).Nodup)&&decide (m≤nx)&&(List.range m).all (fun j=>ap σ j==j))=true:=by exact rfl):
 R∧∃σ,jL m g' os' σ gx osx nx:=nZ hR σ h2 h3 h1
theorem gE{v:AV}(σ:List (Nat×Nat))(h2:cd (ap σ) rv=v:=by exact rfl)
 (h3:os'.map (fun e=>some (cC (ap σ) e.2))=os'.map (fun e=>lk os (ap σ e.1)):=by repeat' first|exact rfl|refine bZ ?_ ?_|refine jU ?_|(simp;done)|(rw[Yd];rfl)|exact cP|exact cO|exact cM|(simp only[YX];rfl)|(simp[dE];done)|(simp only[dE,Sum.elim_inr,id,Yd,YP];rfl))
 (h1:(eS W rv&&os'.all (fun e=>decide (e.1<W)&&cE W e.2)&&decide ((os'.map fun e=>ap σ e.1).Nodup)&&decide (m≤W)&&(List.range m).all (fun j=>ap σ j==j))=true:=by exact rfl):
 jd m rv os' v os:=kG σ h2 h3 h1
theorem rE{gx:α→Tm}{osx:α→Os}{I:α→Prop}{μ:α→Nat}{x:α}(x':α)(σ:List (Nat×Nat))(hI:I x')(hμ:μ x'<μ x:=by exact V2 _)
 (h2:(gx x').map (fun e=>cd (ap σ) e.2)=(gx x').map (fun e=>bX g' e.1):=by exact rfl)
 (h3:(osx x').map (fun e=>some (cC (ap σ) e.2))=(osx x').map (fun e=>lk os' (ap σ e.1)):=by repeat' first|exact rfl|refine bZ ?_ ?_|refine jU ?_|(simp;done)|(rw[Yd];rfl)|exact cP|exact cO|exact cM|(simp only[YX];rfl)|(simp[dE];done)|(simp only[dE,Sum.elim_inr,id,Yd,YP];rfl))
 (h1:((gx x').all (fun e=>eS nx e.2)&&(osx x').all (fun e=>decide (e.1<nx)&&cE nx e.2)&&decide (((osx x').map fun e=>ap σ e.1).Nodup)&&decide (m≤nx)&&(List.range m).all (fun j=>ap σ j==j))=true:=by exact rfl):
 ∃x' σ,I x'∧μ x'<μ x∧jL m g' os' σ (gx x') (osx x') nx:=uy x' σ hI hμ h2 h3 h1
theorem rV{gx:α→Tm}{osx:α→Os}{I:α→Prop}{μ:α→Nat}{x:α}(x':α)(σ:List (Nat×Nat))(hI:I x')(hμ:μ x'<μ x:=by exact V2 _)
 (h2:(gx x').map (fun e=>cd (ap σ) e.2)=(gx x').map (fun e=>bX g' e.1):=by repeat' first|exact rfl|refine bZ ?_ ?_|refine YF AV.sl ?_|(simp;done)|(rw[Yd];rfl)|exact cP|exact cO|exact cM|(simp only[YX];rfl)|(simp[dE];done)|(simp only[dE,Sum.elim_inr,id,Yd,YP];rfl))
 (h3:(osx x').map (fun e=>some (cC (ap σ) e.2))=(osx x').map (fun e=>lk os' (ap σ e.1)):=by repeat' first|exact rfl|refine bZ ?_ ?_|refine jU ?_|(simp;done)|(rw[Yd];rfl)|exact cP|exact cO|exact cM|(simp only[YX];rfl)|(simp[dE];done)|(simp only[dE,Sum.elim_inr,id,Yd,YP];rfl))
 (h1:((gx x').all (fun e=>eS nx e.2)&&(osx x').all (fun e=>decide (e.1<nx)&&cE nx e.2)&&decide (((osx x').map fun e=>ap σ e.1).Nodup)&&decide (m≤nx)&&(List.range m).all (fun j=>ap σ j==j))=true:=by exact rfl):
 ∃x' σ,I x'∧μ x'<μ x∧jL m g' os' σ (gx x') (osx x') nx:=uy x' σ hI hμ h2 h3 h1
theorem eV(σ:List (Nat×Nat))(hR:R:=by first|trivial|rfl)
 (h2:gx.map (fun e=>cd (ap σ) e.2)=gx.map (fun e=>bX g' e.1):=by repeat' first|exact rfl|refine bZ ?_ ?_|refine YF AV.sl ?_|(simp;done)|(rw[Yd];rfl)|exact cP|exact cO|exact cM|(simp only[YX];rfl)|(simp[dE];done)|(simp only[dE,Sum.elim_inr,id,Yd,YP];rfl))
 (h3:osx.map (fun e=>some (cC (ap σ) e.2))=osx.map (fun e=>lk os' (ap σ e.1)):=by repeat' first|exact rfl|refine bZ ?_ ?_|refine jU ?_|(simp;done)|(rw[Yd];rfl)|exact cP|exact cO|exact cM|(simp only[YX];rfl)|(simp[dE];done)|(simp only[dE,Sum.elim_inr,id,Yd,YP];rfl))
 (h1:(gx.all (fun e=>eS nx e.2)&&osx.all (fun e=>decide (e.1<nx)&&cE nx e.2)&&decide ((osx.map fun e=>ap σ e.1).Nodup)&&decide (m≤nx)&&(List.range m).all (fun j=>ap σ j==j))=true:=by exact rfl):
 R∧∃σ,jL m g' os' σ gx osx nx:=nZ hR σ h2 h3 h1
theorem eW(σ:List (Nat×Nat))(hR:R:=by first|trivial|rfl)
 (h2:ep (gx.map fun e=>bX g' e.1) (gx.map fun e=>cd (ap σ) e.2):=by exact kL) (h3:du (osx.map fun e=>lk os' (ap σ e.1)) (osx.map fun e=>some (cC (ap σ) e.2)):=by exact kO)
 (h1:(gx.all (fun e=>eS nx e.2)&&osx.all (fun e=>decide (e.1<nx)&&cE nx e.2)&&decide ((osx.map fun e=>ap σ e.1).Nodup)&&decide (m≤nx)&&(List.range m).all (fun j=>ap σ j==j))=true:=by exact rfl):
 R∧∃σ,jL m g' os' σ gx osx nx:=As hR σ h2 h3 h1
theorem gW{v:AV}(σ:List (Nat×Nat))(h2:Wk v (cd (ap σ) rv):=by exact kV)
 (h3:du (os'.map fun e=>lk os (ap σ e.1)) (os'.map fun e=>some (cC (ap σ) e.2)):=by exact kO)
 (h1:(eS W rv&&os'.all (fun e=>decide (e.1<W)&&cE W e.2)&&decide ((os'.map fun e=>ap σ e.1).Nodup)&&decide (m≤W)&&(List.range m).all (fun j=>ap σ j==j))=true:=by exact rfl):
 jd m rv os' v os:=Py σ h2 h3 h1
theorem aE{args':List AV}(h:FC P G f [] args rv os)
 (e:args=args':=by repeat' first|exact rfl|refine bZ ?_ ?_|refine YF AV.agg ?_|refine YF AV.sl ?_|(simp;done)|(rw[Yd];rfl)|exact cP|exact cO|exact cM|(simp only[YX];rfl)|(simp[dE];done)|(simp only[dE,Sum.elim_inr,id,Yd,YP];rfl)):FC P G f [] args' rv os:=e▸h
theorem aW{args':List AV}{os':List (Nat×AO)}(h:FC P G f oin args' rv os')(hw:ep args args':=by exact kL):FC P G f oin args rv os':=AN hw h
theorem fA{fn:Func}{c:Code}(hf:P.funcs[f]? =some fn)
 (h:dL P G ⟨0,fn.ntmps,false⟩ 0 (sN P fn.results.toList fun r=>r=rv) 2000 [.code c] (gV args 0) [] W) (hb:fn.body=some c:=by exact rfl)
 (hn:eF P f=true:=by kernel_rfl) (hm:P.follows .mixedOrders=true:=by exact mixed) (hsz:args.length≤fn.ntmps:=by exact W5 rfl):FC P G f [] args rv []:=Ch 2000 hf hb hn hm hsz h
theorem fK{fn:Func}{c:Code}(hf:P.funcs[f]? =some fn)
 (h:dL P G ⟨0,fn.ntmps,false⟩ 0 (sN P fn.results.toList fun r=>Wk r rv) 2000 [.code c] (gV args 0) [] W) (hb:fn.body=some c:=by exact rfl)
 (hn:eF P f=true:=by kernel_rfl) (hm:P.follows .mixedOrders=true:=by exact mixed) (hsz:args.length≤fn.ntmps:=by exact W5 rfl):FC P G f [] args rv []:=PT 2000 hf hb hn hm hsz h
theorem fG{fn:Func}{c:Code}{oin:Os}(hf:P.funcs[f]? =some fn)
 (h:xx oin fun oo=>dL P G ⟨0,fn.ntmps,false⟩ oin.length (Aq P fn.results.toList oin.length (jd oin.length rv os')) 2000 [.code c] (gV args 0) oo W) (hb:fn.body=some c:=by exact rfl)
 (hn:eF P f=true:=by kernel_rfl) (hm:P.follows .mixedOrders=true:=by exact mixed) (hsz:args.length≤fn.ntmps:=by exact W5 rfl)
 (hin:oin.length≤W:=by exact W5 rfl) (hos:(os'.all fun e=>decide (e.1<W))=true:=by exact rfl):FC P G f oin args rv os':=lW 2000 hf hb hn hm hsz hin hos (mv oin h)
def pp(n:Nat):AV:=.ptr n 0 0
def rF(r:List AV):AO:=.rows false [r]
def rT{α:Type}(c:α→List AV)(l:List α):AO:=.rows true (List.map c l)
def sM{α:Type}(c:α→List AV)(l:List α):AV:=.sl (List.map c l)
def tX(_:List (Nat×Nat))(P:Prop):Prop:=P
theorem tI{σ:List (Nat×Nat)}{P:Prop}(h:let _s:=σ;P):tX σ P:=h
theorem eQ(σ:List (Nat×Nat))(h:R∧
 gx.map (fun e=>cd (ap σ) e.2)=gx.map (fun e=>bX g' e.1)∧osx.map (fun e=>some (cC (ap σ) e.2))=osx.map (fun e=>lk os' (ap σ e.1))∧
 (gx.all (fun e=>eS nx e.2)&&osx.all (fun e=>decide (e.1<nx)&&cE nx e.2)&&decide ((osx.map fun e=>ap σ e.1).Nodup)&&decide (m≤nx)&&(List.range m).all (fun j=>ap σ j==j))=true):
 R∧∃σ,jL m g' os' σ gx osx nx:=nZ h.1 σ h.2.1 h.2.2.1 h.2.2.2
theorem gQ{v:AV}(σ:List (Nat×Nat))(h:cd (ap σ) rv=v∧os'.map (fun e=>some (cC (ap σ) e.2))=os'.map (fun e=>lk os (ap σ e.1))∧
 (eS W rv&&os'.all (fun e=>decide (e.1<W)&&cE W e.2)&&decide ((os'.map fun e=>ap σ e.1).Nodup)&&decide (m≤W)&&(List.range m).all (fun j=>ap σ j==j))=true):
 jd m rv os' v os:=kG σ h.1 h.2.1 h.2.2
theorem qE(σ:List (Nat×Nat)){P:Prop}(w:tX σ P:=by
 refine tI ?_;intro s
 repeat' ((conv=>whnf);first|refine oL ?_|refine bT h fun h=>?_|refine bF h fun h=>?_|refine bS h (fun h=>?_) fun h=>?_|(cases h;done)|(refine eQ s ?_;cases h;first|exact⟨trivial,rfl,rfl,rfl⟩|exact⟨rfl,rfl,rfl,rfl⟩|(cases e;exact⟨rfl,rfl,rfl,rfl⟩))|refine gX h fun h=>?_|refine aX ?_|refine gS h fun h=>?_)):P:=w
theorem qG(σ:List (Nat×Nat)){P:Prop}(w:tX σ P:=by
 refine tI ?_;intro s
 repeat' ((conv=>whnf);first|refine oL ?_|refine bT h fun h=>?_|refine bF h fun h=>?_|refine bS h (fun h=>?_) fun h=>?_|(cases h;done)|(refine gQ s ?_;cases h;exact⟨rfl,rfl,rfl⟩)|refine gX h fun h=>?_|refine aX ?_|refine gS h fun h=>?_)):P:=w
theorem qR{P:Prop}(w:P:=by
 repeat' ((conv=>whnf);first|refine oL ?_|refine bT h fun h=>?_|refine bF h fun h=>?_|refine bS h (fun h=>?_) fun h=>?_|(cases h;done)|(cases h;exact rfl)|refine gX h fun h=>?_|refine aX ?_|refine gS h fun h=>?_)):P:=w
theorem qK{P:Prop}(w:P:=by
 repeat' ((conv=>whnf);first|refine oL ?_|refine bT h fun h=>?_|refine bF h fun h=>?_|refine bS h (fun h=>?_) fun h=>?_|(cases h;done)|(cases h;exact kV)|refine gX h fun h=>?_|refine aX ?_|refine gS h fun h=>?_)):P:=w
end Go.Ab
