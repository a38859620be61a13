import Derived.Test.YtjpmdkgonlmddaaGreatDoorAbI
import Derived.Shelf.Spec.SlicesInsert
import Derived.Lib.AppendZerosOnto
import Derived.Lib.Overlaps
import Derived.Laws.NewBlocks
import Derived.Test.YtjpmdkgonlmddaaGreatDoorAbJ
set_option linter.unusedVariables false
namespace Go.Ab
open Go.Proofs
theorem Zlh{P:Program}(w:World)(t e ty:TypeId)(i:TypeInfo)(z:Value)(ht:P.underlying t=some (.slice e))(hi:P.info? e=some i)(hz:i.zero=some z)(b o c:Nat)(zs:List Value)
 (hzs:(Builtin.zeroCells z.cells 1).toList=zs) (h1:∀v∈zs,v.oneCell'=true)
 (hc:∀j,j<zs.length→(w.cell? ⟨b,o+j,none⟩).isSome=true) (hf:∀j,j<zs.length→w.frozen? ⟨b,o+j,none⟩=false):
 (Builtin.clear_ #[t] ty #[.slice (some ⟨b,o,none⟩) 1 c]).run P w=.ok (.tuple #[]) (w.setCells b o zs):=by
 have hst:=WY (P:=P) b o zs 0 w (by omega) (by omega) h1
 simp only[Nat.add_zero]at hst;simp[Builtin.clear_,Y5 ht,zeroValue,typeInfo,hi,hz,hzs,hst]
theorem Zph{S0:Nat→Prop}{ι0:Imap}{w0 w':World}{oin:Os}{k z:Nat}{p:Bool}{R:List (List AV)}{us:List Value}{L:Loc}{cap:Nat}
 (hs0:∀b,S0 b→b<w0.heap.size) (hι:∀o,oin.length≤o→ι0 o=none) (hk:oin.length≤k) (hkW:k<W)
 (hfr:Fr (OwOf w0 ι0 oin) w0 w') (hnew:OwOf w0 ι0 oin L.blk) (hS:¬S0 L.blk) (hlt:L.blk<w'.heap.size)
 (hcnt:R.length=L.cnt) (hm:Mine w' L) (hF:Flat p S0 w' ι0 L.esz R us) (hc:∀(j:Nat) v,us[j]? =some v→Zbo w' L.blk (L.base+j)=some v)
 (h1:R.length≤cap) (h2:L.base+cap*L.esz≤L.size) (h3:R.length≤LIM) (h0:R.length=0→L.esz=z):
 ∃v S' ι',Ending.returned (.slice (some ⟨L.blk,L.base,none⟩) R.length cap)=.returned v∧Fr (OwOf w0 ι0 oin) w0 w'∧
  (∀b,S' b→(S0 b∨OwOf w0 ι0 oin b)∧b<w'.heap.size)∧(∀b,S0 b→S' b)∧ι0.le ι'∧(∀o,W≤o→ι' o=none)∧
  Rep S' w' ι' (.osw k z) v∧Zei (OwOf w0 ι0 oin) S' w' ι' (lk [(k,.rows p R)]):=by
 have hle:ι0.le (fun o=>if o=k then some (some L)else ι0 o):=fun o x e=>by
  grind
 have hlk:∀o x,lk [(k,AO.rows p R)] o=some x→o=k∧x=.rows p R:=fun o x h=>by
  simp only[lk]at h;simp_all
 have hik:(fun o=>if o=k then some (some L)else ι0 o) k=some (some L):=by simp
 refine⟨_,S0,_,rfl,hfr,fun b hb=>⟨.inl hb,Wp (hs0 b hb) hfr.size⟩,fun _ h=>h,hle,fun o ho=>?_,?_,⟨?_,?_,?_⟩⟩
 ·grind
 ·have hR:Rep S0 w' (fun o=>if o=k then some (some L)else ι0 o) (.osw k z) (.slice (some ⟨L.blk,L.base,none⟩) L.cnt cap):=
   Rep.osw k z cap _ _ hik (by omega) h2 (by omega) (fun h _=>h0 (by omega)) (fun _=>rfl)
  simp_all
 ·intro o x hx
  obtain⟨rfl,rfl⟩:=hlk o x hx
  have hF':=hF.mono (fun _ h=>h) (fun _ _=>rfl) hle
  refine .inr ⟨L,_,hik,hcnt,hm,hF'.at hc ?_,hF'.rows⟩
  have:R.length*L.esz≤cap*L.esz:=Yo _ h1
  omega
 ·intro o x hx _ l hl b hb
  obtain⟨rfl,rfl⟩:=hlk o x hx
  have hl2:=hik.symm.trans hl;injection hl2 with hl;injection hl with hl;subst hl
  obtain rfl:=Za7 rfl hb
  simp_all
 grind
theorem Zkc{Ow:Nat→Prop}{w0 w:World}(h:Fr Ow w0 w){b:Nat}(hb:Ow b)(o:Nat)(vs:List Value):Fr Ow w0 (w.setCells b o vs):=by
 have hs:=Zew w b vs o
 refine⟨?_,?_,by rw[hs];exact h.size,fun c hc hn=>?_⟩
 ·rw[←h.os];exact World.os_setCells w b o vs
 ·rw[←h.output];exact World.output_setCells w b o vs
 ·rw[Wu w b o vs (Wp hc h.size) (fun e=>hn (e▸hb))]
  exact h.old c hc hn
structure DelOk(P:Program)(f:Nat)(sz:Nat):Prop where
 call:callB P f=true
 del:∀(b off n c i:Nat) (cs:List Value) (w:World),i<n→n≤c→n≤LIM→cs.length=n*sz→(∀(j:Nat) v,cs[j]? =some v→w.cell? ⟨b,off+j,none⟩=some v)→
  (∀j,j<n*sz→w.frozen? ⟨b,off+j,none⟩=false)→(∀v∈cs,v.oneCell'=true)→
  Calls P f #[.slice (some ⟨b,off,none⟩) n c,.int .i64 i,.int .i64 ((i:Int)+1)] w fun e w'=>
   ∃zs:List Value,e=.returned (.slice (some ⟨b,off,none⟩) (n-1) c)∧zs.length=sz∧w'=(w.drew.setCells b (off+i*sz) (cs.drop ((i+1)*sz))).setCells b (off+(n-1)*sz) zs
theorem Zrp{p:Bool}{S:Nat→Prop}{w:World}{ι:Imap}{sz:Nat}{s:List (List AV)}{us:List Value}{i:Nat}(h:Flat p S w ι sz s us)(hi:i<s.length):
 Flat p S w ι sz (s.take i++s.drop (i+1)) (us.take (i*sz)++us.drop ((i+1)*sz)):=by
 have hfl:∀(rs:List (List AV)) (i:Nat),(∀r,r∈rs→r.length=sz)→i≤rs.length→(rs.take i).flatten=rs.flatten.take (i*sz)∧(rs.drop i).flatten=rs.flatten.drop (i*sz):=by
  intro rs
  induction rs with
  |nil=>simp
  |cons r rs ih=>
   intro i hl hi
   cases i with
   |zero=>simp
   |succ i=>
    have hr:=hl r (by simp)
    obtain⟨h1,h2⟩:=ih i (fun r hr=>hl r (by simp[hr])) (by simp_all)
    have e:(i+1)*sz=r.length+i*sz:=by rw[YT,hr];omega
    refine⟨?_,?_⟩
    ·grind
    ·rw[List.drop_succ_cons,List.flatten_cons,h2,e,List.drop_length_add_append]
 have hp:Flat p S w ι sz (s.take i) (us.take (i*sz)):=by
  refine⟨fun r hr=>h.rl r (YZ hr),?_,fun v hv=>h.one v (YZ hv),?_⟩
  ·rw[Yw,Yw,h.len,Wh (WB hi),Wh (Yo _ (WB hi))]
  ·rw[(hfl s i h.rl (WB hi)).1];exact h.rep.take _
 have hd:Flat p S w ι sz (s.drop (i+1)) (us.drop ((i+1)*sz)):=by
  refine⟨fun r hr=>h.rl r (Wc hr),?_,fun v hv=>h.one v (Wc hv),?_⟩
  ·rw[Yz,Yz,h.len,Nat.sub_mul]
  ·rw[(hfl s (i+1) h.rl hi).2];exact h.rep.drop _
 have:=hp.append hd
 simp_all
theorem Zqx{P:Program}{G:Gmap}{f:Nat}{sz:Nat}{s:List (List AV)}{p:Bool}{i:Nat}(hI:DelOk P f sz)(hsz:1<sz)(hs:∀r,r∈s→r.length=sz)
 (hi:i<s.length):FC P G f [(0,.rows p s)] [.osw 0 sz,.int .i64 i,.int .i64 ((i:Int)+1)] (.osw 1 sz) [(1,.rows p (s.take i++s.drop (i+1)))]:=by
 refine⟨hI.call,fun o x hx=>?_,fun S0 ι0 w0 vs hs0 hG hob hι hL'=>?_⟩
 ·have:=ZiL hx
  simp only[YB,Ws]at this;rw[this.1];unfold W;omega
 obtain⟨vs⟩:=vs
 obtain⟨hlen,hrep⟩:=hL'
 match vs,hlen with
 | [v0,v1,v2],_=>
  have r0:=hrep 0 _ v0 rfl rfl
  obtain rfl:=(hrep 1 _ v1 rfl rfl).int_inv
  obtain rfl:=(hrep 2 _ v2 rfl rfl).int_inv
  rcases ZcP r0 with ⟨l,a,cap,q0,rfl,b1,b2,b3,bz,ba⟩|⟨q0,a,rfl⟩
  ·rcases hob.ob 0 (.rows p s) rfl with ⟨h,_⟩|⟨l',vals,q0',hcn,hm,hat,hrp⟩
   ·simp_all
   rw[q0]at q0';injection q0' with q0';injection q0' with q0';subst q0'
   obtain⟨us,hF,hv0⟩:=ZiQ hat hrp 0 s.length (by omega)
   simp only[V9,Wz,V6,Nat.add_zero]at hF hv0
   obtain rfl:=ba (by omega)
   have hez:l.esz=sz:=by
    obtain⟨r,hr⟩:=Wv s (fun h=>by simp_all)
    exact(hF.rl r hr).symm.trans (hs r hr)
   rw[hez]at hF
   have hul:=hF.len
   have hOw:OwOf w0 ι0 [(0,.rows p s)] l.blk:=.inr ⟨0,.rows p s,l,rfl,rfl,q0,.inl rfl⟩
   obtain⟨_,hnS,hlt⟩:=hob.own 0 (.rows p s) rfl rfl l q0 _ (.inl rfl)
   rw[←hcn];rw[←hcn]at b1 b3;rw[hez]at b2
   have hfz:∀j,w0.frozen? ⟨l.blk,j,none⟩=false:=fun j=>(hm j).2 (.inr (by omega))
   have hfit:s.length*sz≤cap*sz:=Yo _ b1
   have hi2:(i+1)*sz=i*sz+sz:=by rw[YT];omega
   have hi3:(i+1)*sz≤s.length*sz:=Yo _ hi
   have hi4:(s.length-1)*sz=s.length*sz-sz:=by rw[Nat.sub_mul];omega
   have hsome:∀j,j<s.length*sz→(w0.cell? ⟨l.blk,l.base+j,none⟩).isSome=true:=fun j hj=>by
    simp_all
   refine(hI.del l.blk l.base s.length cap i us w0 hi b1 b3 hul hv0 (fun j _=>hfz _) hF.one).mono ?_
   rintro e' w' ⟨zs,rfl,hzl,rfl⟩
   have hfr1:Fr (OwOf w0 ι0 [(0,.rows p s)]) w0 w0.drew:=⟨rfl,rfl,Yg _,fun _ _ _=>rfl⟩
   have hfr:=Zkc (Zkc hfr1 hOw (l.base+i*sz) (us.drop ((i+1)*sz))) hOw (l.base+(s.length-1)*sz) zs
   have hm2:Mine w0.drew l:=hm
   have hm':=(hm2.setCells (l.base+i*sz) (us.drop ((i+1)*sz))).setCells (l.base+(s.length-1)*sz) zs
   have hsame:ZbH S0 w0 ((w0.drew.setCells l.blk (l.base+i*sz) (us.drop ((i+1)*sz))).setCells l.blk (l.base+(s.length-1)*sz) zs):=fun b hb=>hfr.old b (hs0 b hb) (fun hO=>by
    rcases hO with h|⟨o,x,l',t1,t2,t3,t4⟩
    ·grind
    ·exact(hob.own o x t1 t2 l' t3 b t4).2.1 hb)
   have hFF:=Zrp (hF.mono (fun _ h=>h) hsame (Imap.le_refl _)) hi
   have hRl:(s.take i++s.drop (i+1)).length=s.length-1:=by
    simp only[Yd,Yw,Yz];omega
   have hw1:(w0.drew.setCells l.blk (l.base+i*sz) (us.drop ((i+1)*sz))).heap.size=w0.heap.size:=(Zew _ _ _ _).trans rfl
   have:=Zph (k:=1) (z:=sz) (cap:=cap) (L:=⟨l.blk,l.base,sz,l.size,s.length-1⟩) hs0 hι (by simp) (by unfold W;omega) hfr hOw hnS (by
    show l.blk<_;rw[Zew,hw1];exact hlt)
    hRl (fun j=>⟨(hm' j).1,fun h=>(hm' j).2 (by omega)⟩) hFF (fun j v hv=>?_) (by omega) (by omega) (by omega) (fun _=>rfl)
   ·simp_all
   ·have hj:=Zap hv
    have htk:(us.take (i*sz)).length=i*sz:=by rw[Yw];omega
    have hdl:(us.drop ((i+1)*sz)).length=s.length*sz-(i+1)*sz:=by rw[Yz];omega
    rw[Yd,htk,hdl]at hj
    show((w0.drew.setCells _ _ _).setCells _ _ _).cell? ⟨l.blk,l.base+j,none⟩=_
    rw[Wa _ _ _ _ _ (fun _ _=>.inl (by grind))]
    by_cases c1:j<i*sz
    ·rw[Wa _ _ _ _ _ (fun _ _=>.inl (by simp_all))]
     rw[Yn (by omega),W7,if_pos c1]at hv
     simp_all
    ·rw[Yc (by omega),htk]at hv
     have hjj:=Zap hv
     have:=Wy l.blk (us.drop ((i+1)*sz)) (l.base+i*sz) w0.drew (fun t ht=>by
      rw[Wx];exact hsome _ (by omega)) (j-i*sz) hjj
     grind
  ·rcases hob.ob 0 (.rows p s) rfl with ⟨_,h⟩|⟨l',vals,q0',_⟩
   all_goals simp_all
theorem Ztr{P:Program}{G:Gmap}{f:Nat}{fn:Func}{c:Code}{args:List AV}{rv:AV}(fuel:Nat)(hf:P.funcs[f]? =some fn)(hb:fn.body=some c)
 (hn:callB P f=true) (hm:P.follows .mixedOrders=true) (hsz:args.length≤fn.ntmps)
 (h:xcode P G ⟨0,fn.ntmps,false⟩ 0 (finC P fn.results.toList fun r=>Wk r rv) fuel [.code c] (argsG args 0) [] W):FC P G f [] args rv []:=by
 refine⟨hn,fun o x hx=>by simp[lk]at hx,fun S0 ι0 w0 vs h0 hG hob hι hL=>?_⟩
 have him:∀j L,ι0 j=some L→j<([]:Os).length:=fun j L e=>by simp_all
 have hinv:=Zj8 (fn:=fn) hsz h0 hG hob hι (Yv _) him hL
 refine Zjg hm hf hb ⟨rfl,rfl⟩ hinv h ?_
 intro N dfs qb g os hfin S ι un a w hi
 obtain⟨rs,hrs,h2⟩:=opt_e hfin
 obtain⟨rv',hrv,h3⟩:=opt_e h2
 rw[Ze2]at h3
 obtain⟨v,hv1,hv2⟩:=Zi4 (P:=P) hi hrs
 have hcl:=Zfw hi.ob 8 _ _ _ hv2 hrv
 have hR:∃v' S' ι',Ending.returned v=.returned v'∧Fr (OwOf w0 ι0 []) w0 w∧(∀b,S' b→(S0 b∨OwOf w0 ι0 [] b)∧b<w.heap.size)∧(∀b,S0 b→S' b)∧ι0.le ι'∧
  (∀o,W≤o→ι' o=none)∧Rep S' w ι' rv v'∧Zei (OwOf w0 ι0 []) S' w ι' (lk []):=by
  refine⟨v,SV S ι (toFS g os).os (os.map (·.1)),ι0,rfl,hi.fr,fun b hb=>⟨?_,SV_lt hi _ b hb⟩,?_,Imap.le_refl _,fun o _=>hι o (Yv _),.imm _ _ (h3.irep _ hcl),
   ⟨fun o x hx=>by simp[lk]at hx,fun o x hx=>by simp_all,fun o o' x x' hx=>by simp_all⟩⟩
  ·rcases hb with hb|⟨o,x,l,_,hx,hl,rfl⟩
   ·exact hi.sn b hb
   ·by_cases hlv:x.live=true
    ·exact .inr (hi.own o x hx hlv l hl _ (.inl rfl)).1
    ·have hob2:=hi.ob o x hx
     cases x with
     |froz rs=>
      rcases hob2 with ⟨q,_⟩|⟨l',vals,q,_,hS,_⟩
      ·simp_all
      ·rw[q]at hl;injection hl with hl;injection hl with hl;subst hl
       exact hi.sn _ hS
     |rows p rs=>exact absurd rfl hlv
     |mapo p es=>exact absurd rfl hlv
     |fmap z fs hh=>exact absurd rfl hlv
     |gmap es hh=>exact absurd rfl hlv
     |lit rs=>exact absurd rfl hlv
  ·exact fun b hb=>.inl (hi.s0 b hb)
 simp_all
abbrev aI(n:Int):AV:=.int .i64 n
theorem oL{a b:Prop}(h:a):a∨b:=.inl h
theorem bC{b:Bool}{α:Type}{X Y:Option α}{r:α}{A B:Prop}(h:cond b X Y=some r)(h1:b=true→X=some r→A)(h2:b=false→Y=some r→B):brc b A B:=
 brn_i (fun hb=>h1 hb (ZhM h hb)) (fun hb=>h2 hb (ZhN h hb))
theorem oG{α:Type}{c:α→List AV}{L:List α}{i:Nat}{y:α}{K:List AV→Prop}(h:L[i]? =some y)(k:K (c y)):opt ((L.map c)[i]?) K:=opt_i (c y) (getE rfl h) k
theorem eI{m:Nat}{R:Prop}{gx:Tm}{osx:Os}{nx:Nat}{g':Tm}{os':Os}(σ:List (Nat×Nat))(hR:R:=by first|trivial|rfl)
 (h2:gx.map (fun e=>renAV (ap σ) e.2)=gx.map (fun e=>lookG g' e.1):=by exact rfl) (h3:osx.map (fun e=>some (renO (ap σ) e.2))=osx.map (fun e=>lk os' (ap σ e.1)):=by exact rfl)
 (h1:(gx.all (fun e=>idsB nx e.2)&&osx.all (fun e=>decide (e.1<nx)&&idsBO nx e.2)&&decide ((osx.map fun e=>ap σ e.1).Nodup)&&decide (m≤nx)&&(List.range m).all (fun j=>ap σ j==j))=true:=by exact rfl):
 R∧∃σ,Cov m g' os' σ gx osx nx:=end_i hR σ h2 h3 h1
theorem gI{m:Nat}{rv:AV}{os':Os}{v:AV}{os:Os}(σ:List (Nat×Nat))(h2:renAV (ap σ) rv=v:=by exact rfl)
 (h3:os'.map (fun e=>some (renO (ap σ) e.2))=os'.map (fun e=>lk os (ap σ e.1)):=by exact rfl)
 (h1:(idsB W rv&&os'.all (fun e=>decide (e.1<W)&&idsBO W e.2)&&decide ((os'.map fun e=>ap σ e.1).Nodup)&&decide (m≤W)&&(List.range m).all (fun j=>ap σ j==j))=true:=by exact rfl):
 EndG m rv os' v os:=ZeP σ h2 h3 h1
variable {A B R:Prop}{G:Gmap}{K:AV→List (Nat×Option AO)→List Nat→Prop}{P:Program}{args argsC avs:List AV}{body:(Tm→Os→Nat→Prop)→Prop}{f id m nx:Nat}{g' gx:Tm}{oin:List (Nat×AO)}{ol:Nat→Option AO}{os os' osx:Os}{rv:AV}{α β:Type}
theorem rowE{a b:List (List AV)}{p:Bool}(h:a=b):some (AO.rows p a)=some (AO.rows p b):=by rw[h]
theorem rQ{a b:α}(h:a=b:=by first|rfl|(simp;done)|(rw[Yb];rfl)|exact map_set1|exact map_set2|exact map_set3|(simp only[YW];rfl)|(simp[outR];done)|(simp only[outR,Sum.elim_inr,id,Yb,YN];rfl)):a=b:=h
theorem bS{b b':Bool}{X Y:Option α}{r:α}(h:cond b' X Y=some r)(h1:X=some r→A)(h2:Y=some r→B)
 (e1:b=true→b'=true:=by intro hb;first|exact hb|(simp;done)|simpa using hb|simpa[chunk]using hb|(simp[chunk]at hb⊢;omega))
 (e2:b=false→b'=false:=by intro hb;first|exact hb|(simp;done)|simpa using hb|simpa[chunk]using hb|(simp[chunk]at hb⊢;omega)):brc b A B:=
 brn_i (fun hb=>h1 (ZhM h (e1 hb))) (fun hb=>h2 (ZhN h (e2 hb)))
theorem bT{b b':Bool}{Y:Option α}{r:α}(h:cond b' none Y=some r)(h2:Y=some r→B)
 (e1:b=true→b'=true:=by intro hb;first|exact hb|(simp;done)|simpa using hb|simpa[chunk]using hb|(simp[chunk]at hb⊢;omega))
 (e2:b=false→b'=false:=by intro hb;first|exact hb|(simp;done)|simpa using hb|simpa[chunk]using hb|(simp[chunk]at hb⊢;omega)):brc b A B:=
 brn_i (fun hb=>by simp_all) (fun hb=>h2 (ZhN h (e2 hb)))
theorem bF{b b':Bool}{X:Option α}{r:α}(h:cond b' X none=some r)(h1:X=some r→A)
 (e1:b=true→b'=true:=by intro hb;first|exact hb|(simp;done)|simpa using hb|simpa[chunk]using hb|(simp[chunk]at hb⊢;omega))
 (e2:b=false→b'=false:=by intro hb;first|exact hb|(simp;done)|simpa using hb|simpa[chunk]using hb|(simp[chunk]at hb⊢;omega)):brc b A B:=
 brn_i (fun hb=>h1 (ZhM h (e1 hb))) (fun hb=>by simp_all)
theorem gS{p q:Prop}{_:Decidable q}{X:Option α}{r:α}{b:Prop}(h:cond (decide q) X none=some r)(k:X=some r→b)
 (e:q→p:=by intro hg;first|exact hg|(simp;done)|simpa using hg|simpa[chunk]using hg|(simp[chunk]at hg⊢;omega)):p∧b:=
 ⟨e (grd_e h).1,k (grd_e h).2⟩
theorem gX{q:Prop}{_:Decidable q}{X:Option α}{r:α}{b:Prop}(h:cond (decide q) X none=some r)(k:X=some r→b):q∧b:=⟨(grd_e h).1,k (grd_e h).2⟩
theorem aX{a b:Prop}(k:b)(h:a:=by first|exact ZaF.map (fun _=>rfl)|exact ZaF.cons rfl ZaF.nil|exact ZaF.nil|exact W0 rfl|kernel_rfl|decide|trivial|exact⟨by kernel_rfl,_,rfl⟩):a∧b:=⟨h,k⟩
theorem oB{c:α→List AV}{L:List α}{i:Nat}{g:α→Option β}{r:β}{X:List (List AV)}{K:List AV→Prop}(h:Option.bind L[i]? g=some r)(k:∀y,g y=some r→K (c y))
 (e:X=L.map c:=by first|exact rfl|(simp;done)|(rw[Yb];rfl)|exact map_set1|exact map_set2|exact map_set3|(simp only[YW];rfl)):opt (X[i]?) K:=by
 obtain⟨y,hy,h⟩:=ZaE h
 exact opt_i (c y) (getE e hy) (k y h)
theorem cL{X:Option α}{g:α→Option β}{r:β}{rv:α→AV}{Kf:AV→Prop}{Z:AV→Os→Prop}
 (h:Option.bind X g=some r) (c:∀{y},X=some y→FC P G f [] args (rv y) []) (k:∀y,g y=some r→Kf (rv y)) (hf:∀y,flat (rv y)=true:=by exact fun _=>rfl):
 ∃v os,FC P G f [] args v os∧((flat v=true∧os=[]∧Kf v)∨Z v os):=by
 obtain⟨y,hy,h⟩:=ZaE h
 grind
theorem cR{X:Option α}{g:α→Option β}{r:β}{rv:α→AV}{os':α→Os}{Y:AV→Os→Prop}{A:List Nat→Option (List AV)}{B:AV→Os→List Nat→Prop}
 (h:Option.bind X g=some r) (c:∀{y},X=some y→FC P G f [] args (rv y) (os' y)) (k:∀y,g y=some r→B (rv y) (os' y) []) (hA:A []=some args:=by exact rfl):
 ∃v os,FC P G f [] args v os∧(Y v os∨∃V,A V=some args∧B v os V):=by
 obtain⟨y,hy,h⟩:=ZaE h
 grind
theorem cG{X:Option α}{g:α→Option β}{r:β}
 {rv:α→AV} {os':α→List (Nat×AO)}
 (V:List Nat) (h:Option.bind X g=some r) (c:∀{y},X=some y→FC P G f oin argsC (rv y) (os' y)) (k:∀y,g y=some r→fAV (renAV (bk V id) (rv y)) fun v=>K v (backU V id (os' y)) V)
 (h1:(decide V.Nodup&&idsBL V.length argsC&&oin.all fun e=>idsBO V.length e.2)=true:=by exact rfl) (h2:oin.map (·.1)=List.range V.length:=by exact rfl)
 (h3:oin.map (fun e=>some (renO (bk V id) e.2))=V.map ol:=by first|exact rfl|(repeat' first|exact rfl|refine cons2 ?_ ?_|refine rowE ?_|(simp;done)|(rw[Yb];rfl)|exact map_set1|exact map_set2|exact map_set3|(simp only[YW];rfl)|(simp[outR];done)|(simp only[outR,Sum.elim_inr,id,Yb,YN];rfl))) (h4:renL (bk V id) argsC=avs:=by exact rfl):A∨CallG P G f avs ol id K:=by
 obtain⟨y,hy,h⟩:=ZaE h
 exact .inr (ZhQ V (c hy) h1 h2 h3 h4 (k y h))
theorem cH{X:Option α}{g:α→Option β}{r:β}
 {rv:α→AV}
 (V:List Nat) (h:Option.bind X g=some r) (c:∀{y},X=some y→FC P G f oin argsC (rv y) oin) (k:∀y,g y=some r→fAV (renAV (bk V id) (rv y)) fun v=>K v [] V)
 (h1:(decide V.Nodup&&idsBL V.length argsC&&oin.all fun e=>idsBO V.length e.2)=true:=by exact rfl) (h2:oin.map (·.1)=List.range V.length:=by exact rfl)
 (h3:oin.map (fun e=>some (renO (bk V id) e.2))=V.map ol:=by first|exact rfl|(repeat' first|exact rfl|refine cons2 ?_ ?_|refine rowE ?_|(simp;done)|(rw[Yb];rfl)|exact map_set1|exact map_set2|exact map_set3|(simp only[YW];rfl)|(simp[outR];done)|(simp only[outR,Sum.elim_inr,id,Yb,YN];rfl))) (h4:renL (bk V id) argsC=avs:=by exact rfl):A∨CallG P G f avs ol id K:=by
 obtain⟨y,hy,h⟩:=ZaE h
 exact .inr (Zqi V (c hy) h1 h2 h3 h4 (k y h))
theorem cg
 {os':List (Nat×AO)}
 (V:List Nat) (c:FC P G f oin argsC rv os') (k:fAV (renAV (bk V id) rv) fun v=>K v (backU V id os') V)
 (h1:(decide V.Nodup&&idsBL V.length argsC&&oin.all fun e=>idsBO V.length e.2)=true:=by exact rfl) (h2:oin.map (·.1)=List.range V.length:=by exact rfl)
 (h3:oin.map (fun e=>some (renO (bk V id) e.2))=V.map ol:=by first|exact rfl|(repeat' first|exact rfl|refine cons2 ?_ ?_|refine rowE ?_|(simp;done)|(rw[Yb];rfl)|exact map_set1|exact map_set2|exact map_set3|(simp only[YW];rfl)|(simp[outR];done)|(simp only[outR,Sum.elim_inr,id,Yb,YN];rfl))) (h4:renL (bk V id) argsC=avs:=by exact rfl):A∨CallG P G f avs ol id K:=
 .inr (ZhQ V c h1 h2 h3 h4 k)
theorem ch
 (V:List Nat) (c:FC P G f oin argsC rv oin) (k:fAV (renAV (bk V id) rv) fun v=>K v [] V)
 (h1:(decide V.Nodup&&idsBL V.length argsC&&oin.all fun e=>idsBO V.length e.2)=true:=by exact rfl) (h2:oin.map (·.1)=List.range V.length:=by exact rfl)
 (h3:oin.map (fun e=>some (renO (bk V id) e.2))=V.map ol:=by first|exact rfl|(repeat' first|exact rfl|refine cons2 ?_ ?_|refine rowE ?_|(simp;done)|(rw[Yb];rfl)|exact map_set1|exact map_set2|exact map_set3|(simp only[YW];rfl)|(simp[outR];done)|(simp only[outR,Sum.elim_inr,id,Yb,YN];rfl))) (h4:renL (bk V id) argsC=avs:=by exact rfl):A∨CallG P G f avs ol id K:=
 .inr (Zqi V c h1 h2 h3 h4 k)
def fOs:Os→(Os→Prop)→Prop
 | [],K=>K []
 |e::r,K=>fOs r fun l=>K (e::l)
theorem fOs_i:∀(l:Os) {K:Os→Prop},fOs l K→K l
 | [],_,h=>h
 |e::r,K,h=>fOs_i r (K:=fun l=>K (e::l)) h
def ii:Nat→List (Nat×Nat)→List (Nat×Nat)
 |0,l=>l
 |n+1,l=>ii n ((n,n)::l)
theorem kV{a b:AV}(h:Wk a b:=by repeat' first|exact Wk.eq rfl|exact Wk.esl|refine Wk.t ?_|refine Wk.a ?_|exact WkL.nil|refine WkL.cons ?_ ?_|exact Wk.eq (by first|(simp;done)|(rw[Yb];rfl)|exact map_set1|exact map_set2|exact map_set3|(simp only[YW];rfl)|(simp[outR];done)|(simp only[outR,Sum.elim_inr,id,Yb,YN];rfl))):Wk a b:=h
theorem kL{a b:List AV}(h:WkL a b:=by repeat' first|exact Wk.eq rfl|exact Wk.esl|refine Wk.t ?_|refine Wk.a ?_|exact WkL.nil|refine WkL.cons ?_ ?_|exact Wk.eq (by first|(simp;done)|(rw[Yb];rfl)|exact map_set1|exact map_set2|exact map_set3|(simp only[YW];rfl)|(simp[outR];done)|(simp only[outR,Sum.elim_inr,id,Yb,YN];rfl))):WkL a b:=h
theorem kO{a b:List (Option AO)}(h:WkOs a b:=by repeat' first|exact WkOs.nil|refine WkOs.cons ?_ ?_|exact WkO.eq (YL rfl)|(refine WkO.eq (YL (rowE ?_));first|(simp;done)|(rw[Yb];rfl)|(simp[outR];done)|(simp only[outR,Sum.elim_inr,id,Yb,YN];rfl))|refine WkO.r ?_|exact WkR.nil|refine WkR.cons ?_ ?_|refine kL|(refine WkR.of_eq ?_;first|(simp;done)|rfl|(rw[Yb];rfl)|exact map_set1|exact map_set2|exact map_set3|(simp only[YW];rfl)|(simp[outR];done)|(simp only[outR,Sum.elim_inr,id,Yb,YN];rfl))):WkOs a b:=h
theorem cW
 {os':List (Nat×AO)} (V:List Nat) (c:FC P G f oin argsC rv os') (k:fAV (renAV (bk V id) rv) fun v=>K v (backU V id os') V)
 (h1:(decide V.Nodup&&idsBL V.length argsC&&oin.all fun e=>idsBO V.length e.2)=true:=by exact rfl) (h2:oin.map (·.1)=List.range V.length:=by exact rfl)
 (h3:WkOs (V.map ol) (oin.map fun e=>some (renO (bk V id) e.2)):=by exact kO) (h4:WkL avs (renL (bk V id) argsC):=by exact kL):A∨CallG P G f avs ol id K:=.inr (ZsH V c h1 h2 h3 h4 k)
structure JB(m:Nat)(body:(Tm→Os→Nat→Prop)→Prop)(K:Tm→Os→Nat→Prop)(R A B:Prop):Prop where
 h:∃gx osx nx,(A→body (fun g' os' _=>R∧∃σ,Cov m g' os' σ gx osx nx))∧(B→K gx osx nx)
theorem jM{K:Tm→Os→Nat→Prop}(gx:Tm)(osx:Os)(nx:Nat)(b1:A→body (fun g' os' _=>R∧∃σ,Cov m g' os' σ gx osx nx))(b2:B→fOs osx fun o=>K gx o nx):JB m body K R A B:=⟨gx,osx,nx,b1,fun h=>fOs_i osx (b2 h)⟩
theorem jN{K:Tm→Os→Nat→Prop}{Z:Prop}{X:Option α}{g:α→Option β}{r:β}(h:Option.bind X g=some r)
 (k:∀y,JB m body K True (X=some y) (g y=some r)):Z∨Joins m body K:=by
 obtain⟨y,hy,h⟩:=ZaE h
 obtain⟨gx,osx,nx,b1,b2⟩:=(k y).h
 exact .inr (Zlw True gx osx nx (b1 hy) fun _=>b2 h)
theorem jS{K:Tm→Os→Nat→Prop}{Z:Prop}{R V:Type}[Inhabited V]{X:Option (R⊕V)}{f:R→Option β}{g:V→Option β}{r:β}(h:Option.bind X (fun o=>Sum.elim f g o)=some r)
 (k:∀o v,JB m body K (o=Sum.inr v) (X=some o∧Sum.elim f g o=some r∧outR o=v) (g v=some r)):Z∨Joins m body K:=by
 obtain⟨o,ho,h⟩:=ZaE h
 obtain⟨gx,osx,nx,b1,b2⟩:=(k o (outR o)).h
 exact .inr (Zlw (o=Sum.inr (outR o)) gx osx nx (b1 ⟨ho,h,rfl⟩) fun hR=>b2 (Zth hR h))
theorem jT{K:Tm→Os→Nat→Prop}{A1 A2 A3:Prop}(gx:Tm)(osx:Os)(nx:Nat)(b1:A1→A2→A3→body (fun g' os' _=>R∧∃σ,Cov m g' os' σ gx osx nx))(b2:B→fOs osx fun o=>K gx o nx):
 JB m body K R (A1∧A2∧A3) B:=⟨gx,osx,nx,fun h=>b1 h.1 h.2.1 h.2.2,fun h=>fOs_i osx (b2 h)⟩
theorem lI{g:Tm}{body:(Tm→Os→Nat→Prop)→Tm→Os→Nat→Prop}{γ:Type}(f:Nat→β→Option γ)(gx:β→Tm)(osx:β→Os)(nx:Nat){n:Nat}(x0:β)(σ0:List (Nat×Nat)){o:γ}(hI:f n x0=some o)
 (hr:∀n x,f (n+1) x=some o→fOs (osx x) fun oo=>body (fun g' os' _=>∃x' σ,(fun q:Nat×β=>f q.1 q.2=some o) x'∧(fun q:Nat×β=>q.1) x'<(fun q:Nat×β=>q.1) (n+1,x)∧Cov m g' os' σ ((fun q:Nat×β=>gx q.2) x') ((fun q:Nat×β=>osx q.2) x') nx) (gx x) oo nx)
 (h2:(gx x0).map (fun e=>renAV (ap σ0) e.2)=(gx x0).map (fun e=>lookG g e.1):=by repeat' first|exact rfl|refine cons2 ?_ ?_|refine YI AV.sl ?_|(simp;done)|(rw[Yb];rfl)|exact map_set1|exact map_set2|exact map_set3|(simp only[YW];rfl)|(simp[outR];done)|(simp only[outR,Sum.elim_inr,id,Yb,YN];rfl))
 (h3:(osx x0).map (fun e=>some (renO (ap σ0) e.2))=(osx x0).map (fun e=>lk os (ap σ0 e.1)):=by first|exact rfl|(repeat' first|exact rfl|refine cons2 ?_ ?_|refine rowE ?_|(simp;done)|(rw[Yb];rfl)|exact map_set1|exact map_set2|exact map_set3|(simp only[YW];rfl)|(simp[outR];done)|(simp only[outR,Sum.elim_inr,id,Yb,YN];rfl)))
 (h1:((gx x0).all (fun e=>idsB nx e.2)&&(osx x0).all (fun e=>decide (e.1<nx)&&idsBO nx e.2)&&decide (((osx x0).map fun e=>ap σ0 e.1).Nodup)&&decide (m≤nx)&&(List.range m).all (fun j=>ap σ0 j==j))=true:=by exact rfl)
 (hz:∀x,f 0 x=none:=by exact fun _=>rfl):Loops m g os body:=
 Zio (fun q:Nat×β=>gx q.2) (fun q=>osx q.2) nx (fun q=>f q.1 q.2=some o) (fun q=>q.1) (n,x0) σ0 hI h2 h3 h1 (by
  rintro⟨n,x⟩ h
  cases n with
  |zero=>simp_all
  |succ n=>exact fOs_i _ (hr n x h))
theorem eE(σ:List (Nat×Nat))(hR:R:=by first|trivial|rfl)
 (h2:gx.map (fun e=>renAV (ap σ) e.2)=gx.map (fun e=>lookG g' e.1):=by exact rfl)
 (h3:osx.map (fun e=>some (renO (ap σ) e.2))=osx.map (fun e=>lk os' (ap σ e.1)):=by repeat' first|exact rfl|refine cons2 ?_ ?_|refine rowE ?_|(simp;done)|(rw[Yb];rfl)|exact map_set1|exact map_set2|exact map_set3|(simp only[YW];rfl)|(simp[outR];done)|(simp only[outR,Sum.elim_inr,id,Yb,YN];rfl))
 (h1:(gx.all (fun e=>idsB nx e.2)&&osx.all (fun e=>decide (e.1<nx)&&idsBO nx e.2)&&decide ((osx.map fun e=>ap σ e.1).Nodup)&&decide (m≤nx)&&(List.range m).all (fun j=>ap σ j==j))=true:=by exact rfl):
 R∧∃σ,Cov m g' os' σ gx osx nx:=end_i hR σ h2 h3 h1
theorem gE{v:AV}(σ:List (Nat×Nat))(h2:renAV (ap σ) rv=v:=by exact rfl)
 (h3:os'.map (fun e=>some (renO (ap σ) e.2))=os'.map (fun e=>lk os (ap σ e.1)):=by repeat' first|exact rfl|refine cons2 ?_ ?_|refine rowE ?_|(simp;done)|(rw[Yb];rfl)|exact map_set1|exact map_set2|exact map_set3|(simp only[YW];rfl)|(simp[outR];done)|(simp only[outR,Sum.elim_inr,id,Yb,YN];rfl))
 (h1:(idsB W rv&&os'.all (fun e=>decide (e.1<W)&&idsBO W e.2)&&decide ((os'.map fun e=>ap σ e.1).Nodup)&&decide (m≤W)&&(List.range m).all (fun j=>ap σ j==j))=true:=by exact rfl):
 EndG m rv os' v os:=ZeP σ h2 h3 h1
theorem rE{gx:α→Tm}{osx:α→Os}{I:α→Prop}{μ:α→Nat}{x:α}(x':α)(σ:List (Nat×Nat))(hI:I x')(hμ:μ x'<μ x:=by exact V0 _)
 (h2:(gx x').map (fun e=>renAV (ap σ) e.2)=(gx x').map (fun e=>lookG g' e.1):=by exact rfl)
 (h3:(osx x').map (fun e=>some (renO (ap σ) e.2))=(osx x').map (fun e=>lk os' (ap σ e.1)):=by repeat' first|exact rfl|refine cons2 ?_ ?_|refine rowE ?_|(simp;done)|(rw[Yb];rfl)|exact map_set1|exact map_set2|exact map_set3|(simp only[YW];rfl)|(simp[outR];done)|(simp only[outR,Sum.elim_inr,id,Yb,YN];rfl))
 (h1:((gx x').all (fun e=>idsB nx e.2)&&(osx x').all (fun e=>decide (e.1<nx)&&idsBO nx e.2)&&decide (((osx x').map fun e=>ap σ e.1).Nodup)&&decide (m≤nx)&&(List.range m).all (fun j=>ap σ j==j))=true:=by exact rfl):
 ∃x' σ,I x'∧μ x'<μ x∧Cov m g' os' σ (gx x') (osx x') nx:=ZhE x' σ hI hμ h2 h3 h1
theorem rV{gx:α→Tm}{osx:α→Os}{I:α→Prop}{μ:α→Nat}{x:α}(x':α)(σ:List (Nat×Nat))(hI:I x')(hμ:μ x'<μ x:=by exact V0 _)
 (h2:(gx x').map (fun e=>renAV (ap σ) e.2)=(gx x').map (fun e=>lookG g' e.1):=by repeat' first|exact rfl|refine cons2 ?_ ?_|refine YI AV.sl ?_|(simp;done)|(rw[Yb];rfl)|exact map_set1|exact map_set2|exact map_set3|(simp only[YW];rfl)|(simp[outR];done)|(simp only[outR,Sum.elim_inr,id,Yb,YN];rfl))
 (h3:(osx x').map (fun e=>some (renO (ap σ) e.2))=(osx x').map (fun e=>lk os' (ap σ e.1)):=by repeat' first|exact rfl|refine cons2 ?_ ?_|refine rowE ?_|(simp;done)|(rw[Yb];rfl)|exact map_set1|exact map_set2|exact map_set3|(simp only[YW];rfl)|(simp[outR];done)|(simp only[outR,Sum.elim_inr,id,Yb,YN];rfl))
 (h1:((gx x').all (fun e=>idsB nx e.2)&&(osx x').all (fun e=>decide (e.1<nx)&&idsBO nx e.2)&&decide (((osx x').map fun e=>ap σ e.1).Nodup)&&decide (m≤nx)&&(List.range m).all (fun j=>ap σ j==j))=true:=by exact rfl):
 ∃x' σ,I x'∧μ x'<μ x∧Cov m g' os' σ (gx x') (osx x') nx:=ZhE x' σ hI hμ h2 h3 h1
theorem eV(σ:List (Nat×Nat))(hR:R:=by first|trivial|rfl)
 (h2:gx.map (fun e=>renAV (ap σ) e.2)=gx.map (fun e=>lookG g' e.1):=by repeat' first|exact rfl|refine cons2 ?_ ?_|refine YI AV.sl ?_|(simp;done)|(rw[Yb];rfl)|exact map_set1|exact map_set2|exact map_set3|(simp only[YW];rfl)|(simp[outR];done)|(simp only[outR,Sum.elim_inr,id,Yb,YN];rfl))
 (h3:osx.map (fun e=>some (renO (ap σ) e.2))=osx.map (fun e=>lk os' (ap σ e.1)):=by repeat' first|exact rfl|refine cons2 ?_ ?_|refine rowE ?_|(simp;done)|(rw[Yb];rfl)|exact map_set1|exact map_set2|exact map_set3|(simp only[YW];rfl)|(simp[outR];done)|(simp only[outR,Sum.elim_inr,id,Yb,YN];rfl))
 (h1:(gx.all (fun e=>idsB nx e.2)&&osx.all (fun e=>decide (e.1<nx)&&idsBO nx e.2)&&decide ((osx.map fun e=>ap σ e.1).Nodup)&&decide (m≤nx)&&(List.range m).all (fun j=>ap σ j==j))=true:=by exact rfl):
 R∧∃σ,Cov m g' os' σ gx osx nx:=end_i hR σ h2 h3 h1
theorem eW(σ:List (Nat×Nat))(hR:R:=by first|trivial|rfl)
 (h2:WkL (gx.map fun e=>lookG g' e.1) (gx.map fun e=>renAV (ap σ) e.2):=by exact kL) (h3:WkOs (osx.map fun e=>lk os' (ap σ e.1)) (osx.map fun e=>some (renO (ap σ) e.2)):=by exact kO)
 (h1:(gx.all (fun e=>idsB nx e.2)&&osx.all (fun e=>decide (e.1<nx)&&idsBO nx e.2)&&decide ((osx.map fun e=>ap σ e.1).Nodup)&&decide (m≤nx)&&(List.range m).all (fun j=>ap σ j==j))=true:=by exact rfl):
 R∧∃σ,Cov m g' os' σ gx osx nx:=end_w hR σ h2 h3 h1
theorem gW{v:AV}(σ:List (Nat×Nat))(h2:Wk v (renAV (ap σ) rv):=by exact kV)
 (h3:WkOs (os'.map fun e=>lk os (ap σ e.1)) (os'.map fun e=>some (renO (ap σ) e.2)):=by exact kO)
 (h1:(idsB W rv&&os'.all (fun e=>decide (e.1<W)&&idsBO W e.2)&&decide ((os'.map fun e=>ap σ e.1).Nodup)&&decide (m≤W)&&(List.range m).all (fun j=>ap σ j==j))=true:=by exact rfl):
 EndG m rv os' v os:=Ztg σ h2 h3 h1
theorem aE{args':List AV}(h:FC P G f [] args rv os)
 (e:args=args':=by repeat' first|exact rfl|refine cons2 ?_ ?_|refine YI AV.agg ?_|refine YI AV.sl ?_|(simp;done)|(rw[Yb];rfl)|exact map_set1|exact map_set2|exact map_set3|(simp only[YW];rfl)|(simp[outR];done)|(simp only[outR,Sum.elim_inr,id,Yb,YN];rfl)):FC P G f [] args' rv os:=e▸h
theorem aW{args':List AV}{os':List (Nat×AO)}(h:FC P G f oin args' rv os')(hw:WkL args args':=by exact kL):FC P G f oin args rv os':=Zku hw h
theorem fA{fn:Func}{c:Code}(hf:P.funcs[f]? =some fn)
 (h:xcode P G ⟨0,fn.ntmps,false⟩ 0 (finC P fn.results.toList fun r=>r=rv) 2000 [.code c] (argsG args 0) [] W) (hb:fn.body=some c:=by exact rfl)
 (hn:callB P f=true:=by kernel_rfl) (hm:P.follows .mixedOrders=true:=by exact mixed) (hsz:args.length≤fn.ntmps:=by exact W0 rfl):FC P G f [] args rv []:=FC_of 2000 hf hb hn hm hsz h
theorem fK{fn:Func}{c:Code}(hf:P.funcs[f]? =some fn)
 (h:xcode P G ⟨0,fn.ntmps,false⟩ 0 (finC P fn.results.toList fun r=>Wk r rv) 2000 [.code c] (argsG args 0) [] W) (hb:fn.body=some c:=by exact rfl)
 (hn:callB P f=true:=by kernel_rfl) (hm:P.follows .mixedOrders=true:=by exact mixed) (hsz:args.length≤fn.ntmps:=by exact W0 rfl):FC P G f [] args rv []:=Ztr 2000 hf hb hn hm hsz h
theorem fG{fn:Func}{c:Code}{oin:Os}(hf:P.funcs[f]? =some fn)
 (h:fOs oin fun oo=>xcode P G ⟨0,fn.ntmps,false⟩ oin.length (finG P fn.results.toList oin.length (EndG oin.length rv os')) 2000 [.code c] (argsG args 0) oo W) (hb:fn.body=some c:=by exact rfl)
 (hn:callB P f=true:=by kernel_rfl) (hm:P.follows .mixedOrders=true:=by exact mixed) (hsz:args.length≤fn.ntmps:=by exact W0 rfl)
 (hin:oin.length≤W:=by exact W0 rfl) (hos:(os'.all fun e=>decide (e.1<W))=true:=by exact rfl):FC P G f oin args rv os':=Zfr 2000 hf hb hn hm hsz hin hos (fOs_i oin h)
def pp(n:Nat):AV:=.ptr n 0 0
def rF(r:List AV):AO:=.rows false [r]
def rT{α:Type}(c:α→List AV)(l:List α):AO:=.rows true (List.map c l)
def sM{α:Type}(c:α→List AV)(l:List α):AV:=.sl (List.map c l)
def tX(_:List (Nat×Nat))(P:Prop):Prop:=P
theorem tI{σ:List (Nat×Nat)}{P:Prop}(h:let _s:=σ;P):tX σ P:=h
theorem eQ(σ:List (Nat×Nat))(h:R∧
 gx.map (fun e=>renAV (ap σ) e.2)=gx.map (fun e=>lookG g' e.1)∧osx.map (fun e=>some (renO (ap σ) e.2))=osx.map (fun e=>lk os' (ap σ e.1))∧
 (gx.all (fun e=>idsB nx e.2)&&osx.all (fun e=>decide (e.1<nx)&&idsBO nx e.2)&&decide ((osx.map fun e=>ap σ e.1).Nodup)&&decide (m≤nx)&&(List.range m).all (fun j=>ap σ j==j))=true):
 R∧∃σ,Cov m g' os' σ gx osx nx:=end_i h.1 σ h.2.1 h.2.2.1 h.2.2.2
theorem gQ{v:AV}(σ:List (Nat×Nat))(h:renAV (ap σ) rv=v∧os'.map (fun e=>some (renO (ap σ) e.2))=os'.map (fun e=>lk os (ap σ e.1))∧
 (idsB W rv&&os'.all (fun e=>decide (e.1<W)&&idsBO W e.2)&&decide ((os'.map fun e=>ap σ e.1).Nodup)&&decide (m≤W)&&(List.range m).all (fun j=>ap σ j==j))=true):
 EndG m rv os' v os:=ZeP σ h.1 h.2.1 h.2.2
theorem qE(σ:List (Nat×Nat)){P:Prop}(w:tX σ P:=by
 refine tI ?_;intro s
 repeat' ((conv=>whnf);first|refine oL ?_|refine bT h fun h=>?_|refine bF h fun h=>?_|refine bS h (fun h=>?_) fun h=>?_|(cases h;done)|(refine eQ s ?_;cases h;first|exact⟨trivial,rfl,rfl,rfl⟩|exact⟨rfl,rfl,rfl,rfl⟩|(cases e;exact⟨rfl,rfl,rfl,rfl⟩))|refine gX h fun h=>?_|refine aX ?_|refine gS h fun h=>?_)):P:=w
theorem qG(σ:List (Nat×Nat)){P:Prop}(w:tX σ P:=by
 refine tI ?_;intro s
 repeat' ((conv=>whnf);first|refine oL ?_|refine bT h fun h=>?_|refine bF h fun h=>?_|refine bS h (fun h=>?_) fun h=>?_|(cases h;done)|(refine gQ s ?_;cases h;exact⟨rfl,rfl,rfl⟩)|refine gX h fun h=>?_|refine aX ?_|refine gS h fun h=>?_)):P:=w
theorem qR{P:Prop}(w:P:=by
 repeat' ((conv=>whnf);first|refine oL ?_|refine bT h fun h=>?_|refine bF h fun h=>?_|refine bS h (fun h=>?_) fun h=>?_|(cases h;done)|(cases h;exact rfl)|refine gX h fun h=>?_|refine aX ?_|refine gS h fun h=>?_)):P:=w
theorem qK{P:Prop}(w:P:=by
 repeat' ((conv=>whnf);first|refine oL ?_|refine bT h fun h=>?_|refine bF h fun h=>?_|refine bS h (fun h=>?_) fun h=>?_|(cases h;done)|(cases h;exact kV)|refine gX h fun h=>?_|refine aX ?_|refine gS h fun h=>?_)):P:=w
end Go.Ab
