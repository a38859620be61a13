import Derived.Shelf.Spec.SlicesInsert
import Derived.Lib.AppendZerosOnto
import Derived.Test.YtjpmdkgonlmddaaGreatDoorAbJ
set_option linter.unusedVariables false
namespace Go.Ab
open Go.Proofs
section
variable {P:Program}{i sz:Nat}{p:Bool}{s:List (List AV)}{w:World}
theorem ZlY(w:World)(t e ty:TypeId)(i:TypeInfo)(z:Value)(x:P.underlying t=some (.slice e))(A:P.info? e=some i)(y:i.zero=some z)(b o c:Nat)(p:List Value)
 (u:(Builtin.zeroCells z.cells 1).toList=p) (h1:∀v∈p,v.oneCell'=true)
 (hc:∀j<p.length,(w.cell? ⟨b,o+j,none⟩).isSome=true) (hf:∀j<p.length,w.frozen? ⟨b,o+j,none⟩=false):
 (Builtin.clear_ #[t] ty #[.slice (some ⟨b,o,none⟩) 1 c]).run P w=.ok (.tuple #[]) (w.setCells b o p):=by
 have q:=VN (P:=P) b o p 0 w (by omega) (by omega) h1
 simp only[WC]at q;simp[Builtin.clear_,Yb x,zeroValue,typeInfo,A,y,u,q]
theorem Z3{S0:Nat→Prop}{ι0:bp}{w0 w':World}{cQ:Os}{k z:Nat}{R:List (List AV)}{us:List Value}{L:Loc}{cap:Nat}
 (H:∀b,S0 b→b<w0.heap.size) (hι:∀o,cQ.length≤o→ι0 o=none) (hk:cQ.length≤k) (U:k<W)
 (C:Fr (dR w0 ι0 cQ) w0 w') (M:dR w0 ι0 cQ L.bB) (hS:¬S0 L.bB) (O:L.bB<w'.heap.size)
 (q:R.length=L.eA) (V:lh w' L) (Q:Flat p S0 w' ι0 L.bX R us) (X:∀(j:Nat) v,us[j]? =some v→fC w' L.bB (L.base+j)=some v)
 (h1:R.length≤cap) (T:L.base+cap*L.bX≤L.size) (h3:R.length≤bI) (h0:R.length=0→L.bX=z):
 ∃v S' ι',Ending.returned (.slice (some ⟨L.bB,L.base,none⟩) R.length cap)=.returned v∧Fr (dR w0 ι0 cQ) w0 w'∧
  (∀b,S' b→(S0 b∨dR w0 ι0 cQ b)∧b<w'.heap.size)∧(∀b,S0 b→S' b)∧ι0.le ι'∧(∀o,W≤o→ι' o=none)∧
  cz S' w' ι' (.bf k z) v∧kh (dR w0 ι0 cQ) S' w' ι' (lk [(k,.rows p R)]):=by
 have A:ι0.le (λ o=>if o=k then some (some L)else ι0 o):=λ o x e=>by
  grind
 have y:∀o x,lk [(k,AO.rows p R)] o=some x→o=k∧x=.rows p R:=λ o x h=>by
  simp only[lk]at h;simp_all
 have i:(λ o=>if o=k then some (some L)else ι0 o) k=some (some L):=by simp
 refine⟨_,S0,_,rfl,C,λ b E=>⟨.inl E,Wx (H b E) C.size⟩,λ _ h=>h,A,λ o ho=>?_,?_,⟨?_,?_,?_⟩⟩
 ·grind
 ·have hR:cz S0 w' (λ o=>if o=k then some (some L)else ι0 o) (.bf k z) (.slice (some ⟨L.bB,L.base,none⟩) L.eA cap):=
   cz.bf k z cap _ _ i (by omega) T (by omega) (λ h _=>h0 (by omega)) (λ _=>rfl)
  simp_all
 ·intro o x F;obtain⟨rfl,rfl⟩:=y o x F;have B:=Q.mono (λ _ h=>h) (λ _ _=>rfl) A;refine .inr ⟨L,_,i,q,V,B.at X ?_,B.rows⟩
  have:R.length*L.bX≤cap*L.bX:=YK _ h1;omega
 ·intro o x F _ l u b E;obtain⟨rfl,rfl⟩:=y o x F;have J:=i.symm.trans u;injection J with u;injection u with u;subst u;obtain rfl:=iY rfl E;simp_all
 grind
theorem Pg{Ow:Nat→Prop}{w0:World}(h:Fr Ow w0 w){b:Nat}(j:Ow b)(o:Nat)(vs:List Value):Fr Ow w0 (w.setCells b o vs):=by
 have p:=zP w b vs o;refine⟨?_,?_,by rw[p];exact h.size,λ c i hn=>?_⟩
 ·rw[←h.os];exact World.os_setCells w b o vs
 ·rw[←h.output];exact World.output_setCells w b o vs
 ·rw[V3 w b o vs (Wx i h.size) (λ e=>hn (e▸j))];exact h.old c i hn
structure wV(P:Program)(f:Nat)(sz:Nat):Prop where
 call:fe P f=true
 del:∀(b off n c i:Nat) (cs:List Value) (w:World),i<n→n≤c→n≤bI→cs.length=n*sz→(∀(j:Nat) v,cs[j]? =some v→w.cell? ⟨b,off+j,none⟩=some v)→
  (∀j,j<n*sz→w.frozen? ⟨b,off+j,none⟩=false)→(∀v∈cs,v.oneCell'=true)→
  Calls P f #[.slice (some ⟨b,off,none⟩) n c,.int .i64 i,.int .i64 ((i:Int)+1)] w λ e w'=>
   ∃zs:List Value,e=.returned (.slice (some ⟨b,off,none⟩) (n-1) c)∧zs.length=sz∧w'=(w.drew.setCells b (off+i*sz) (cs.drop ((i+1)*sz))).setCells b (off+(n-1)*sz) zs
theorem Za{S:Nat→Prop}{ι:bp}{us:List Value}(h:Flat p S w ι sz s us)(o:i<s.length):
 Flat p S w ι sz (s.take i++s.drop (i+1)) (us.take (i*sz)++us.drop ((i+1)*sz)):=by
 have q:∀(rs:List (List AV)) (i:Nat),(∀r∈rs,r.length=sz)→i≤rs.length→(rs.take i).flatten=rs.flatten.take (i*sz)∧(rs.drop i).flatten=rs.flatten.drop (i*sz):=by
  intro rs;induction rs with
  |nil=>simp
  |cons r rs ih=>
   intro i x o;cases i with
   |zero=>simp
   |succ i=>
    have j:=x r (by simp)
    obtain⟨h1,z⟩:=ih i (λ r j=>x r (by simp[j])) (by simp_all)
    have e:(i+1)*sz=r.length+i*sz:=by rw[Wg,j];omega
    refine⟨?_,?_⟩
    ·grind
    ·rw[List.drop_succ_cons,Wu,z,e,List.drop_length_add_append]
 have y:Flat p S w ι sz (s.take i) (us.take (i*sz)):=by
  refine⟨λ r j=>h.rl r (YZ j),?_,λ v u=>h.one v (YZ u),?_⟩
  ·rw[Y9,Y9,h.len,YY (Vh o),YY (YK _ (Vh o))]
  ·rw[(q s i h.rl (Vh o)).1];exact h.rep.take _
 have hd:Flat p S w ι sz (s.drop (i+1)) (us.drop ((i+1)*sz)):=by
  refine⟨λ r j=>h.rl r (Wq j),?_,λ v u=>h.one v (Wq u),?_⟩
  ·rw[Yw,Yw,h.len,Nat.sub_mul]
  ·rw[(q s (i+1) h.rl o).2];exact h.rep.drop _
 have:=y.append hd;simp_all
theorem ZE{G:eo}{f:Nat}(hI:wV P f sz)(fg:1<sz)(hs:∀r∈s,r.length=sz)
 (hi:i<s.length):FC P G f [(0,.rows p s)] [.bf 0 sz,.int .i64 i,.int .i64 ((i:Int)+1)] (.bf 1 sz) [(1,.rows p (s.take i++s.drop (i+1)))]:=by
 refine⟨hI.call,λ o x hx=>?_,λ S0 ι0 w0 vs O hG y hι LJ=>?_⟩
 ·have:=uJ hx;simp only[Yu,WV]at this;rw[this.1];unfold W;omega
 obtain⟨vs⟩:=vs;obtain⟨T,u⟩:=LJ
 match vs,T with
 | [v0,v1,v2],_=>
  have r0:=u 0 _ v0 rfl rfl;obtain rfl:=(u 1 _ v1 rfl rfl).bU;obtain rfl:=(u 2 _ v2 rfl rfl).bU;rcases kZ r0 with ⟨l,a,cap,V,rfl,b1,b2,b3,bz,ba⟩|⟨V,a,rfl⟩
  ·rcases y.ob 0 (.rows p s) rfl with ⟨h,_⟩|⟨l',bc,q,U,hm,eY,yT⟩
   ·simp_all
   rw[V]at q;injection q with q;injection q with q;subst q;obtain⟨us,E,H⟩:=E4 eY yT 0 s.length (by omega)
   simp only[VK,W7,VV,WC]at E H;obtain rfl:=ba (by omega)
   have M:l.bX=sz:=by
    obtain⟨r,hr⟩:=V4 s (λ h=>by simp_all)
    exact(E.rl r hr).symm.trans (hs r hr)
   rw[M]at E;have Le:=E.len;have B:dR w0 ι0 [(0,.rows p s)] l.bB:=.inr ⟨0,.rows p s,l,rfl,rfl,V,.inl rfl⟩;obtain⟨_,Rs,iU⟩:=y.own 0 (.rows p s) rfl rfl l V _ (.inl rfl);rw[←U];rw[←U]at b1 b3;rw[M]at b2;have yZ:∀j,w0.frozen? ⟨l.bB,j,none⟩=false:=λ j=>(hm j).2 (.inr (by omega))
   have Br:s.length*sz≤cap*sz:=YK _ b1;have iV:(i+1)*sz=i*sz+sz:=by rw[Wg];omega
   have mO:(i+1)*sz≤s.length*sz:=YK _ hi;have HI:(s.length-1)*sz=s.length*sz-sz:=by rw[Nat.sub_mul];omega
   have C:∀j,j<s.length*sz→(w0.cell? ⟨l.bB,l.base+j,none⟩).isSome=true:=λ j hj=>by
    simp_all
   refine(hI.del l.bB l.base s.length cap i us w0 hi b1 b3 Le H (λ j _=>yZ _) E.one).mono ?_;rintro e' w' ⟨Z,rfl,ua,rfl⟩
   have F:Fr (dR w0 ι0 [(0,.rows p s)]) w0 w0.drew:=⟨rfl,rfl,Yg _,λ _ _ _=>rfl⟩;have R:=Pg (Pg F B (l.base+i*sz) (us.drop ((i+1)*sz))) B (l.base+(s.length-1)*sz) Z
   have Rv:lh w0.drew l:=hm;have Q:=(Rv.setCells (l.base+i*sz) (us.drop ((i+1)*sz))).setCells (l.base+(s.length-1)*sz) Z;have A:gA S0 w0 ((w0.drew.setCells l.bB (l.base+i*sz) (us.drop ((i+1)*sz))).setCells l.bB (l.base+(s.length-1)*sz) Z):=λ b hb=>R.old b (O b hb) (λ hO=>by
    rcases hO with h|⟨o,x,l',t1,t2,t3,t4⟩
    ·grind
    ·exact(y.own o x t1 t2 l' t3 b t4).2.1 hb)
   have SB:=Za (E.mono (λ _ h=>h) A (bp.le_refl _)) hi;have Sp:(s.take i++s.drop (i+1)).length=s.length-1:=by
    simp only[Y8,Y9,Yw];omega
   have my:(w0.drew.setCells l.bB (l.base+i*sz) (us.drop ((i+1)*sz))).heap.size=w0.heap.size:=(zP _ _ _ _).trans rfl;have:=Z3 (k:=1) (z:=sz) (cap:=cap) (L:=⟨l.bB,l.base,sz,l.size,s.length-1⟩) O hι (by simp) (by unfold W;omega) R B Rs (by
    show l.bB<_;rw[zP,my];exact iU)
    Sp (λ j=>⟨(Q j).1,λ h=>(Q j).2 (by omega)⟩) SB (λ j v X=>?_) (by omega) (by omega) (by omega) (λ _=>rfl)
   ·simp_all
   ·have hj:=fD X;have J:(us.take (i*sz)).length=i*sz:=by rw[Y9];omega
    have Y:(us.drop ((i+1)*sz)).length=s.length*sz-(i+1)*sz:=by rw[Yw];omega
    rw[Y8,J,Y]at hj;show((w0.drew.setCells _ _ _).setCells _ _ _).cell? ⟨l.bB,l.base+j,none⟩=_;rw[Wy _ _ _ _ _ (λ _ _=>.inl (by grind))]
    by_cases c1:j<i*sz
    ·rw[Wy _ _ _ _ _ (λ _ _=>.inl (by simp_all))]
     rw[Yt (by omega),Ww,if_pos c1]at X
     simp_all
    ·rw[Yl (by omega),J]at X
     have RM:=fD X;have:=V9 l.bB (us.drop ((i+1)*sz)) (l.base+i*sz) w0.drew (λ t ht=>by
      rw[WW];exact C _ (by omega)) (j-i*sz) RM
     grind
  ·rcases y.ob 0 (.rows p s) rfl with ⟨_,h⟩|⟨l',bc,q,_⟩
   all_goals simp_all
end
section
variable {i:Nat}{α:Type}
theorem TW{P:Program}{G:eo}{f:Nat}{fn:Func}{c:Code}{args:List AV}{rv:AV}(F:Nat)(hf:P.funcs[f]? =some fn)(A:fn.body=some c)
 (hn:fe P f=true) (Z:P.follows .mixedOrders=true) (J:args.length≤fn.ntmps)
 (h:ep P G ⟨0,fn.ntmps,false⟩ 0 (uB P fn.results.toList λ r=>Wk r rv) F [.code c] (iw args 0) [] W):FC P G f [] args rv []:=by
 refine⟨hn,λ o x y=>by simp[lk]at y,λ S0 ι0 w0 vs h0 hG M hι hL=>?_⟩
 have Q:∀j L,ι0 j=some L→j<([]:Os).length:=λ j L e=>by simp_all
 have E:=JP (fn:=fn) J h0 hG M hι (YL _) Q hL;refine J1 Z hf A ⟨rfl,rfl⟩ E h ?_;intro N dfs qb g os C S ι un a w u;obtain⟨rs,T,Y⟩:=bN C;obtain⟨X,O,V⟩:=bN Y;rw[lY]at V;obtain⟨v,iR,R⟩:=J0 (P:=P) u T;have U:=xZ u.ob 8 _ _ _ R O;have hR:∃v' S' ι',Ending.returned v=.returned v'∧Fr (dR w0 ι0 []) w0 w∧(∀b,S' b→(S0 b∨dR w0 ι0 [] b)∧b<w.heap.size)∧(∀b,S0 b→S' b)∧ι0.le ι'∧
  (∀o,W≤o→ι' o=none)∧cz S' w ι' rv v'∧kh (dR w0 ι0 []) S' w ι' (lk []):=by
  refine⟨v,SV S ι (dn g os).os (os.map (·.1)),ι0,rfl,u.fr,λ b A=>⟨?_,nE u _ b A⟩,?_,bp.le_refl _,λ o _=>hι o (YL _),.cu _ _ (V.w7 _ U),
   ⟨λ o x y=>by simp[lk]at y,λ o x y=>by simp_all,λ o o' x x' y=>by simp_all⟩⟩
  ·rcases A with A|⟨o,x,l,_,y,B,rfl⟩
   ·exact u.sn b A
   ·by_cases i:x.live=true
    ·exact .inr (u.own o x y i l B _ (.inl rfl)).1
    ·have H:=u.ob o x y;cases x with
     |dD rs=>
      rcases H with ⟨q,_⟩|⟨l',bc,q,_,hS,_⟩
      ·simp_all
      ·rw[q]at B;injection B with B;injection B with B;subst B;exact u.sn _ hS
     |rows p rs=>exact absurd rfl i
     |bm p es=>exact absurd rfl i
     |cw z fs hh=>exact absurd rfl i
     |cF es hh=>exact absurd rfl i
     |lit rs=>exact absurd rfl i
  ·exact λ b A=>.inl (u.s0 b A)
 simp_all
abbrev aI(n:Int):AV:=.int .i64 n
theorem oL{a b:Prop}(h:a):a∨b:=.inl h
theorem bC{b:Bool}{X Y:Option α}{r:α}{A B:Prop}(h:cond b X Y=some r)(h1:b=true→X=some r→A)(j:b=false→Y=some r→B):uF b A B:=
 iv (λ i=>h1 i (si h i)) (λ i=>j i (sh h i))
theorem oG{c:α→List AV}{L:List α}{y:α}{K:List AV→Prop}(h:L[i]? =some y)(k:K (c y)):opt ((L.map c)[i]?) K:=fX (c y) (oj rfl h) k
theorem eI{m:Nat}{R:Prop}{gx:Tm}{dm:Os}{nx:Nat}{g':Tm}{cr:Os}(σ:List (Nat×Nat))(i:R:=by first|trivial|rfl)
 (o:gx.map (λ e=>cY (ap σ) e.2)=gx.map (λ e=>cO g' e.1):=by exact rfl) (p:dm.map (λ e=>some (dq (ap σ) e.2))=dm.map (λ e=>lk cr (ap σ e.1)):=by exact rfl)
 (h1:(gx.all (λ e=>fu nx e.2)&&dm.all (λ e=>decide (e.1<nx)&&dt nx e.2)&&decide ((dm.map λ e=>ap σ e.1).Nodup)&&decide (m≤nx)&&(List.range m).all (λ j=>ap σ j==j))=true:=by exact rfl):
 R∧∃σ,kx m g' cr σ gx dm nx:=pd i σ o p h1
theorem gI{m:Nat}{rv:AV}{cr:Os}{v:AV}{os:Os}(σ:List (Nat×Nat))(i:cY (ap σ) rv=v:=by exact rfl)
 (o:cr.map (λ e=>some (dq (ap σ) e.2))=cr.map (λ e=>lk os (ap σ e.1)):=by exact rfl)
 (h1:(fu W rv&&cr.all (λ e=>decide (e.1<W)&&dt W e.2)&&decide ((cr.map λ e=>ap σ e.1).Nodup)&&decide (m≤W)&&(List.range m).all (λ j=>ap σ j==j))=true:=by exact rfl):
 jD m rv cr v os:=lH σ i o h1
end
variable {A B R:Prop}{G:eo}{K:AV→List (Nat×Option AO)→bL→Prop}{P:Program}{args bY kf:List AV}{body:(Tm→Os→Nat→Prop)→Prop}{f id m nx:Nat}{g' gx:Tm}{cQ:List (Nat×AO)}{ol:Nat→Option AO}{os cr dm:Os}{rv:AV}{α β:Type}
theorem kC{a b:List (List AV)}{p:Bool}(h:a=b):some (AO.rows p a)=some (AO.rows p b):=by rw[h]
theorem rQ{a b:α}(h:a=b:=by first|rfl|(simp;done)|(rw[Yj];rfl)|exact dA|exact dz|exact dy|(simp only[Wm];rfl)|(simp[ea];done)|(simp only[ea,YG,id,Yj,Wa];rfl)):a=b:=h
theorem bS{b b':Bool}{X Y:Option α}{r:α}(h:cond b' X Y=some r)(h1:X=some r→A)(o:Y=some r→B)
 (e1:b=true→b'=true:=by intro i;first|exact i|(simp;done)|simpa using i|simpa[chunk]using i|(simp[chunk]at i⊢;omega))
 (j:b=false→b'=false:=by intro i;first|exact i|(simp;done)|simpa using i|simpa[chunk]using i|(simp[chunk]at i⊢;omega)):uF b A B:=
 iv (λ i=>h1 (si h (e1 i))) (λ i=>o (sh h (j i)))
theorem bT{b b':Bool}{Y:Option α}{r:α}(h:cond b' none Y=some r)(o:Y=some r→B)
 (e1:b=true→b'=true:=by intro i;first|exact i|(simp;done)|simpa using i|simpa[chunk]using i|(simp[chunk]at i⊢;omega))
 (j:b=false→b'=false:=by intro i;first|exact i|(simp;done)|simpa using i|simpa[chunk]using i|(simp[chunk]at i⊢;omega)):uF b A B:=
 iv (λ i=>by simp_all) (λ i=>o (sh h (j i)))
theorem bF{b b':Bool}{X:Option α}{r:α}(h:cond b' X none=some r)(h1:X=some r→A)
 (e1:b=true→b'=true:=by intro i;first|exact i|(simp;done)|simpa using i|simpa[chunk]using i|(simp[chunk]at i⊢;omega))
 (e2:b=false→b'=false:=by intro i;first|exact i|(simp;done)|simpa using i|simpa[chunk]using i|(simp[chunk]at i⊢;omega)):uF b A B:=
 iv (λ i=>h1 (si h (e1 i))) (λ i=>by simp_all)
theorem gS{p q:Prop}{_:Decidable q}{X:Option α}{r:α}{b:Prop}(h:cond (decide q) X none=some r)(k:X=some r→b)
 (e:q→p:=by intro i;first|exact i|(simp;done)|simpa using i|simpa[chunk]using i|(simp[chunk]at i⊢;omega)):p∧b:=
 ⟨e (dU h).1,k (dU h).2⟩
theorem gX{q:Prop}{_:Decidable q}{X:Option α}{r:α}{b:Prop}(h:cond (decide q) X none=some r)(k:X=some r→b):q∧b:=⟨(dU h).1,k (dU h).2⟩
theorem aX{a b:Prop}(k:b)(h:a:=by first|exact eF.map (λ _=>rfl)|exact eF.cons rfl eF.nil|exact eF.nil|exact Ws rfl|kernel_rfl|decide|trivial|exact⟨by kernel_rfl,_,rfl⟩):a∧b:=⟨h,k⟩
theorem oB{c:α→List AV}{L:List α}{i:Nat}{g:α→Option β}{r:β}{X:List (List AV)}{K:List AV→Prop}(h:Option.bind L[i]? g=some r)(k:∀y,g y=some r→K (c y))
 (e:X=L.map c:=by first|exact rfl|(simp;done)|(rw[Yj];rfl)|exact dA|exact dz|exact dy|(simp only[Wm];rfl)):opt (X[i]?) K:=by
 obtain⟨y,j,h⟩:=eB h;exact fX (c y) (oj e j) (k y h)
theorem cL{X:Option α}{g:α→Option β}{r:β}{rv:α→AV}{Kf:AV→Prop}{Z:AV→Os→Prop}
 (h:Option.bind X g=some r) (c:∀{y},X=some y→FC P G f [] args (rv y) []) (k:∀y,g y=some r→Kf (rv y)) (hf:∀y,flat (rv y)=true:=by exact λ _=>rfl):
 ∃v os,FC P G f [] args v os∧((flat v=true∧os=[]∧Kf v)∨Z v os):=by
 obtain⟨y,hy,h⟩:=eB h;grind
theorem cR{X:Option α}{g:α→Option β}{r:β}{rv:α→AV}{cr:α→Os}{Y:AV→Os→Prop}{A:bL→Option (List AV)}{B:AV→Os→bL→Prop}
 (h:Option.bind X g=some r) (c:∀{y},X=some y→FC P G f [] args (rv y) (cr y)) (k:∀y,g y=some r→B (rv y) (cr y) []) (hA:A []=some args:=by exact rfl):
 ∃v os,FC P G f [] args v os∧(Y v os∨∃V,A V=some args∧B v os V):=by
 obtain⟨y,hy,h⟩:=eB h;grind
theorem cG{X:Option α}{g:α→Option β}{r:β}
 {rv:α→AV} {cr:α→List (Nat×AO)}
 (V:bL) (h:Option.bind X g=some r) (c:∀{y},X=some y→FC P G f cQ bY (rv y) (cr y)) (k:∀y,g y=some r→iK (cY (bk V id) (rv y)) λ v=>K v (hZ V id (cr y)) V)
 (h1:(decide V.Nodup&&fi V.length bY&&cQ.all λ e=>dt V.length e.2)=true:=by exact rfl) (o:cQ.map (·.1)=List.range V.length:=by exact rfl)
 (p:cQ.map (λ e=>some (dq (bk V id) e.2))=V.map ol:=by first|exact rfl|(repeat' first|exact rfl|refine cT ?_ ?_|refine kC ?_|(simp;done)|(rw[Yj];rfl)|exact dA|exact dz|exact dy|(simp only[Wm];rfl)|(simp[ea];done)|(simp only[ea,YG,id,Yj,Wa];rfl))) (i:fT (bk V id) bY=kf:=by exact rfl):A∨jE P G f kf ol id K:=by
 obtain⟨y,j,h⟩:=eB h;exact .inr (vW V (c j) h1 o p i (k y h))
theorem cH{X:Option α}{g:α→Option β}{r:β}
 {rv:α→AV}
 (V:bL) (h:Option.bind X g=some r) (c:∀{y},X=some y→FC P G f cQ bY (rv y) cQ) (k:∀y,g y=some r→iK (cY (bk V id) (rv y)) λ v=>K v [] V)
 (h1:(decide V.Nodup&&fi V.length bY&&cQ.all λ e=>dt V.length e.2)=true:=by exact rfl) (o:cQ.map (·.1)=List.range V.length:=by exact rfl)
 (p:cQ.map (λ e=>some (dq (bk V id) e.2))=V.map ol:=by first|exact rfl|(repeat' first|exact rfl|refine cT ?_ ?_|refine kC ?_|(simp;done)|(rw[Yj];rfl)|exact dA|exact dz|exact dy|(simp only[Wm];rfl)|(simp[ea];done)|(simp only[ea,YG,id,Yj,Wa];rfl))) (i:fT (bk V id) bY=kf:=by exact rfl):A∨jE P G f kf ol id K:=by
 obtain⟨y,j,h⟩:=eB h;exact .inr (Mq V (c j) h1 o p i (k y h))
theorem cg
 {cr:List (Nat×AO)}
 (V:bL) (c:FC P G f cQ bY rv cr) (k:iK (cY (bk V id) rv) λ v=>K v (hZ V id cr) V)
 (h1:(decide V.Nodup&&fi V.length bY&&cQ.all λ e=>dt V.length e.2)=true:=by exact rfl) (j:cQ.map (·.1)=List.range V.length:=by exact rfl)
 (o:cQ.map (λ e=>some (dq (bk V id) e.2))=V.map ol:=by first|exact rfl|(repeat' first|exact rfl|refine cT ?_ ?_|refine kC ?_|(simp;done)|(rw[Yj];rfl)|exact dA|exact dz|exact dy|(simp only[Wm];rfl)|(simp[ea];done)|(simp only[ea,YG,id,Yj,Wa];rfl))) (i:fT (bk V id) bY=kf:=by exact rfl):A∨jE P G f kf ol id K:=
 .inr (vW V c h1 j o i k)
theorem ch
 (V:bL) (c:FC P G f cQ bY rv cQ) (k:iK (cY (bk V id) rv) λ v=>K v [] V)
 (h1:(decide V.Nodup&&fi V.length bY&&cQ.all λ e=>dt V.length e.2)=true:=by exact rfl) (j:cQ.map (·.1)=List.range V.length:=by exact rfl)
 (o:cQ.map (λ e=>some (dq (bk V id) e.2))=V.map ol:=by first|exact rfl|(repeat' first|exact rfl|refine cT ?_ ?_|refine kC ?_|(simp;done)|(rw[Yj];rfl)|exact dA|exact dz|exact dy|(simp only[Wm];rfl)|(simp[ea];done)|(simp only[ea,YG,id,Yj,Wa];rfl))) (i:fT (bk V id) bY=kf:=by exact rfl):A∨jE P G f kf ol id K:=
 .inr (Mq V c h1 j o i k)
def zg:Os→(Os→Prop)→Prop
 | [],K=>K []
 |e::r,K=>zg r λ l=>K (e::l)
theorem ns:∀(l:Os) {K:Os→Prop},zg l K→K l
 | [],_,h=>h
 |e::r,K,h=>ns r (K:=λ l=>K (e::l)) h
def ii:Nat→List (Nat×Nat)→List (Nat×Nat)
 |0,l=>l
 |n+1,l=>ii n ((n,n)::l)
theorem kV{a b:AV}(h:Wk a b:=by repeat' first|exact Wk.eq rfl|exact Wk.dK|refine Wk.t ?_|refine Wk.a ?_|exact eZ.nil|refine eZ.cons ?_ ?_|exact Wk.eq (by first|(simp;done)|(rw[Yj];rfl)|exact dA|exact dz|exact dy|(simp only[Wm];rfl)|(simp[ea];done)|(simp only[ea,YG,id,Yj,Wa];rfl))):Wk a b:=h
theorem kL{a b:List AV}(h:eZ a b:=by repeat' first|exact Wk.eq rfl|exact Wk.dK|refine Wk.t ?_|refine Wk.a ?_|exact eZ.nil|refine eZ.cons ?_ ?_|exact Wk.eq (by first|(simp;done)|(rw[Yj];rfl)|exact dA|exact dz|exact dy|(simp only[Wm];rfl)|(simp[ea];done)|(simp only[ea,YG,id,Yj,Wa];rfl))):eZ a b:=h
theorem kO{a b:List (Option AO)}(h:dP a b:=by repeat' first|exact dP.nil|refine dP.cons ?_ ?_|exact gO.eq (W5 rfl)|(refine gO.eq (W5 (kC ?_));first|(simp;done)|(rw[Yj];rfl)|(simp[ea];done)|(simp only[ea,YG,id,Yj,Wa];rfl))|refine gO.r ?_|exact mI.nil|refine mI.cons ?_ ?_|refine kL|(refine mI.of_eq ?_;first|(simp;done)|rfl|(rw[Yj];rfl)|exact dA|exact dz|exact dy|(simp only[Wm];rfl)|(simp[ea];done)|(simp only[ea,YG,id,Yj,Wa];rfl))):dP a b:=h
theorem cW
 {cr:List (Nat×AO)} (V:bL) (c:FC P G f cQ bY rv cr) (k:iK (cY (bk V id) rv) λ v=>K v (hZ V id cr) V)
 (h1:(decide V.Nodup&&fi V.length bY&&cQ.all λ e=>dt V.length e.2)=true:=by exact rfl) (j:cQ.map (·.1)=List.range V.length:=by exact rfl)
 (o:dP (V.map ol) (cQ.map λ e=>some (dq (bk V id) e.2)):=by exact kO) (i:eZ kf (fT (bk V id) bY):=by exact kL):A∨jE P G f kf ol id K:=.inr (Tk V c h1 j o i k)
structure JB(m:Nat)(body:(Tm→Os→Nat→Prop)→Prop)(K:Tm→Os→Nat→Prop)(R A B:Prop):Prop where
 h:∃gx dm nx,(A→body (λ g' cr _=>R∧∃σ,kx m g' cr σ gx dm nx))∧(B→K gx dm nx)
theorem jM{K:Tm→Os→Nat→Prop}(gx:Tm)(dm:Os)(nx:Nat)(b1:A→body (λ g' cr _=>R∧∃σ,kx m g' cr σ gx dm nx))(i:B→zg dm λ o=>K gx o nx):JB m body K R A B:=⟨gx,dm,nx,b1,λ h=>ns dm (i h)⟩
theorem jN{K:Tm→Os→Nat→Prop}{Z:Prop}{X:Option α}{g:α→Option β}{r:β}(h:Option.bind X g=some r)
 (k:∀y,JB m body K True (X=some y) (g y=some r)):Z∨pD m body K:=by
 obtain⟨y,i,h⟩:=eB h;obtain⟨gx,dm,nx,b1,j⟩:=(k y).h;exact .inr (EJ True gx dm nx (b1 i) λ _=>j h)
theorem jS{K:Tm→Os→Nat→Prop}{Z:Prop}{R V:Type}[Inhabited V]{X:Option (R⊕V)}{f:R→Option β}{g:V→Option β}{r:β}(h:Option.bind X (λ o=>Sum.elim f g o)=some r)
 (k:∀o v,JB m body K (o=Sum.inr v) (X=some o∧Sum.elim f g o=some r∧ea o=v) (g v=some r)):Z∨pD m body K:=by
 obtain⟨o,ho,h⟩:=eB h;obtain⟨gx,dm,nx,b1,i⟩:=(k o (ea o)).h;exact .inr (EJ (o=Sum.inr (ea o)) gx dm nx (b1 ⟨ho,h,rfl⟩) λ j=>i (Ty j h))
theorem jT{K:Tm→Os→Nat→Prop}{A1 A2 A3:Prop}(gx:Tm)(dm:Os)(nx:Nat)(b1:A1→A2→A3→body (λ g' cr _=>R∧∃σ,kx m g' cr σ gx dm nx))(i:B→zg dm λ o=>K gx o nx):
 JB m body K R (A1∧A2∧A3) B:=⟨gx,dm,nx,λ h=>b1 h.1 h.2.1 h.2.2,λ h=>ns dm (i h)⟩
theorem lI{g:Tm}{body:(Tm→Os→Nat→Prop)→Tm→Os→Nat→Prop}{γ:Type}(f:Nat→β→Option γ)(gx:β→Tm)(dm:β→Os)(nx:Nat){n:Nat}(x0:β)(σ0:List (Nat×Nat)){o:γ}(i:f n x0=some o)
 (p:∀n x,f (n+1) x=some o→zg (dm x) λ z=>body (λ g' cr _=>∃x' σ,(λ q:Nat×β=>f q.1 q.2=some o) x'∧(λ q:Nat×β=>q.1) x'<(λ q:Nat×β=>q.1) (n+1,x)∧kx m g' cr σ ((λ q:Nat×β=>gx q.2) x') ((λ q:Nat×β=>dm q.2) x') nx) (gx x) z nx)
 (y:(gx x0).map (λ e=>cY (ap σ0) e.2)=(gx x0).map (λ e=>cO g e.1):=by repeat' first|exact rfl|refine cT ?_ ?_|refine YU AV.sl ?_|(simp;done)|(rw[Yj];rfl)|exact dA|exact dz|exact dy|(simp only[Wm];rfl)|(simp[ea];done)|(simp only[ea,YG,id,Yj,Wa];rfl))
 (u:(dm x0).map (λ e=>some (dq (ap σ0) e.2))=(dm x0).map (λ e=>lk os (ap σ0 e.1)):=by first|exact rfl|(repeat' first|exact rfl|refine cT ?_ ?_|refine kC ?_|(simp;done)|(rw[Yj];rfl)|exact dA|exact dz|exact dy|(simp only[Wm];rfl)|(simp[ea];done)|(simp only[ea,YG,id,Yj,Wa];rfl)))
 (h1:((gx x0).all (λ e=>fu nx e.2)&&(dm x0).all (λ e=>decide (e.1<nx)&&dt nx e.2)&&decide (((dm x0).map λ e=>ap σ0 e.1).Nodup)&&decide (m≤nx)&&(List.range m).all (λ j=>ap σ0 j==j))=true:=by exact rfl)
 (hz:∀x,f 0 x=none:=by exact λ _=>rfl):sH m g os body:=
 xG (λ q:Nat×β=>gx q.2) (λ q=>dm q.2) nx (λ q=>f q.1 q.2=some o) (λ q=>q.1) (n,x0) σ0 i y u h1 (by
  rintro⟨n,x⟩ h;cases n with
  |zero=>simp_all
  |succ n=>exact ns _ (p n x h))
theorem eE(σ:List (Nat×Nat))(i:R:=by first|trivial|rfl)
 (o:gx.map (λ e=>cY (ap σ) e.2)=gx.map (λ e=>cO g' e.1):=by exact rfl)
 (p:dm.map (λ e=>some (dq (ap σ) e.2))=dm.map (λ e=>lk cr (ap σ e.1)):=by repeat' first|exact rfl|refine cT ?_ ?_|refine kC ?_|(simp;done)|(rw[Yj];rfl)|exact dA|exact dz|exact dy|(simp only[Wm];rfl)|(simp[ea];done)|(simp only[ea,YG,id,Yj,Wa];rfl))
 (h1:(gx.all (λ e=>fu nx e.2)&&dm.all (λ e=>decide (e.1<nx)&&dt nx e.2)&&decide ((dm.map λ e=>ap σ e.1).Nodup)&&decide (m≤nx)&&(List.range m).all (λ j=>ap σ j==j))=true:=by exact rfl):
 R∧∃σ,kx m g' cr σ gx dm nx:=pd i σ o p h1
theorem gE{v:AV}(σ:List (Nat×Nat))(i:cY (ap σ) rv=v:=by exact rfl)
 (o:cr.map (λ e=>some (dq (ap σ) e.2))=cr.map (λ e=>lk os (ap σ e.1)):=by repeat' first|exact rfl|refine cT ?_ ?_|refine kC ?_|(simp;done)|(rw[Yj];rfl)|exact dA|exact dz|exact dy|(simp only[Wm];rfl)|(simp[ea];done)|(simp only[ea,YG,id,Yj,Wa];rfl))
 (h1:(fu W rv&&cr.all (λ e=>decide (e.1<W)&&dt W e.2)&&decide ((cr.map λ e=>ap σ e.1).Nodup)&&decide (m≤W)&&(List.range m).all (λ j=>ap σ j==j))=true:=by exact rfl):
 jD m rv cr v os:=lH σ i o h1
theorem rE{gx:α→Tm}{dm:α→Os}{I:α→Prop}{μ:α→Nat}{x:α}(x':α)(σ:List (Nat×Nat))(i:I x')(hμ:μ x'<μ x:=by exact Vo _)
 (o:(gx x').map (λ e=>cY (ap σ) e.2)=(gx x').map (λ e=>cO g' e.1):=by exact rfl)
 (p:(dm x').map (λ e=>some (dq (ap σ) e.2))=(dm x').map (λ e=>lk cr (ap σ e.1)):=by repeat' first|exact rfl|refine cT ?_ ?_|refine kC ?_|(simp;done)|(rw[Yj];rfl)|exact dA|exact dz|exact dy|(simp only[Wm];rfl)|(simp[ea];done)|(simp only[ea,YG,id,Yj,Wa];rfl))
 (h1:((gx x').all (λ e=>fu nx e.2)&&(dm x').all (λ e=>decide (e.1<nx)&&dt nx e.2)&&decide (((dm x').map λ e=>ap σ e.1).Nodup)&&decide (m≤nx)&&(List.range m).all (λ j=>ap σ j==j))=true:=by exact rfl):
 ∃x' σ,I x'∧μ x'<μ x∧kx m g' cr σ (gx x') (dm x') nx:=we x' σ i hμ o p h1
theorem rV{gx:α→Tm}{dm:α→Os}{I:α→Prop}{μ:α→Nat}{x:α}(x':α)(σ:List (Nat×Nat))(i:I x')(hμ:μ x'<μ x:=by exact Vo _)
 (o:(gx x').map (λ e=>cY (ap σ) e.2)=(gx x').map (λ e=>cO g' e.1):=by repeat' first|exact rfl|refine cT ?_ ?_|refine YU AV.sl ?_|(simp;done)|(rw[Yj];rfl)|exact dA|exact dz|exact dy|(simp only[Wm];rfl)|(simp[ea];done)|(simp only[ea,YG,id,Yj,Wa];rfl))
 (p:(dm x').map (λ e=>some (dq (ap σ) e.2))=(dm x').map (λ e=>lk cr (ap σ e.1)):=by repeat' first|exact rfl|refine cT ?_ ?_|refine kC ?_|(simp;done)|(rw[Yj];rfl)|exact dA|exact dz|exact dy|(simp only[Wm];rfl)|(simp[ea];done)|(simp only[ea,YG,id,Yj,Wa];rfl))
 (h1:((gx x').all (λ e=>fu nx e.2)&&(dm x').all (λ e=>decide (e.1<nx)&&dt nx e.2)&&decide (((dm x').map λ e=>ap σ e.1).Nodup)&&decide (m≤nx)&&(List.range m).all (λ j=>ap σ j==j))=true:=by exact rfl):
 ∃x' σ,I x'∧μ x'<μ x∧kx m g' cr σ (gx x') (dm x') nx:=we x' σ i hμ o p h1
theorem eV(σ:List (Nat×Nat))(i:R:=by first|trivial|rfl)
 (o:gx.map (λ e=>cY (ap σ) e.2)=gx.map (λ e=>cO g' e.1):=by repeat' first|exact rfl|refine cT ?_ ?_|refine YU AV.sl ?_|(simp;done)|(rw[Yj];rfl)|exact dA|exact dz|exact dy|(simp only[Wm];rfl)|(simp[ea];done)|(simp only[ea,YG,id,Yj,Wa];rfl))
 (p:dm.map (λ e=>some (dq (ap σ) e.2))=dm.map (λ e=>lk cr (ap σ e.1)):=by repeat' first|exact rfl|refine cT ?_ ?_|refine kC ?_|(simp;done)|(rw[Yj];rfl)|exact dA|exact dz|exact dy|(simp only[Wm];rfl)|(simp[ea];done)|(simp only[ea,YG,id,Yj,Wa];rfl))
 (h1:(gx.all (λ e=>fu nx e.2)&&dm.all (λ e=>decide (e.1<nx)&&dt nx e.2)&&decide ((dm.map λ e=>ap σ e.1).Nodup)&&decide (m≤nx)&&(List.range m).all (λ j=>ap σ j==j))=true:=by exact rfl):
 R∧∃σ,kx m g' cr σ gx dm nx:=pd i σ o p h1
theorem eW(σ:List (Nat×Nat))(i:R:=by first|trivial|rfl)
 (o:eZ (gx.map λ e=>cO g' e.1) (gx.map λ e=>cY (ap σ) e.2):=by exact kL) (p:dP (dm.map λ e=>lk cr (ap σ e.1)) (dm.map λ e=>some (dq (ap σ) e.2)):=by exact kO)
 (h1:(gx.all (λ e=>fu nx e.2)&&dm.all (λ e=>decide (e.1<nx)&&dt nx e.2)&&decide ((dm.map λ e=>ap σ e.1).Nodup)&&decide (m≤nx)&&(List.range m).all (λ j=>ap σ j==j))=true:=by exact rfl):
 R∧∃σ,kx m g' cr σ gx dm nx:=BP i σ o p h1
theorem gW{v:AV}(σ:List (Nat×Nat))(i:Wk v (cY (ap σ) rv):=by exact kV)
 (o:dP (cr.map λ e=>lk os (ap σ e.1)) (cr.map λ e=>some (dq (ap σ) e.2)):=by exact kO)
 (h1:(fu W rv&&cr.all (λ e=>decide (e.1<W)&&dt W e.2)&&decide ((cr.map λ e=>ap σ e.1).Nodup)&&decide (m≤W)&&(List.range m).all (λ j=>ap σ j==j))=true:=by exact rfl):
 jD m rv cr v os:=Tz σ i o h1
theorem aE{i:List AV}(h:FC P G f [] args rv os)
 (e:args=i:=by repeat' first|exact rfl|refine cT ?_ ?_|refine YU AV.agg ?_|refine YU AV.sl ?_|(simp;done)|(rw[Yj];rfl)|exact dA|exact dz|exact dy|(simp only[Wm];rfl)|(simp[ea];done)|(simp only[ea,YG,id,Yj,Wa];rfl)):FC P G f [] i rv os:=e▸h
theorem aW{i:List AV}{cr:List (Nat×AO)}(h:FC P G f cQ i rv cr)(j:eZ args i:=by exact kL):FC P G f cQ args rv cr:=Ca j h
theorem fA{fn:Func}{c:Code}(o:P.funcs[f]? =some fn)
 (h:ep P G ⟨0,fn.ntmps,false⟩ 0 (uB P fn.results.toList λ r=>r=rv) 2000 [.code c] (iw args 0) [] W) (p:fn.body=some c:=by exact rfl)
 (hn:fe P f=true:=by kernel_rfl) (j:P.follows .mixedOrders=true:=by exact mixed) (i:args.length≤fn.ntmps:=by exact Ws rfl):FC P G f [] args rv []:=DG 2000 o p hn j i h
theorem fK{fn:Func}{c:Code}(o:P.funcs[f]? =some fn)
 (h:ep P G ⟨0,fn.ntmps,false⟩ 0 (uB P fn.results.toList λ r=>Wk r rv) 2000 [.code c] (iw args 0) [] W) (p:fn.body=some c:=by exact rfl)
 (hn:fe P f=true:=by kernel_rfl) (j:P.follows .mixedOrders=true:=by exact mixed) (i:args.length≤fn.ntmps:=by exact Ws rfl):FC P G f [] args rv []:=TW 2000 o p hn j i h
theorem fG{fn:Func}{c:Code}{cQ:Os}(q:P.funcs[f]? =some fn)
 (h:zg cQ λ x=>ep P G ⟨0,fn.ntmps,false⟩ cQ.length (BN P fn.results.toList cQ.length (jD cQ.length rv cr)) 2000 [.code c] (iw args 0) x W) (u:fn.body=some c:=by exact rfl)
 (hn:fe P f=true:=by kernel_rfl) (p:P.follows .mixedOrders=true:=by exact mixed) (i:args.length≤fn.ntmps:=by exact Ws rfl)
 (o:cQ.length≤W:=by exact Ws rfl) (j:(cr.all λ e=>decide (e.1<W))=true:=by exact rfl):FC P G f cQ args rv cr:=mR 2000 q u hn p i o j (ns cQ h)
def pp(n:Nat):AV:=.ptr n 0 0
def rF(r:List AV):AO:=.rows false [r]
def rT{α:Type}(c:α→List AV)(l:List α):AO:=.rows true (List.map c l)
def sM{α:Type}(c:α→List AV)(l:List α):AV:=.sl (List.map c l)
def tX(_:List (Nat×Nat))(P:Prop):Prop:=P
theorem tI{σ:List (Nat×Nat)}{P:Prop}(h:let _s:=σ;P):tX σ P:=h
theorem eQ(σ:List (Nat×Nat))(h:R∧
 gx.map (λ e=>cY (ap σ) e.2)=gx.map (λ e=>cO g' e.1)∧dm.map (λ e=>some (dq (ap σ) e.2))=dm.map (λ e=>lk cr (ap σ e.1))∧
 (gx.all (λ e=>fu nx e.2)&&dm.all (λ e=>decide (e.1<nx)&&dt nx e.2)&&decide ((dm.map λ e=>ap σ e.1).Nodup)&&decide (m≤nx)&&(List.range m).all (λ j=>ap σ j==j))=true):
 R∧∃σ,kx m g' cr σ gx dm nx:=pd h.1 σ h.2.1 h.2.2.1 h.2.2.2
theorem gQ{v:AV}(σ:List (Nat×Nat))(h:cY (ap σ) rv=v∧cr.map (λ e=>some (dq (ap σ) e.2))=cr.map (λ e=>lk os (ap σ e.1))∧
 (fu W rv&&cr.all (λ e=>decide (e.1<W)&&dt W e.2)&&decide ((cr.map λ e=>ap σ e.1).Nodup)&&decide (m≤W)&&(List.range m).all (λ j=>ap σ j==j))=true):
 jD m rv cr v os:=lH σ h.1 h.2.1 h.2.2
theorem qE(σ:List (Nat×Nat)){P:Prop}(w:tX σ P:=by
 refine tI ?_;intro s
 repeat' ((conv=>whnf);first|refine oL ?_|refine bT h λ h=>?_|refine bF h λ h=>?_|refine bS h (λ h=>?_) λ h=>?_|(cases h;done)|(refine eQ s ?_;cases h;first|exact⟨trivial,rfl,rfl,rfl⟩|exact⟨rfl,rfl,rfl,rfl⟩|(cases e;exact⟨rfl,rfl,rfl,rfl⟩))|refine gX h λ h=>?_|refine aX ?_|refine gS h λ h=>?_)):P:=w
theorem qG(σ:List (Nat×Nat)){P:Prop}(w:tX σ P:=by
 refine tI ?_;intro s
 repeat' ((conv=>whnf);first|refine oL ?_|refine bT h λ h=>?_|refine bF h λ h=>?_|refine bS h (λ h=>?_) λ h=>?_|(cases h;done)|(refine gQ s ?_;cases h;exact⟨rfl,rfl,rfl⟩)|refine gX h λ h=>?_|refine aX ?_|refine gS h λ h=>?_)):P:=w
theorem qR{P:Prop}(w:P:=by
 repeat' ((conv=>whnf);first|refine oL ?_|refine bT h λ h=>?_|refine bF h λ h=>?_|refine bS h (λ h=>?_) λ h=>?_|(cases h;done)|(cases h;exact rfl)|refine gX h λ h=>?_|refine aX ?_|refine gS h λ h=>?_)):P:=w
theorem qK{P:Prop}(w:P:=by
 repeat' ((conv=>whnf);first|refine oL ?_|refine bT h λ h=>?_|refine bF h λ h=>?_|refine bS h (λ h=>?_) λ h=>?_|(cases h;done)|(cases h;exact kV)|refine gX h λ h=>?_|refine aX ?_|refine gS h λ h=>?_)):P:=w
theorem ae{G H:Prop}(e:G=H:=by (conv=>lhs;whnf);try rfl)(k:H):G:=e▸k
theorem ay{G A B:Prop}(e:G=(A∨B):=by (conv=>lhs;whnf);try rfl)(k:A):G:=e▸.inl k
theorem ak{G A A' B:Prop}(e:G=(A'∨B):=by (conv=>lhs;whnf);try rfl)(i:A'=A:=by (conv=>lhs;whnf);try rfl)(k:A):G:=e▸.inl (i▸k)
end Go.Ab
