import Derived.Test.YtjpmdkgonlmddaaGreatDoorAbE
set_option linter.unusedVariables false
open Go.MapKept (Stamped)
namespace Go.Ab
section
variable {es:List (AV×Gr)}{gs:Gr}{l:Loc}{ι:bp}
theorem Mh:∀(gs:Gr) (k j:Nat),lk (sW k gs) j=if k≤j then(gs[j-k]?).map (λ e=>e.2.ao)else none
 | [],k,j=>by simp[sW,lk]
 |e::r,k,j=>by
  simp only[sW,lk,Mh r (k+1) j];grind
theorem TF(gs:Gr)(j:Nat):lk (sW 0 gs) j=(gs[j]?).map (λ e=>e.2.ao):=by simp[Mh]
theorem GO.live(g:GO):g.ao.live=true:=by cases g<;>rfl
section
variable {C:Cx}{S:Nat→Prop}{w:World}{ι:bp}{P:Program}{un:Nat→Prop}{f:FS}{a:Act}{id:Nat}{o:Oper}
 {next:Act→World→Prop} {Q:Exit→Act→World→Prop}
theorem jH.AJ{h:Option (Nat×Nat)}{xs:Array MapEntry}{B:Nat}(o:sK S w ι es h xs B):jH false S w ι (gB es) xs.toList:=by
 refine⟨by simp[gB,o.len],λ i e x p hx=>?_⟩
 simp only[gB,YD,Yq]at p;obtain⟨e0,j,rfl⟩:=p;exact⟨(o.at_ i e0 x j (by simp_all)).1,.cu _ _ (.undef _),λ q=>by cases q⟩
theorem Inv.vy(h:Inv C S ι un f a w){k:Nat}(j:un k){x:AO}(o:f.os k=some x):False:=by
 have i:=h.un k j;have:=h.ob k x o;cases x with
 |rows p rs=>rcases this with ⟨q,_⟩|⟨l,bc,q,_⟩<;>(simp_all)
 |dD rs=>rcases this with ⟨q,_⟩|⟨l,bc,q,_⟩<;>(simp_all)
 |bm p es=>obtain⟨l,xs,c,q,_⟩:=this;simp_all
 |cw z fs hh=>obtain⟨l,xs,c,q,_⟩:=this;simp_all
 |cF es hh=>obtain⟨l,xs,c,q,_⟩:=this;simp_all
 |lit rs=>obtain⟨l,bc,q,_⟩:=this;simp_all
theorem J3{h:Option (Nat×Nat)}{b:Nat}(j:c6 w (.cF es h) l b):c6 w (.cF es none) l b:=by
 rcases j with j|⟨xs,c,i,e,x,h1,p,q,_,o⟩
 ·exact .inl j
 ·exact .inr ⟨xs,c,i,e,x,h1,p,q,by simp,o⟩
theorem Inv.BJ(h:Inv C S ι un f a w)(hid:∀x,id≤x→x<id+W→un x){o:Nat}{i:Nat}{e:AV×Gr}(ho:f.os o=some (.cF es none))(he:es[i]? =some e)(hW:e.2.length≤W)
 {xs:Array MapEntry} {J:Nat} {x:MapEntry} (hl:ι o=some (some l)) (F:w.heap[l.bB]? =some (.map xs J)) (hx:xs[i]? =some x):
 ∃ι',ι.le ι'∧cz S w ι' (.ptr id 0 0) x.val∧Inv C S ι' (λ y=>un y∧¬(id≤y∧y<id+W)) {f with os:=bw f.os (qd id (sW 0 e.2)++[(o,some (.cF es (some (i,id))))])} a w:=by
 obtain⟨l',fF,cK,T,A,cS,hF⟩:=h.ob o _ ho;rw[hl]at T;injection T with T;injection T with T;subst T;rw[F]at A;injection A with A;injection A with e1 R;subst e1;subst R;have xc:¬(id≤o∧o<id+W):=λ hc=>h.vy (hid o hc.1 hc.2) ho;obtain⟨ur,hg,_⟩:=hF.at_ i e x he hx
 obtain⟨⟨ιg,hG⟩,hgB⟩:=hg (by simp)
 let ι':bp:=λ k=>if id≤k∧k<id+W then ιg (k-id)else ι k;have hι:ι.le ι':=by
  intro k y E;by_cases hc:id≤k∧k<id+W
  ·rw[h.un k (hid k hc.1 hc.2)]at E;cases E
  ·grind
 have hWp:0<W:=by simp[W]
 have hσ:∀k y,(λ k=>if k<W then ιg k else none) k=some y→ι' (id+k)=some y:=by
  intro k y E;simp only at E;split at E
  ·grind
  ·cases E
 have rH:cz S w ι' (.ptr id 0 0) x.val:=by
  obtain⟨l0,h1,Y⟩:=hG.root.dF;rw[Y];refine cz.ptr id 0 0 l0 ?_;simp only[ι'];rw[if_pos ⟨Yg _,by omega⟩,V7];exact h1
 have Z:∀b,ew w e.2 x.val b→c6 w (.cF es none) l b:=λ b U=>.inr ⟨xs,J,i,e,x,F,he,hx,by simp,U⟩
 refine⟨ι',hι,rH,?_⟩;have M:∀k y,bw f.os (qd id (sW 0 e.2)++[(o,some (.cF es (some (i,id))))]) k=some y→
  (∃p g,id≤k∧k<id+W∧e.2[k-id]? =some (p,g)∧y=dq (id+ ·) g.ao)∨(k=o∧y=.cF es (some (i,id)))∨(¬(id≤k∧k<id+W)∧k≠o∧f.os k=some y):=by
  intro k y E;rw[Pb,NS]at E;split at E
  ·rename_i hc;rw[TF]at E;grind
  ·rename_i hc;simp only[bw]at E;by_cases h1:k=o
   ·simp_all
   ·rw[if_neg h1]at E;exact .inr (.inr ⟨λ hk=>h.vy (hid k hk.1 hk.2) E,h1,E⟩)
 have z:∀k,¬(id≤k∧k<id+W)→∀l2,ι' k=some (some l2)→ι k=some (some l2):=λ k hk l2 e=>by grind
 have nZ:∀k,id≤k→k<id+W→∀l2,ι' k=some (some l2)→ιg (k-id)=some (some l2):=λ k h1 Y l2 e=>by grind
 have u:∀k p g,id≤k→k<id+W→e.2[k-id]? =some (p,g)→∀l2,ι' k=some (some l2)→∀b,c6 w (dq (id+ ·) g.ao) l2 b→fz w l2.bB g b∧ew w e.2 x.val b:=by
  intro k p g h1 Y hg l2 H b U;have B:=Jm.2 (qJ U);exact⟨B,hG.bB hg (nZ k h1 Y l2 H) B⟩
 have hw:gA S w w:=λ _ _=>rfl;refine h.iC (λ _ x=>x) hw hι ?_ ?_ ?_ h.sb h.sn (λ k hk=>by simp only[ι'];rw[if_neg hk.2];exact h.un k hk.1) h.fr
 ·intro k y E;rcases M k y E with ⟨p,g,h1,Y,hg,rfl⟩|⟨rfl,rfl⟩|⟨h1,Y,h3⟩
  ·have h9:=JW.1 (hG.ob (k-id) p g hg).1;have h8:cX S w ι' (id+(k-id)) (dq (id+ ·) g.ao):=h9.qt (σ:=(id+ ·)) (λ j y E=>?_)
   ·simp_all
   ·by_cases hj:j<W
    ·simp_all
    ·rw[hG.top j (by omega)]at E;cases E
  ·refine⟨l,xs,J,hι _ _ hl,F,cS,hF.len,λ j e' x' xn mL=>?_,λ j j' e1 R x1 x2 b X g2 g3 g4 g5 g6=>hF.inj j j' e1 R x1 x2 b X g2 g3 g4 (by simp) (by simp)⟩
   obtain⟨X,g2,g3⟩:=hF.at_ j e' x' xn mL;grind
  ·exact(h.ob k y h3).mono (λ _ x=>x) hw hι (λ _ _ _ _ _=>rfl)
 ·intro k y E mB l2 H b U;rcases M k y E with ⟨p,g,h1,Y,hg,rfl⟩|⟨rfl,rfl⟩|⟨h1,Y,h3⟩
  ·exact h.own o _ ho rfl l hl _ (Z b (u k p g h1 Y hg l2 H b U).2)
  ·exact h.own k _ ho rfl l2 (z k xc l2 H) b (J3 U)
  ·exact h.own k y h3 mB l2 (z k h1 l2 H) b U
 ·have vN:∀k p g,id≤k→k<id+W→e.2[k-id]? =some (p,g)→∀l2,ι' k=some (some l2)→∀b,c6 w (dq (id+ ·) g.ao) l2 b→∀l3,ι o=some (some l3)→c6 w (.cF es (some (i,id))) l3 b→False:=by
   intro k p g h1 Y hg l2 H b U l3 Q hf;rw[hl]at Q;injection Q with Q;injection Q with Q;subst Q;have B:=(u k p g h1 Y hg l2 H b U).2;rcases hf with hf|⟨DK,c2,j,R,x2,X,g2,g3,g4,g5⟩
   ·grind
   ·rw[F]at X;injection X with X;injection X with q1 q2;subst q1;have:=hF.inj i j e R x x2 b he g2 hx g3 (by simp) (by simp) B g5
    simp_all
  intro k1 k2 y1 y2 mw nS iR jX l1 l2 e1 R b V B;rcases M k1 y1 mw with ⟨p1,X,h1,qC,yY,rfl⟩|⟨rfl,rfl⟩|⟨h1,qC,h3⟩<;>rcases M k2 y2 nS with ⟨p2,g2,j1,O,rM,rfl⟩|⟨q0,q⟩|⟨j1,O,j3⟩
  ·have:=hG.inj _ _ p1 p2 X g2 yY rM l1 l2 (nZ k1 h1 qC l1 e1) (nZ k2 j1 O l2 R) b (u k1 p1 X h1 qC yY l1 e1 b V).1 (u k2 p2 g2 j1 O rM l2 R b B).1;omega
  ·grind
  ·have U:=Z b (u k1 p1 X h1 qC yY l1 e1 b V).2;exact absurd (h.inj o k2 _ y2 ho j3 rfl jX l l2 hl (z k2 j1 l2 R) b U B) (λ e=>O e.symm)
  ·grind
  ·omega
  ·exact absurd (h.inj k1 k2 _ y2 ho j3 rfl jX l1 l2 (z k1 xc l1 e1) (z k2 j1 l2 R) b (J3 V) B) (λ e=>O e.symm)
  ·have U:=Z b (u k2 p2 g2 j1 O rM l2 R b B).2;exact absurd (h.inj k1 o y1 _ h3 ho iR rfl l1 l (z k1 h1 l1 e1) hl b V U) qC
  ·subst q0;subst q;exact h.inj k1 k2 y1 _ h3 ho iR rfl l1 l2 (z k1 h1 l1 e1) (z k2 xc l2 R) b V (J3 B)
  ·exact h.inj k1 k2 y1 y2 h3 j3 iR jX l1 l2 (z k1 h1 l1 e1) (z k2 j1 l2 R) b V B
theorem Inv.Ij(h:Inv C S ι un f a w){o q:Nat}(ho:f.os o=some (.cF es none)){xs:Array MapEntry}{p:Nat}(Z:ι o=some (some l))
 (O:w.heap[l.bB]? =some (.map xs p)) {k:AV} {kv u:Value} (hk:cE S w k kv) (hu:cz S w ι (.ptr q 0 0) u) (xm:∀x∈xs.toList,x.key≠kv) (cS:es.length+1≤bI) (g0:Gr):
 Inv C S ι un {f with os:=bw f.os [(o,some (.cF (es++[(k,g0)]) (some (es.length,q))))]} a {w with heap:=w.heap.setIfInBounds l.bB (.map (xs.push {key:=kv,val:=u,born:=p}) (p+1))}:=by
 obtain⟨l',DK,xw,B,z,jx,hF⟩:=h.ob o _ ho;rw[Z]at B;injection B with B;injection B with B;subst B;rw[O]at z;injection z with z;injection z with e1 J;subst e1;subst J;have iU:l.bB<w.heap.size:=(WO.1 O).1;obtain⟨hO,hS,_⟩:=h.own o _ ho rfl l Z _ (.inl rfl);let w':World:={w with heap:=w.heap.setIfInBounds l.bB (.map (xs.push {key:=kv,val:=u,born:=p}) (p+1))};have A:∀b,b≠l.bB→w'.heap[b]? =w.heap[b]? :=λ b F=>V6 (λ e=>F e.symm);have hw:gA S w w':=λ b F=>A b (λ e=>hS (e▸F))
 have Y:w'.heap[l.bB]? =some (.map (xs.push {key:=kv,val:=u,born:=p}) (p+1)):=by simp[w',iU]
 have Lw:∀(i:Nat) e x,es[i]? =some e→xs[i]? =some x→∀b,ew w e.2 x.val b→w'.heap[b]? =w.heap[b]? :=λ i e x X R b F=>A b (((hF.at_ i e x X R).2.1 (by simp)).2 b F)
 have D8:∀(i:Nat) e x,es[i]? =some e→xs[i]? =some x→∀b,ew w' e.2 x.val b↔ew w e.2 x.val b:=λ i e x X R b=>CQ (Lw i e x X R);have Q:∀(i:Nat) e x,(es++[(k,g0)])[i]? =some e→(xs.push {key:=kv,val:=u,born:=p})[i]? =some x→(some (es.length,q):Option (Nat×Nat)).map (·.1)≠some i→es[i]? =some e∧xs[i]? =some x:=by
  intro i e x X R hn;have iF:i≠es.length:=λ e=>hn (by grind)
  have pR:i<es.length:=by have:=fD X;simp at this;omega
  refine⟨by grind,?_⟩
  rw[VP,if_neg (by rw[←hF.len];exact iF)]at R;exact R
 have M:∀l2:Loc,l2.bB=l.bB→∀b,c6 w' (.cF (es++[(k,g0)]) (some (es.length,q))) l2 b→c6 w (.cF es none) l b:=by
  rintro l2 J b (F|⟨Qx,c3,i,e,x,h1,h2,V,h4,h5⟩)
  ·exact .inl (F.trans J)
  ·rw[J,Y]at h1;injection h1 with h1;injection h1 with h1 _;subst h1;obtain⟨g1,g2⟩:=Q i e x h2 V h4;exact .inr ⟨xs,p,i,e,x,O,g1,g2,by simp,(D8 i e x g1 g2 b).1 h5⟩
 have E:∀o' y,f.os o'=some y→y.live=true→o'≠o→∀l',ι o'=some (some l')→∀b,c6 w y l' b→w'.heap[b]? =w.heap[b]? :=λ o' y hy mB e l' B b F=>
  A b (λ eb=>e (h.inj o' o y _ hy ho mB rfl l' l B Z b F (.inl eb)))
 have T:∀k' y,bw f.os [(o,some (.cF (es++[(k,g0)]) (some (es.length,q))))] k'=some y→(k'=o∧y=.cF (es++[(k,g0)]) (some (es.length,q)))∨(k'≠o∧f.os k'=some y):=by
  intro k' y hy;simp only[bw]at hy;by_cases J:k'=o
  ·grind
  ·grind
 have fg:w'.heap.size=w.heap.size:=by simp[w']
 refine h.iC (λ _ x=>x) hw (bp.le_refl _) ?_ ?_ ?_ (λ b F=>by rw[fg];exact h.sb b F) h.sn h.un ?_
 ·intro k' y hy;rcases T k' y hy with ⟨rfl,rfl⟩|⟨h1,V⟩
  ·refine⟨l,_,_,Z,Y,⟨by rw[Array.size_push,←hF.len];exact cS,Pw jx.2 xm⟩,by simp[hF.len],λ i e x X R=>?_,λ i j e e' x x' b X xn R mL hn HA h1 h2=>?_⟩
   ·by_cases hi:i=es.length
    ·subst hi;rw[Yl (Yg _),V7]at X;simp only[Yv,Y5]at X;subst X;rw[VP,if_pos hF.len]at R;injection R with R;subst R;refine⟨hk.mono (λ _ h=>h) hw,λ hn=>absurd rfl hn,λ q' U=>?_⟩;injection U with U;injection U with _ U;subst U
     exact hu.mono (λ _ h=>h) hw (bp.le_refl _)
    ·have hn:(some (es.length,q):Option (Nat×Nat)).map (·.1)≠some i:=by simp only[YE,ne_eq,Y5];exact λ e=>hi e.symm
     obtain⟨g1,g2⟩:=Q i e x X R hn;obtain⟨j1,j2,_⟩:=hF.at_ i e x g1 g2;obtain⟨⟨ιg,hg⟩,hB⟩:=j2 (by simp)
     exact⟨j1.mono (λ _ h=>h) hw,λ _=>⟨⟨ιg,hg.mono (λ _ h=>h) hw (Lw i e x g1 g2)⟩,λ b F=>hB b ((D8 i e x g1 g2 b).1 F)⟩,λ q' U=>by grind⟩
   ·obtain⟨g1,g2⟩:=Q i e x X R hn;obtain⟨LP,LO⟩:=Q j e' x' xn mL HA;exact hF.inj i j e e' x x' b g1 LP g2 LO (by simp) (by simp) ((D8 i e x g1 g2 b).1 h1) ((D8 j e' x' LP LO b).1 h2)
  ·exact(h.ob k' y V).mono (λ _ x=>x) hw (bp.le_refl _) (λ l' B uc b F=>E k' y V uc h1 l' B b F)
 ·intro k' y hy mB l2 H b F;rw[fg];rcases T k' y hy with ⟨rfl,rfl⟩|⟨h1,V⟩
  ·rw[Z]at H;injection H with H;injection H with H;subst H;exact h.own k' _ ho rfl l Z b (M l rfl b F)
  ·exact h.own k' y V mB l2 H b (ft (E k' y V mB h1 l2 H) F)
 ·intro k1 k2 y1 y2 mw nS iR jX l1 l2 e1 J b lB kN;rcases T k1 y1 mw with ⟨rfl,rfl⟩|⟨h1,V⟩<;>rcases T k2 y2 nS with ⟨g0,g⟩|⟨g0,g3⟩
  ·omega
  ·rw[Z]at e1;injection e1 with e1;injection e1 with e1;subst e1;exact h.inj k1 k2 _ y2 ho g3 rfl jX l l2 Z J b (M l rfl b lB) (ft (E k2 y2 g3 jX g0 l2 J) kN)
  ·subst g0;subst g;rw[Z]at J;injection J with J;injection J with J;subst J;exact h.inj k1 k2 y1 _ V ho iR rfl l1 l e1 Z b (ft (E k1 y1 V iR h1 l1 e1) lB) (M l rfl b kN)
  ·exact h.inj k1 k2 y1 y2 V g3 iR jX l1 l2 e1 J b (ft (E k1 y1 V iR h1 l1 e1) lB) (ft (E k2 y2 g3 jX g0 l2 J) kN)
 ·refine⟨h.fr.os,h.fr.output,by rw[fg];exact h.fr.size,λ b F hn=>?_⟩
  exact(A b (λ e=>hn (by grind))).trans (h.fr.old b F hn)
def iO(gs:Gr):bL→Option AV
 | []=>some (.ptr 0 0 0)
 |c::q=>match iO gs q with
  |some (.ptr j 0 0)=>match gs[j]? with
   |some (_,.rows false (row::_))=>row[c]?
   |_=>none
  |_=>none
def mW:AV→Option Nat
 |.ptr o 0 0=>some o
 |.bf o _=>some o
 |.bm o=>some o
 |_=>none
def pg(gs:Gr)(q:bL)(c:Nat):AV→Bool
 |.ptr k _ _=>match gs[k]? with|some (_,.rows _ (_::_))=>true|_=>false
 |.bm k=>match gs[k]? with|some (_,.cw ..)=>true|_=>false
 |.bf k _=>match gs[k]? with|some (i::q',.rows ..)=>Nat.beq c i&&q'.beq q|_=>false
 |x=>fu 0 x
def nP(gs:Gr)(q:bL):Nat→List AV→Bool
 |_,[]=>true
 |c,x::r=>pg gs q c x&&nP gs q (c+1) r
def vU(gs:Gr):Nat→Gr→Bool
 |_,[]=>true
 |k,(p,g)::r=>(match (iO gs p).bind mW with|some j=>Nat.beq j k|none=>false)&&
  (match p with| []=>true|_::q=>gs.any λ e=>e.1.beq q)&&
  (match g with|.rows false [row]=>nP gs p 0 row|.rows false _=>false|_=>true)&&vU gs (k+1) r
theorem JE{q:bL}:∀{row:List AV} {c0:Nat},nP gs q c0 row=true→∀(c:Nat) x,row[c]? =some x→pg gs q (c0+c) x=true
 | [],_,_,c,x,h=>by simp at h
 |y::r,c0,h,c,x,hx=>by
  simp only[nP,Yi]at h;cases c with
  |zero=>simp_all
  |succ c=>rw[show c0+(c+1)=(c0+1)+c by omega];exact JE h.2 c x (by simp_all)
theorem BU{p q:bL}(h:p.beq q=true):p=q:=by
 have:(p==q)=true:=h;simp_all
theorem OI:∀{r:Gr} {k:Nat},vU gs k r=true→∀(j:Nat) p g,r[j]? =some (p,g)→(∃i,iO gs p=some i∧mW i=some (k+j))∧(∀c q,p=c::q→∃g',(q,g')∈gs)∧
 (∀rs,g=.rows false rs→∃row,rs=[row]∧nP gs p 0 row=true)
 | [],_,_,j,p,g,h=>by simp at h
 |(p0,g0)::r,k,h,j,p,g,hj=>by
  simp only[vU,Yi]at h;cases j with
  |zero=>
   simp only[Yv,Y5,WV]at hj;obtain⟨rfl,rfl⟩:=hj;refine⟨?_,λ c q e=>?_,λ rs e=>?_⟩
   ·have h1:=h.1.1.1;cases hw:iO gs p0 with
    |none=>simp_all
    |some i=>
     rw[hw]at h1;simp only[Y1]at h1;cases hn:mW i with
     |none=>simp_all
     |some j=>simp_all
   ·subst e;have h1:=h.1.1.2;obtain⟨e,u,o⟩:=List.any_eq_true.1 h1;exact⟨e.2,by rw[←BU o];exact u⟩
   grind
  |succ j=>
   have:=OI h.2 j p g (by simp_all)
   grind
def Vd(w:World)(v:Value)(gs:Gr)(k:Nat):Prop:=∃p pp,gs[k]? =some (p,.rows pp [])∧pat w v p=none
theorem AK{p:AV}{u:Value}{j:Nat}(i:cz S w ι p u)(hn:mW p=some j):(∃l,ι j=some (some l)∧(vb u=some l.bB∨(vb u=none∧l.eA=0)))∨(ι j=some none∧vb u=none):=by
 unfold mW at hn;split at hn
 ·injection hn with hn;subst hn;obtain⟨l,h1,rfl⟩:=i.dF;exact .inl ⟨l,h1,.inl rfl⟩
 ·injection hn with hn;subst hn;rcases kZ i with ⟨l,a,cap,q,rfl,h2,h3,h4,hz,x⟩|⟨q,a,rfl⟩
  ·left;refine⟨l,q,?_⟩;by_cases o:cap=0
   ·subst o;exact .inr ⟨by rfl,by omega⟩
   ·left;simp[vb,o,x o]
  ·right;refine⟨q,?_⟩;cases a<;>simp[vb]
 ·injection hn with hn;subst hn;obtain⟨l,h1,rfl⟩:=i.dx;exact .inl ⟨l,h1,.inl rfl⟩
 grind
mutual
theorem cz.nil{ι ι':bp}:∀(v:AV) (x:Value),fu 0 v=true→cz S w ι v x→cz S w ι' v x
 |.ptr o r c,x,hb,h=>absurd (YM (show decide (o<0)=true from hb)) (We _)
 |.fp o off len room,x,hb,h=>absurd (YM (show decide (o<0)=true from hb)) (We _)
 |.bf o z,x,hb,h=>absurd (YM (show decide (o<0)=true from hb)) (We _)
 |.bm o,x,hb,h=>absurd (YM (show decide (o<0)=true from hb)) (We _)
 |.agg cs,x,hb,h=>by
  obtain⟨vs,rfl,i⟩:=h.eg;exact bA.agg (bA.tU cs vs.toList hb i)
 |.cx cs,x,hb,h=>by
  obtain⟨vs,rfl,i⟩:=h.ib;exact bA.kz (bA.tU cs vs.toList hb i)
 |.fn f cs,x,hb,h=>by
  obtain⟨vs,rfl,i⟩:=h.ie;exact bA.Em (bA.tU cs vs.toList hb i)
 |.int k m,x,_,h=>.cu _ _ (h.free rfl)
 |.bool b,x,_,h=>.cu _ _ (h.free rfl)
 |.str s,x,_,h=>.cu _ _ (h.free rfl)
 |.dK,x,_,h=>.cu _ _ (h.free rfl)
 |.sl xs,x,_,h=>.cu _ _ (h.free rfl)
 |.rp row c,x,_,h=>.cu _ _ (h.free rfl)
 |.eT v,x,_,h=>.cu _ _ (h.free rfl)
 |.undef,x,_,h=>.cu _ _ (.undef _)
 |.eR p,x,_,h=>by
  cases h with
  |cu _ _ h=>cases h with|eR _ b h=>exact .cu _ _ (.eR p b h)
theorem bA.tU{ι ι':bp}:∀(cs:List AV) (vs:List Value),fi 0 cs=true→bA S w ι cs vs→bA S w ι' cs vs
 | [],vs,_,h=>by
  have:=h.1;cases vs with
  |nil=>exact .nil
  |cons v r=>grind
 |c::cs,vs,hb,h=>by
  simp only[fi,Yi]at hb;cases vs with
  |nil=>have:=h.1;grind
  |cons v r=>
   have h1:cz S w ι c v:=h.2 0 _ _ rfl rfl;have i:bA S w ι cs r:=⟨by simpa using h.1,λ j x v hx hv=>h.2 (j+1) x v (by simp_all) (by simp_all)⟩
   exact bA.cons (cz.nil c v hb.1 h1) (bA.tU cs r hb.2 i)
end
theorem TS{k:Nat}{row:List AV}{rest:List (List AV)}(h:cX S w ι k (.rows false (row::rest)))(A:ι k=some (some l)){c:Nat}{x:AV}(u:row[c]? =some x):
 ∃v,fC w l.bB (l.base+c)=some v∧cz S w ι x v:=by
 rcases h with ⟨q,_⟩|⟨l',bc,q,p,hm,j,i⟩
 ·simp_all
 ·rw[A]at q;injection q with q;injection q with q;subst q;have o:bA S w ι row (bc 0):=i.get rfl;have z:c<(bc 0).length:=by rw[←o.1];exact fD u
  have y:(bc 0)[c]? =some (bc 0)[c]:=Y3 z;have:=(j.2.2 0 c _ (by simp) y).1
  rw[VV,Wf]at this;exact⟨_,this,o.2 c x _ u y⟩
theorem IT{v:Value}(i:cz S w ι (.ptr 0 0 0) v)(o:∀(j:Nat) p g,gs[j]? =some (p,g)→cX S w ι j g.ao):∀(p:bL) (y:AV),iO gs p=some y→
 ∃u,sN w v p=some u∧cz S w ι y u
 | [],y,h=>by
  simp only[iO,Y5]at h;subst h;exact⟨v,rfl,i⟩
 |c::q,y,h=>by
  simp only[iO]at h;split at h
  ·rename_i j C;split at h
   ·rename_i p' row rest hj;obtain⟨u,h1,B⟩:=IT i o q _ C;obtain⟨l,A,rfl⟩:=B.dF;obtain⟨x,h4,z⟩:=TS (o j p' _ hj) A h;refine⟨x,?_,z⟩;simp only[sN,h1];simp_all
   ·cases h
  ·cases h
def kD(gs:Gr):Bool:=match gs with
 |([],.rows false [_])::_=>true
 |_=>false
def nR(n:Nat):Gr→Bool
 | []=>true
 |(_,g)::r=>dt n g.ao&&nR n r
theorem NJ{n:Nat}:∀{gs:Gr},nR n gs=true→∀(j:Nat) p g,gs[j]? =some (p,g)→dt n g.ao=true
 | [],_,j,p,g,h=>by simp at h
 |(p0,g0)::r,h,j,p,g,hj=>by
  simp only[nR,Yi]at h;cases j with
  |zero=>
   simp_all
  |succ j=>exact NJ h.2 j p g (by simp_all)
open Classical in
theorem XA{v:Value}(C:cz S w ι (.ptr 0 0 0) v)(U:∀(j:Nat) p g,gs[j]? =some (p,g)→cX S w ι j g.ao)(Q6:∀k,gs.length≤k→ι k=none)
 (HF:∀(k k':Nat) p p' g g',gs[k]? =some (p,g)→gs[k']? =some (p',g')→∀l l',ι k=some (some l)→ι k'=some (some l')→∀b,fz w l.bB g b→fz w l'.bB g' b→k=k')
 (hB:(kD gs&&vU gs 0 gs)=true):∃ιg,qF S w gs v ιg∧∀k l,ιg k=some (some l)→ι k=some (some l):=by
 rw[Yi]at hB;have hG:∀(j:Nat) p g,gs[j]? =some (p,g)→(∃av,iO gs p=some av∧mW av=some j)∧(∀c q,p=c::q→∃g',(q,g')∈gs)∧(∀rs,g=.rows false rs→∃row,rs=[row]∧nP gs p 0 row=true):=λ j p g hj=>by
  have:=OI hB.2 j p g hj;simp_all
 let ιg:bp:=λ k=>if Vd w v gs k then some none else ι k;have Q:∀k,Vd w v gs k→ιg k=some none:=λ k h=>if_pos h
 have Ll:∀k,¬Vd w v gs k→ιg k=ι k:=λ k h=>if_neg h;have B:∀k l,ιg k=some (some l)→¬Vd w v gs k∧ι k=some (some l):=λ k l h=>by
  grind
 have rK:∀k p V row rest,gs[k]? =some (p,.rows V (row::rest))→¬Vd w v gs k:=by
  rintro k p V row rest y ⟨p',pp,h1,_⟩;rw[y]at h1;injection h1 with h1;injection h1 with _ h1;injection h1 with _ h1;cases h1
 have hfm:∀k p z fs,gs[k]? =some (p,.cw z fs)→¬Vd w v gs k:=by
  rintro k p z fs y ⟨p',pp,h1,_⟩;rw[y]at h1;injection h1 with h1;injection h1 with _ h1;cases h1
 have X:∀(j:Nat) p row,gs[j]? =some (p,.rows false [row])→nP gs p 0 row=true→∀l,ι j=some (some l)→∀(c:Nat) x u,row[c]? =some x→fC w l.bB (l.base+c)=some u→cz S w ι x u→cz S w ιg x u:=by
  intro j p row hj O l hl c x u Y hu J;have A:=JE O c x Y;rw[Wf]at A;unfold pg at A;split at A
  ·rename_i k r0 c0;split at A
   ·rename_i p' V Gw rest y;obtain⟨l2,h1,rfl⟩:=J.dF;exact .ptr k r0 c0 l2 (by grind)
   grind
  ·rename_i k;split at A
   ·rename_i p' z fs y;obtain⟨l2,h1,rfl⟩:=J.dx;exact .bm k l2 (by grind)
   grind
  ·rename_i k z;split at A
   ·rename_i c' q' V rs y;rw[Yi]at A;have ec:=Uh A.1;have eq:=BU A.2;subst ec;subst eq;by_cases H:Vd w v gs k
    ·have R:=H;obtain⟨p'',pp,h1,F⟩:=H;rw[y]at h1;injection h1 with h1;injection h1 with h1 _;subst h1;obtain⟨⟨av,E,T⟩,_,_⟩:=hG k _ _ y;simp only[iO]at E;split at E
     ·rename_i j' hq;obtain⟨⟨av',g3,g4⟩,_,_⟩:=hG j _ _ hj;rw[hq]at g3;injection g3 with g3;subst g3;simp only[mW,Y5]at g4;subst g4;obtain⟨u0,k1,k2⟩:=IT C U _ _ hq;obtain⟨l0,k3,rfl⟩:=k2.dF;rw[hl]at k3;injection k3 with k3;injection k3 with k3;subst k3;have D2:sN w v (c::q')=some u:=by
       simp only[sN,k1];simpa using hu
      simp only[pat,D2,Y1]at F;rcases kZ J with ⟨l2,a,cap,q,rfl,b2,b3,b4,bz,ba⟩|⟨q,a,rfl⟩
      ·have uw:cap=0:=by
        rcases VW cap with h|h
        ·exact h
        ·simp only[vb]at F;grind
       subst uw;have:l2.eA=0:=by omega
       rw[this];exact .fW k z _ (Q k R)
      ·exact .fW k z _ (Q k R)
     grind
    ·rcases kZ J with ⟨l2,a,cap,q,rfl,b2,b3,b4,bz,ba⟩|⟨q,a,rfl⟩
     ·exact .bf k z cap a l2 (by grind) b2 b3 b4 bz ba
     ·exact .fW k z a (by grind)
   grind
  ·exact cz.nil x u A J
 refine⟨ιg,⟨?_,λ k p g y=>⟨?_,?_⟩,λ k k' p p' g g' y RH l l' hl jy b b1 b2=>HF k k' p p' g g' y RH l l' (B k l hl).2 (B k' l' jy).2 b b1 b2,?_,λ k y=>?_⟩,λ k l h=>(B k l h).2⟩
 ·obtain⟨l,h1,rfl⟩:=C.dF;refine .ptr 0 0 0 l ?_;have yU:=hB.1;unfold kD at yU;grind
 ·by_cases H:Vd w v gs k
  ·have R:=H;obtain⟨p',pp,h1,F⟩:=H;rw[y]at h1;injection h1 with h1;injection h1 with _ h1;subst h1;exact .inl ⟨Q k R,rfl⟩
  ·have ho:=U k p g y;cases g with
   |cw z fs=>
    obtain⟨l,xs,Z,h1,F,h3,M⟩:=ho;exact⟨l,xs,Z,by grind,F,h3,M.1,λ i e x he Y=>⟨(M.2.1 i e x he Y).1,(M.2.1 i e x he Y).2.1,λ q hq=>by cases hq⟩,M.2.2⟩
   |rows V rs=>
    rcases ho with ⟨h1,F⟩|⟨l,bc,h1,F,h3,M,h5⟩
    ·exact .inl ⟨by grind,F⟩
    ·refine .inr ⟨l,bc,by grind,F,h3,M,?_⟩
     cases V with
     |true=>exact λ i r J=>by have:=h5 i r J;grind
     |false=>
      obtain⟨row,rfl,O⟩:=(hG k p _ y).2.2 rs rfl;intro i r J;have hi:i=0:=by have:=fD J;simp at this;exact this
      subst hi;simp only[Yv,Y5]at J;subst J;have hR:bA S w ι row (bc 0):=h5.get rfl;simp only[YN,Ym];refine⟨hR.1,λ c x u Y hu=>?_⟩;have iG:=(M.2.2 0 c u (by simp) hu).1
      rw[VV,Wf]at iG;exact X k p row y O l h1 c x u Y iG (hR.2 c x u Y hu)
 ·obtain⟨⟨av,h1,F⟩,_,_⟩:=hG k p g y;obtain⟨u,h3,M⟩:=IT C U p av h1;have hp:pat w v p=vb u:=by simp[pat,h3]
  by_cases H:Vd w v gs k
  ·rw[Q k H];obtain⟨p',pp,E,T⟩:=H;rw[y]at E;injection E with E;injection E with E _;subst E;rw[T];rfl
  ·rw[Ll k H,hp];rcases AK M F with ⟨l,E,T|⟨T,g3⟩⟩|⟨E,T⟩
   ·rw[E,T];rfl
   ·exfalso;have ho:=U k p g y;cases g with
    |rows V rs=>
     rcases ho with ⟨q,_⟩|⟨l',bc,q,fw,_⟩
     ·grind
     ·rw[E]at q;injection q with q;injection q with q;subst q;obtain rfl:rs=[]:=YR.1 (by omega)
      exact H ⟨p,V,y,by grind⟩
    |cw z fs=>
     cases av with
     |ptr o r c=>
      obtain⟨l2,_,rfl⟩:=M.dF;cases T
     |bm o=>
      obtain⟨l2,_,rfl⟩:=M.dx;cases T
     |bf o z'=>
      simp only[mW,Y5]at F;subst F;cases p with
      |nil=>simp[iO]at h1
      |cons c q=>
       simp only[iO]at h1;split at h1
       ·rename_i j' hq;split at h1
        ·rename_i p' row rest hj;obtain⟨Gw,e,O⟩:=(hG j' p' _ hj).2.2 _ rfl;injection e with e1 e2;subst e1;have:=JE O c _ h1;simp only[pg,y]at this;cases this
        grind
       grind
     |_=>cases F
   ·rw[E,T];rfl
 ·exact λ c q g hm=>by
   obtain⟨j,hj⟩:=WM hm;grind
 ·rw[Ll k (λ H=>by
   obtain⟨p,pp,h1,_⟩:=H;grind)]
  grind
theorem Inv.BK(h:Inv C S ι un f a w){o i q:Nat}{k:AV}{old:Gr}{V:bL}(ho:f.os o=some (.cF es (some (i,q))))(hi:es[i]? =some (k,old))
 (hVl:V.length=gs.length) (xf:V.Nodup) (xe:o∉V) (hq:V.getD 0 0=q) (gm:∀(j:Nat) p g,gs[j]? =some (p,g)→∃x,f.os (V.getD j 0)=some x∧gO x (dq (λ n=>V.getD n 0) g.ao))
 (hB:(kD gs&&vU gs 0 gs&&nR gs.length gs)=true):
 Inv C S ι un {f with os:=bw f.os ((o,some (.cF (es.set i (k,gs)) none))::V.map λ q=>(q,none))} a w:=by
 rw[Yi]at hB;obtain⟨Ih,HG⟩:=hB;obtain⟨l,xs,F,jP,B,cS,hF⟩:=h.ob o _ ho;have pR:i<xs.size:=by rw[←hF.len];exact fD hi
 obtain⟨x0,iZ⟩:∃x0,xs[i]? =some x0:=⟨_,W6 pR⟩;let σ:Nat→Nat:=λ n=>V.getD n 0;have H':∀j<gs.length,V[j]? =some (σ j):=λ j hj=>by
  grind
 have xg:∀j<gs.length,σ j∈V:=λ j hj=>YO (H' j hj);have hσinj:∀j O,j<gs.length→O<gs.length→σ j=σ O→j=O:=λ j O hj M e=>by
  have h1:=H' j hj;have E:=H' O M;rw[←e]at E;have D7:j<V.length:=by omega
  have xk:O<V.length:=by omega
  exact(List.getElem?_inj D7 xf).1 (h1.trans E.symm)
 have h0:0<gs.length:=by
  have yU:kD gs=true:=by rw[Yi]at Ih;exact Ih.1
  cases gs with
  |nil=>cases yU
  |cons _ _=>simp
 let ι0:bp:=ιback ι σ gs.length;have Hs:∀(j:Nat) p g,gs[j]? =some (p,g)→cX S w ι0 j g.ao:=λ j p g hj=>
  cX.fk (fD hj) (NJ HG j p g hj) (by
   obtain⟨x,u,ke⟩:=gm j p g hj;exact ke.ok (h.ob _ x u))
 have rH:cz S w ι0 (.ptr 0 0 0) x0.val:=by
  have:=(hF.at_ i _ x0 hi iZ).2.2 q rfl;refine cz.fk (.ptr 0 0 0) x0.val (Y2 h0) ?_;show cz S w ι (.ptr (σ 0) 0 0) x0.val;rw[show σ 0=q from hq];exact this
 have J:∀k l,ι0 k=some (some l)→k<gs.length∧ι (σ k)=some (some l):=λ k l e=>by
  simp only[ι0,ιback]at e;simp_all
 have lT:∀(j:Nat) p g,gs[j]? =some (p,g)→∃x,f.os (σ j)=some x∧x.live=true∧∀l2 b,fz w l2.bB g b→c6 w x l2 b:=λ j p g hj=>by
  obtain⟨x,u,ke⟩:=gm j p g hj;exact⟨x,u,by rw[←ke.live,nB];exact g.live,λ l2 b H=>uL ke (Jm.1 H)⟩
 obtain⟨ιg,hG,hGι⟩:=XA rH Hs (λ k hk=>by simp only[ι0,ιback];grind) (λ j O p p' g g' hj M l1 l2 e1 e2 b b1 b2=>by
  obtain⟨k1,p1⟩:=J j l1 e1;obtain⟨k2,p2⟩:=J O l2 e2;obtain⟨x1,kd,iR,HW⟩:=lT j p g hj;obtain⟨x2,DV,jX,R4⟩:=lT O p' g' M;exact hσinj j O k1 k2 (h.inj _ _ _ _ kd DV iR jX l1 l2 p1 p2 b (HW l1 b b1) (R4 l2 b b2))) Ih
 have mA:∀b,ew w gs x0.val b→∃(j:Nat) (x:AO) (l2:Loc),j<gs.length∧f.os (σ j)=some x∧x.live=true∧ι (σ j)=some (some l2)∧c6 w x l2 b:=by
  intro b H;obtain⟨j,p,g,l2,h1,E,Q⟩:=hG.tR H;obtain⟨x,u,hv,hf⟩:=lT j p g h1;exact⟨j,x,l2,fD h1,u,hv,(J j l2 (hGι j l2 E)).2,hf l2 b Q⟩
 have pQ:∀b,ew w gs x0.val b→∀R,ι o=some (some R)→c6 w (.cF es (some (i,q))) R b→False:=by
  intro b H R z hf;obtain⟨j,x,l2,hj,u,hv,E,Q⟩:=mA b H;have:=h.inj _ _ _ _ u ho hv rfl l2 R E z b Q hf;exact xe (this▸xg j hj)
 have A:∀j,j≠i→(some (i,q):Option (Nat×Nat)).map (·.1)≠some j:=λ j hj=>by
  grind
 have U:∀(j:Nat) e,(es.set i (k,gs))[j]? =some e→(j=i∧e=(k,gs))∨(j≠i∧es[j]? =some e):=by
  intro j e he;by_cases hj:j=i
  ·grind
  ·grind
 have Z:∀R,ι o=some (some R)→∀b,c6 w (.cF (es.set i (k,gs)) none) R b→c6 w (.cF es (some (i,q))) R b∨ew w gs x0.val b:=by
  rintro R z b (H|⟨Qx,c3,j,e,x,h1,E,Q,h4,h5⟩)
  ·exact .inl (.inl H)
  ·rw[jP]at z;injection z with z;injection z with z;subst z;rw[B]at h1;injection h1 with h1;injection h1 with q1 q2;subst q1;rcases U j e E with ⟨rfl,rfl⟩|⟨hj,E⟩
   ·grind
   ·exact .inl (.inr ⟨xs,F,j,e,x,B,E,Q,A j hj,h5⟩)
 have T:∀k' y,bw f.os ((o,some (.cF (es.set i (k,gs)) none))::V.map λ q=>(q,none)) k'=some y→(k'=o∧y=.cF (es.set i (k,gs)) none)∨(k'≠o∧k'∉V∧f.os k'=some y):=by
  intro k' y hy;have hn:∀(V:bL) (k:Nat),bw f.os (V.map λ q=>(q,none)) k=if k∈V then none else f.os k:=by
   intro V;induction V with
   |nil=>intro k;rfl
   |cons q r ih=>
    intro k;simp only[Yy,bw,ih,Yr];grind
  simp only[bw]at hy;by_cases e2:k'=o
  ·grind
  ·grind
 have hw:gA S w w:=λ _ _=>rfl;have vN:∀k' y,k'≠o→k'∉V→f.os k'=some y→y.live=true→∀l',ι k'=some (some l')→∀b,c6 w y l' b→∀R,ι o=some (some R)→c6 w (.cF (es.set i (k,gs)) none) R b→False:=by
  intro k' y iF RG hy mB l' Y b H R z hf;rcases Z R z b hf with hf|hf
  ·exact iF (h.inj k' o y _ hy ho mB rfl l' R Y z b H hf)
  ·obtain⟨j,x,l2,hj,u,hv,E,Q⟩:=mA b hf;have:=h.inj k' _ y _ hy u mB hv l' l2 Y E b H Q;grind
 refine h.iC (λ _ x=>x) hw (bp.le_refl _) ?_ ?_ ?_ h.sb h.sn h.un h.fr
 ·intro k' y hy;rcases T k' y hy with ⟨rfl,rfl⟩|⟨h1,E,Q⟩
  ·refine⟨l,xs,F,jP,B,cS,by simpa using hF.len,λ j e x he u=>?_,λ j O e e' x x' b he xn u X _ _ h1 E=>?_⟩
   ·rcases U j e he with ⟨rfl,rfl⟩|⟨hj,he⟩
    ·rw[iZ]at u;injection u with u;subst u;exact⟨(hF.at_ j _ x0 hi iZ).1,λ _=>⟨⟨ιg,hG⟩,λ b H e=>pQ b H l jP (.inl e)⟩,λ q hq=>by cases hq⟩
    ·obtain⟨j1,j2,_⟩:=hF.at_ j e x he u;grind
   ·rcases U j e he with ⟨hj,rfl⟩|⟨hj,y5⟩<;>rcases U O e' xn with ⟨M,rfl⟩|⟨M,Bu⟩
    ·omega
    ·subst hj;rw[iZ]at u;injection u with u;subst u;exact(pQ b h1 l jP (.inr ⟨xs,F,O,e',x',B,Bu,X,A O M,E⟩)).elim
    ·subst M;rw[iZ]at X;injection X with X;subst X;exact(pQ b E l jP (.inr ⟨xs,F,j,e,x,B,y5,u,A j hj,h1⟩)).elim
    ·exact hF.inj j O e e' x x' b y5 Bu u X (A j hj) (A O M) h1 E
  ·exact(h.ob k' y Q).mono (λ _ x=>x) hw (bp.le_refl _) (λ _ _ _ _ _=>rfl)
 ·intro k' y hy mB l' Y b H;rcases T k' y hy with ⟨rfl,rfl⟩|⟨h1,E,Q⟩
  ·rcases Z l' Y b H with H|H
   ·exact h.own k' _ ho rfl l' Y b H
   ·obtain⟨j,x,l2,hj,u,hv,E,Q⟩:=mA b H;exact h.own _ _ u hv l2 E b Q
  ·exact h.own k' y Q mB l' Y b H
 ·intro k1 k2 y1 y2 mw nS iR jX l1 l2 e1 e2 b lB kN;rcases T k1 y1 mw with ⟨rfl,rfl⟩|⟨h1,E,Q⟩<;>rcases T k2 y2 nS with ⟨g0,g⟩|⟨g1,g2,g3⟩
  ·omega
  ·grind
  ·grind
  ·exact h.inj k1 k2 y1 y2 Q g3 iR jX l1 l2 e1 e2 b lB kN
theorem Zq1{op:Op}{v:AV}{U:List (Nat×Option AO)}{RO:bL}(jh:o.op=op)(h:Inv C S ι un f a w)
 (iE:GStep P (ig C.G f.g) f.os id op v U RO) (hid:∀x,id≤x→x<id+W→un x) (hd:∀d,o.dst=some d→C.N.lo≤d∧d<C.N.n) (hn:gK C un id o f v U next):o.wp P a w next Q:=by
 have Ax:∀x,un x∧¬(id≤x∧x<id+W)→un x∧x≠id:=λ x hx=>qs hx;cases iE with
 |look t kt m k ok ob es i e hm ho E hk hr he hW=>
  have F:=h.ev m;have B:=h.ev k;rw[hm]at F;obtain⟨l,hl,Y⟩:=F.dx;obtain⟨l',xs,H,u,z,jL,hF⟩:=h.ob ob _ ho;rw[hl]at u;injection u with u;injection u with u;subst u;obtain⟨j7,X,⟨d,Z⟩,jO⟩:=qh hk B;obtain⟨T,V,ji,mC⟩:=qO Z hk B (jH.AJ hF) hr;unfold dL at E;split at E
  ·rename_i kk ee M;injection E with E;subst E;have R:(Instr.findKey kk (a.eval k) xs.toList).run P w=.ok T w:=V;obtain⟨⟨j',y⟩,rfl⟩:∃p,T=some p:=by cases T with|none=>grind|some p=>simp
   simp only[YE,Y5]at ji;subst ji;obtain⟨x0,iZ,rz⟩:=mC j' y rfl;obtain⟨ι',hle,J,O⟩:=h.BJ hid ho he hW hl z (x:=x0) (by simp_all)
   have A:(execOp a.eval o).run P w=.ok (.value (if ok then .tuple #[y,.bool true]else y)) w:=by
    unfold execOp;rw[jh];simp only[Y,Instr.lookup,Yc,Yb M,Y6,mF z,Yd,X,R]
   unfold Oper.wp;rw[A,YT];rw[rz]at J;refine Inv.goes hn O (λ x hx=>hx) ?_ hd;cases ok
   ·exact J
   ·exact bA.kz (bA.cons J (bA.cons (.cu _ _ (.bool _)) .nil))
  grind
 |same t kt m k ok ob q es i hm ho E hk hr=>
  have F:=h.ev m;have B:=h.ev k;rw[hm]at F;obtain⟨l,hl,Y⟩:=F.dx;obtain⟨l',xs,H,u,z,jL,hF⟩:=h.ob ob _ ho;rw[hl]at u;injection u with u;injection u with u;subst u;obtain⟨j7,X,⟨d,Z⟩,jO⟩:=qh hk B;obtain⟨T,V,ji,mC⟩:=qO Z hk B (jH.AJ hF) hr;unfold dL at E;split at E
  ·rename_i kk ee M;injection E with E;subst E;have R:(Instr.findKey kk (a.eval k) xs.toList).run P w=.ok T w:=V;obtain⟨⟨j',y⟩,rfl⟩:∃p,T=some p:=by cases T with|none=>grind|some p=>simp
   simp only[YE,Y5]at ji;subst ji;obtain⟨x0,iZ,rz⟩:=mC j' y rfl;have A4:xs[j']? =some x0:=by rw[←WG];exact iZ
   have pR:j'<es.length:=by rw[hF.len];exact(WO.1 A4).1
   have J:=(hF.at_ j' _ x0 (Y3 pR) A4).2.2 q rfl;have A:(execOp a.eval o).run P w=.ok (.value (if ok then .tuple #[y,.bool true]else y)) w:=by
    unfold execOp;rw[jh];simp only[Y,Instr.lookup,Yc,Yb M,Y6,mF z,Yd,X,R]
   refine im hn h hd A ?_;rw[rz]at J;cases ok
   ·exact J
   ·exact bA.kz (bA.cons J (bA.cons (.cu _ _ (.bool _)) .nil))
  grind
 |ic t kt m k ok ob es hh v hm ho E hk hr hv=>
  have F:=h.ev m;have B:=h.ev k;rw[hm]at F;obtain⟨l,hl,Y⟩:=F.dx;obtain⟨l',xs,H,u,z,jL,hF⟩:=h.ob ob _ ho;rw[hl]at u;injection u with u;injection u with u;subst u;obtain⟨j7,X,⟨d,Z⟩,jO⟩:=qh hk B;obtain⟨T,V,ji,mC⟩:=qO Z hk B (jH.AJ hF) hr;unfold dL at E;split at E
  ·rename_i kk ee M;injection E with E;subst E;have R:(Instr.findKey kk (a.eval k) xs.toList).run P w=.ok T w:=V;cases T with
   |some p=>grind
   |none=>
    obtain⟨vt,zv,lj,hz,ke⟩:=hv;have mz:ee=vt:=by unfold gT at lj;rw[M]at lj;simpa using lj
    subst mz;unfold zeroV at hz;split at hz
    ·cases hz
    ·rename_i i hi;split at hz
     ·rename_i qn qv;injection hz with hz;subst hz;have qx:(zeroValue ee).run P w=.ok qn w:=by simp[zeroValue,typeInfo,hi,qv]
      have A:(execOp a.eval o).run P w=.ok (.value (if ok then .tuple #[qn,.bool false]else qn)) w:=by
       unfold execOp;rw[jh];simp only[Y,Instr.lookup,Yc,Yb M,Y6,mF z,Yd,X,R,qx]
      refine im hn h hd A ?_;have:=ke.rep _ (cz.cu (S:=S) (w:=w) (ι:=ι) _ _ (uP qn));cases ok
      ·exact this
      ·exact bA.kz (bA.cons this (bA.cons (.cu _ _ (.bool _)) .nil))
     grind
  grind
 |mk t hk=>
  have A:(execOp a.eval o).run P w=.ok (.value (.map (some w.heap.size))) (w.alloc (.map #[] 0)):=by
   unfold execOp;rw[jh];simp only[Instr.makeMap,V8,Yc,Yd,Vk,Y6];rfl
  unfold Oper.wp;rw[A,YT];have hh:(w.alloc (.map #[] 0)).heap[w.heap.size]? =some (.map #[] 0):=by show(w.heap.push _)[w.heap.size]? =_;simp
  obtain⟨ι',hle,hι',O⟩:=h.alloc (ja hid) (.map #[] 0) ⟨w.heap.size,0,0,0,0⟩ rfl (.cF [] none) rfl (λ b hb=>by
   rcases hb with hb|⟨xs,c,i,e,x,h1,h2,_⟩
   all_goals simp_all) (λ ι' hle hι'=>
   ⟨_,#[],0,hι',hh,⟨by simp,Pv⟩,rfl,λ i e x h=>by simp at h,λ i j e T x x' b h=>by simp at h⟩)
  exact Inv.goes hn O Ax (.bm id _ hι') hd
 |put _ t kt m k x rJ ob q es hm ho E hk hr cS hx g0=>
  have F:=h.ev m;have B:=h.ev k;have pM:=h.ev x;rw[hm]at F;rw[hx]at pM;obtain⟨l,hl,Y⟩:=F.dx;obtain⟨l',xs,H,u,z,jL,hF⟩:=h.ob ob _ ho;rw[hl]at u;injection u with u;injection u with u;subst u;obtain⟨j7,X,⟨d,Z⟩,jO⟩:=qh hk B;obtain⟨T,V,ji,mC⟩:=qO Z hk B (jH.AJ hF) hr;unfold dL at E;split at E
  ·rename_i kk ee M;injection E with E;subst E;have R:(Instr.findKey kk (a.eval k) xs.toList).run P w=.ok T w:=V;have hex:(execOp a.eval o)=(do Instr.mapUpdate t (a.eval m) (a.eval k) (a.eval x);pure .skip:Sem Next):=by
    unfold execOp;rw[jh];rcases rJ with rfl|rfl<;>rfl
   have he:T=none:=by cases T with|none=>rfl|some p=>grind
   subst he;have A:(execOp a.eval o).run P w=.ok .skip {w with heap:=w.heap.setIfInBounds l.bB (.map (xs.push {key:=a.eval k,val:=a.eval x,born:=H}) (H+1))}:=by
    rw[hex,Y];simp only[Instr.mapUpdate,Yc,Yb M,Y6,mF z,X,R,uY _ z,Yd]
   unfold Oper.wp;rw[A,VJ];have O:=h.Ij ho hl z (k:=ig C.G f.g k) (kv:=a.eval k) (j7) pM (O6 hr (jH.AJ hF) B) cS g0;exact Inv.goes hn O (λ x hx=>hx.1) (.cu _ _ (.undef _)) hd
  grind
end
end
theorem Fj{α β:Type}{f:α→Option β}:∀{l:List α} {l':List β},kX f l=some l'→
 l.length=l'.length∧∀(i:Nat) x y,l[i]? =some x→l'[i]? =some y→f x=some y:=by
 intro l;induction l with
 |nil=>intro l' h;simp only[kX,Y5]at h;simp_all
 |cons a r ih=>
  intro l' h;simp only[kX]at h;grind
section
variable {S:Nat→Prop}{w:World}{ι:bp}{ol:Nat→Option AO}
def SV(S:Nat→Prop)(ι:bp)(ol:Nat→Option AO)(V:bL)(b:Nat):Prop:=
 S b∨∃o x l,o∈V∧ol o=some x∧ι o=some (some l)∧b=l.bB
theorem Cu{V:bL}{cl:AV→Option AV}(R:∀x v x',cz S w ι x v→cl x=some x'→cE (SV S ι ol V) w x' v)
 {o:Nat} {y:AO} {rs:List (List AV)} (O:cX S w ι o y) (h:qc cl y=some rs):
 (ι o=some none∧rs=[])∨∃l bc,ι o=some (some l)∧rs.length=l.eA∧p9 w l rs.length bc∧
  ∀(i:Nat) row,rs[i]? =some row→cy (SV S ι ol V) w row (bc i):=by
 have up:∀{row:List AV} {vs:List Value},cy S w row vs→cy (SV S ι ol V) w row vs:=λ h=>h.mono (λ b Z=>.inl Z) (λ _ _=>rfl);unfold qc at h;split at h
 ·injection h with h;subst h;rcases O with h|⟨l,bc,h1,J,U,H,C⟩
  ·grind
  ·exact .inr ⟨l,bc,h1,J,H,λ i row u=>up (by have:=C i row u;simp_all)⟩
 ·rename_i z;obtain⟨F,Q⟩:=Fj h;rcases O with ⟨q,rfl⟩|⟨l,bc,h1,J,U,H,C⟩
  ·grind
  ·refine .inr ⟨l,bc,h1,by omega,by simp_all,λ i row u=>?_⟩
   have X:i<z.length:=by rw[F];exact fD u
   have B:=Y3 X;have:=Q i _ _ B u;obtain⟨E,M⟩:=Fj this;have p:=C.get B;refine⟨by rw[←E];exact p.1,λ j x v T Y=>?_⟩
   have hj:j<z[i].length:=by rw[E];exact fD T
   have A:=Y3 hj;exact R _ _ _ (p.2 j _ v A Y) (M j _ _ A T)
 ·injection h with h;subst h;rcases O with h|⟨l,bc,h1,J,U,H,C⟩
  ·grind
  ·exact .inr ⟨l,bc,h1,J,H,λ i row u=>up (by have:=C i row u;simp_all)⟩
 all_goals simp_all
theorem cE.empty{S:Nat→Prop}{w:World}(a:Option Addr)(cap:Nat):(a=none→cap=0)→cE S w (.sl []) (.slice a 0 cap):=by
 intro h;cases a with
 |none=>rw[h rfl];exact .gG
 |some a=>
  exact cE.sl [] a cap 0 (λ _=>[]) (by simp) (by simp) (λ h=>absurd rfl h) (λ i r h=>by simp at h) (λ i j v h=>by simp at h) (λ i j r x v h=>by simp at h)
theorem xZ{V:bL}(gm:∀o x,ol o=some x→cX S w ι o x):∀(n:Nat) (x:AV) (v:Value) (x':AV),cz S w ι x v→
 gi V ol n x=some x'→cE (SV S ι ol V) w x' v:=by
 intro n;induction n with
 |zero=>intro x v x' _ h;simp[gi]at h
 |succ n ih=>
  intro x v x' C h;have up:∀{x:AV} {v:Value},cE S w x v→cE (SV S ι ol V) w x v:=λ h=>h.mono (λ b hb=>.inl hb) (λ _ _=>rfl);have F:∀{cs J:List AV} {vs:List Value},bA S w ι cs vs→kX (gi V ol n) cs=some J→cy (SV S ι ol V) w J vs:=by
   intro cs J vs O hm;obtain⟨U,hp⟩:=Fj hm;refine⟨by rw[←U];exact O.1,λ j x v hx R=>?_⟩
   have hj:j<cs.length:=by rw[U];exact fD hx
   have iZ:=Y3 hj;exact ih _ _ _ (O.2 j _ v iZ R) (hp j _ _ iZ hx)
  cases x with
  |bf o z=>
   simp only[gi]at h;split at h
   ·rename_i hV;split at h
    ·rename_i y X;simp only[Yq]at h;obtain⟨rs,Q,rfl⟩:=h;rcases Cu ih (gm o y X) Q with ⟨q,rfl⟩|⟨l,bc,q,M,H,A⟩
     ·rcases kZ C with ⟨l',T,cap,B,_⟩|⟨B,T,rfl⟩
      ·simp_all
      ·exact cE.empty T 0 (λ _=>rfl)
     ·rcases kZ C with ⟨l',T,cap,B,rfl,h2,h3,h4,hz,ha⟩|⟨B,T,rfl⟩
      ·rw[q]at B;injection B with B;injection B with B;subst B;rw[←M];refine cE.sl rs T cap l.bX bc (by omega) (by omega) (λ iF=>?_) (λ i r E=>?_) (λ i j v hi R=>?_) (λ i j r x v h1 h2 h3=>?_)
       ·have:0<rs.length:=Vc.2 iF;rw[ha (by omega)]
        exact⟨.inr ⟨o,y,l,by simp_all,X,q,rfl⟩,rfl⟩
       ·have:=(A i r E).1;have h5:=H.2.1 i (fD E);omega
       ·have:0<rs.length:=by omega
        rw[ha (by omega)]
        exact H.2.2 i j v hi R
       ·exact(A i r h1).2 j x v h2 h3
      simp_all
    ·cases h
   ·cases h
  |fp o off len room=>
   simp only[gi]at h;split at h
   ·rename_i hV;split at h
    ·rename_i y X;simp only[Yq]at h;obtain⟨rs,Q,rfl⟩:=h;rcases Cu ih (gm o y X) Q with ⟨q,rfl⟩|⟨l,bc,q,M,H,A⟩
     ·rcases xI C with ⟨l',T,cap,B,_⟩|⟨B,rfl,rfl,rfl,T,rfl⟩
      ·simp_all
      ·simpa using cE.empty T 0 (λ _=>rfl)
     ·rcases xI C with ⟨l',T,cap,B,rfl,h1,h2,h3,h4,h5,ha⟩|⟨B,_⟩
      ·rw[q]at B;injection B with B;injection B with B;subst B;have hlen:((rs.drop off).take len).length=len:=by simp;omega
       have Z:∀(i:Nat) r,((rs.drop off).take len)[i]? =some r→i<len∧rs[off+i]? =some r:=by
        intro i r E;rw[Ww]at E;split at E
        ·simp_all
        ·cases E
       have:=cE.sl (S:=SV S ι ol V) (w:=w) ((rs.drop off).take len) T cap l.bX (λ i=>bc (off+i)) (by omega) (by omega) (λ iF=>by
        have:0<((rs.drop off).take len).length:=Vc.2 iF;rw[ha (by omega)]
        exact⟨.inr ⟨o,y,l,by simp_all,X,q,rfl⟩,rfl⟩) (λ i r E=>by
         obtain⟨hi,hg⟩:=Z i r E;have:=(A _ r hg).1;have h5:=H.2.1 _ (fD hg);omega) (λ i j v hi R=>by
         rw[hlen]at hi;rw[ha (by omega)]
         have:=H.2.2 (off+i) j v (by omega) R
         grind) (λ i j r x v h1 h2 h3=>by
         obtain⟨hi,hg⟩:=Z i r h1;exact(A _ r hg).2 j x v h2 h3)
       simp_all
      simp_all
    ·cases h
   ·cases h
  |ptr o r c=>
   simp only[gi]at h;split at h
   ·rename_i hV;split at h
    ·rename_i y X;split at h
     ·rename_i rs Q;split at h
      ·rename_i row Y;injection h with h;subst h;obtain⟨l,U,rfl⟩:=C.dF;rcases Cu ih (gm o y X) Q with ⟨q,rfl⟩|⟨l',bc,q,M,H,A⟩
       ·simp_all
       ·rw[q]at U;injection U with U;injection U with U;subst U;have hi:=fD Y;have O:=A r row Y;have:=cE.rp (S:=SV S ι ol V) (w:=w) row c l'.bB (l'.base+r*l'.bX) (bc r) (.inr ⟨o,y,l',by simp_all,X,q,rfl⟩) O.1 (λ j v R=>by
         have:=H.2.2 r j v hi R;grind) O.2
        grind
      ·cases h
     ·cases h
    ·cases h
   ·cases h
  |agg cs=>
   simp only[gi,Yq]at h;obtain⟨J,hc,rfl⟩:=h;obtain⟨vs,rfl,O⟩:=C.eg;have:=F O hc;exact .agg _ _ (by simpa using this.1) (λ j x v hx R=>this.2 j x v hx (by simp_all))
  |cx cs=>
   simp only[gi,Yq]at h;obtain⟨J,hc,rfl⟩:=h;obtain⟨vs,rfl,O⟩:=C.ib;have:=F O hc;exact .cx _ _ (by simpa using this.1) (λ j x v hx R=>this.2 j x v hx (by simp_all))
  |fn f cs=>
   simp only[gi,Yq]at h;obtain⟨J,hc,rfl⟩:=h;obtain⟨vs,rfl,O⟩:=C.ie;have:=F O hc;exact .fn _ _ _ (by simpa using this.1) (λ j x v hx R=>this.2 j x v hx (by simp_all))
  |dK=>simp only[gi,Y5]at h;subst h;exact up (C.free rfl)
  |bm o=>simp[gi]at h
  |int k m=>simp only[gi,Y5]at h;subst h;exact up (C.free rfl)
  |bool b=>simp only[gi,Y5]at h;subst h;exact up (C.free rfl)
  |str s=>simp only[gi,Y5]at h;subst h;exact up (C.free rfl)
  |sl xs=>simp only[gi,Y5]at h;subst h;exact up (C.free rfl)
  |rp row c=>simp only[gi,Y5]at h;subst h;exact up (C.free rfl)
  |eT u=>simp only[gi,Y5]at h;subst h;exact up (C.free rfl)
  |undef=>simp only[gi,Y5]at h;subst h;exact up (C.free rfl)
  |eR p=>simp only[gi,Y5]at h;subst h;exact up (C.free rfl)
theorem NX{V:bL}(q:∀o x,ol o=some x→cX S w ι o x){n:Nat}{cs i:List AV}{vs:List Value}(u:bA S w ι cs vs)
 (A:kX (gi V ol n) cs=some i):cy (SV S ι ol V) w i vs:=by
 obtain⟨z,B⟩:=Fj A;refine⟨by rw[←z];exact u.1,λ j x v y C=>?_⟩
 have hj:j<cs.length:=by rw[z];exact fD y
 have p:=Y3 hj;exact xZ q n _ _ _ (u.2 j _ v p C) (B j _ _ p y)
end
theorem E3:∀{cs:List AV} {x:AV},nr cs=true→x∈cs→flat x=true:=by
 intro cs;induction cs with
 |nil=>simp
 |cons a r ih=>
  intro x h hm;simp only[nr,Yi]at h;grind
theorem cE.flat{S S':Nat→Prop}{w w':World}{x:AV}{v:Value}(h:cE S w x v)(i:flat x=true):cE S' w' x v:=by
 induction h with
 |int k n=>exact .int k n
 |bool b=>exact .bool b
 |str s=>exact .str s
 |eT v h=>exact .eT v h
 |agg cs vs hl _ ih=>
  refine .agg cs vs hl (λ j x v o p=>ih j x v o p ?_);simp only[Ab.flat]at i;exact E3 i (YO o)
 |cx cs vs hl _ ih=>
  refine .cx cs vs hl (λ j x v o p=>ih j x v o p ?_);simp only[Ab.flat]at i;exact E3 i (YO o)
 |_=>simp[Ab.flat]at i
theorem cz.flat{S S':Nat→Prop}{w w':World}{ι:bp}{x:AV}{v:Value}(h:cz S w ι x v)(i:flat x=true):cE S' w' x v:=by
 induction h with
 |cu x v h=>exact h.flat i
 |agg cs vs hl _ ih=>
  refine .agg cs vs hl (λ j x v o p=>ih j x v o p ?_);simp only[Ab.flat]at i;exact E3 i (YO o)
 |cx cs vs hl _ ih=>
  refine .cx cs vs hl (λ j x v o p=>ih j x v o p ?_);simp only[Ab.flat]at i;exact E3 i (YO o)
 |_=>simp[Ab.flat]at i
theorem OC{V:bL}{ol:Nat→Option AO}{n:Nat}{U:List (Nat×Option AO)}(h:frozen V ol n=some U)(base:Nat→Option AO)(o:Nat):
 (o∈V∧∃y rs,ol o=some y∧qc (gi V ol n) y=some rs∧bw base U o=some (.dD rs))∨(o∉V∧bw base U o=base o):=by
 unfold frozen at h;have:∀(V':bL) (U:List (Nat×Option AO)),kX (λ o=>match ol o with|some y=>(qc (gi V ol n) y).map λ rs=>(o,some (AO.dD rs))|none=>none) V'=some U→
  (o∈V'∧∃y rs,ol o=some y∧qc (gi V ol n) y=some rs∧bw base U o=some (.dD rs))∨(o∉V'∧bw base U o=base o):=by
  intro V';induction V' with
  |nil=>intro U h;simp only[kX,Y5]at h;subst h;exact .inr ⟨by simp,rfl⟩
  |cons k r ih=>
   intro U h;simp only[kX]at h;split at h
   ·rename_i y s q u;injection h with h;subst h;split at q
    ·rename_i z x;simp only[Yq]at q;obtain⟨rs,i,rfl⟩:=q;by_cases e:o=k
     ·subst e;left;exact⟨by simp,z,rs,x,i,by simp[bw]⟩
     ·rcases ih s u with ⟨h1,j⟩|⟨h1,j⟩
      ·left;refine⟨by simp[h1],?_⟩
       obtain⟨y,p,C,B,A⟩:=j;exact⟨y,p,C,B,by simp[bw,e,A]⟩
      ·right;exact⟨by grind,by simp[bw,e,j]⟩
    grind
   ·cases h
 exact this V U h
section
variable {C:Cx}{S:Nat→Prop}{w:World}{ι:bp}{P:Program}{un:Nat→Prop}{f:FS}{a:Act}{id:Nat}{o:Oper}
 {next:Act→World→Prop} {Q:Exit→Act→World→Prop}
theorem nE(h:Inv C S ι un f a w)(V:bL):∀b,SV S ι f.os V b→b<w.heap.size:=by
 rintro b (y|⟨o',x,l,_,o,j,rfl⟩)
 ·exact h.sb b y
 ·by_cases i:x.live=true
  ·exact(h.own o' x o i l j _ (.inl rfl)).2.2
  ·have:=h.ob o' x o;cases x with
   |dD rs=>
    rcases this with ⟨q,_⟩|⟨l',bc,q,_,u,_⟩
    ·simp_all
    ·rw[q]at j;injection j with j;injection j with j;subst j;exact h.sb _ u
   |rows p rs=>exact absurd rfl i
   |bm p es=>exact absurd rfl i
   |cw z fs hh=>exact absurd rfl i
   |cF es hh=>exact absurd rfl i
   |lit rs=>exact absurd rfl i
theorem Inv.freeze(h:Inv C S ι un f a w){V:bL}{n:Nat}{U:List (Nat×Option AO)}(hU:frozen V f.os n=some U):
 Inv C (SV S ι f.os V) ι un {f with os:=bw f.os U} a w:=by
 have u:∀o x,bw f.os U o=some x→(o∈V∧∃y rs,f.os o=some y∧qc (gi V f.os n) y=some rs∧x=.dD rs)∨(o∉V∧f.os o=some x):=by
  intro o x T;rcases OC hU f.os o with ⟨h1,y,rs,A,X,h4⟩|⟨h1,A⟩
  ·simp_all
  ·simp_all
 refine h.iC (λ b F=>.inl F) (λ _ _=>rfl) (bp.le_refl _) ?_ ?_ ?_ (nE h V) (λ b F=>?_) h.un h.fr
 ·intro o x T;rcases u o x T with ⟨h1,y,rs,A,X,rfl⟩|⟨h1,A⟩
  ·rcases Cu (xZ h.ob n) (h.ob o y A) X with ⟨q,rfl⟩|⟨l,bc,q,Q,eY,yT⟩
   ·exact .inl ⟨q,rfl⟩
   ·exact .inr ⟨l,bc,q,Q,.inr ⟨o,y,l,h1,A,q,rfl⟩,eY,λ i r hr=>by simp_all⟩
  ·exact(h.ob o x A).mono (λ b F=>.inl F) (λ _ _=>rfl) (bp.le_refl _) (λ _ _ _ _ _=>rfl)
 ·intro o x T O l hl b F;rcases u o x T with ⟨h1,y,rs,A,X,rfl⟩|⟨h1,A⟩
  ·cases O
  ·have:=h.own o x A O l hl b F;refine⟨this.1,λ hs=>?_,this.2.2⟩;rcases hs with q|⟨J,B,l2,q1,R,H,Z⟩
   ·simp_all
   ·by_cases j:B.live=true
    ·have:=h.inj o J x B A R O j l l2 hl H b F (.inl Z);simp_all
    ·have E:=h.ob J B R;cases B with
     |dD rs=>
      rcases E with ⟨q,_⟩|⟨l',bc,q,_,hS,_⟩
      all_goals simp_all
     |rows p rs=>exact absurd rfl j
     |bm p es=>exact absurd rfl j
     |cw z fs hh=>exact absurd rfl j
     |cF es hh=>exact absurd rfl j
     |lit rs=>exact absurd rfl j
 ·intro o1 J x1 B kd DV M j l1 l2 e1 e2 b F Y;rcases u o1 x1 kd with ⟨h1,y,rs,A,X,rfl⟩|⟨h1,A⟩
  ·cases M
  ·rcases u J B DV with ⟨g1,y,rs,g2,g3,rfl⟩|⟨g1,g2⟩
   ·cases j
   ·exact h.inj o1 J x1 B A g2 M j l1 l2 e1 e2 b F Y
 ·rcases F with q|⟨J,B,l2,q1,R,H,Z⟩
  ·exact h.sn b q
  ·subst Z;by_cases j:B.live=true
   ·right;exact(h.own J B R j l2 H _ (.inl rfl)).1
   ·have E:=h.ob J B R;cases B with
    |dD rs=>
     rcases E with ⟨q,_⟩|⟨l',bc,q,_,hS,_⟩
     ·simp_all
     ·rw[q]at H;injection H with H;injection H with H;subst H;exact h.sn _ hS
    |rows p rs=>exact absurd rfl j
    |bm p es=>exact absurd rfl j
    |cw z fs hh=>exact absurd rfl j
    |cF es hh=>exact absurd rfl j
    |lit rs=>exact absurd rfl j
end
section
variable {C:Cx}{S:Nat→Prop}{w:World}{ι:bp}{P:Program}{un:Nat→Prop}{f:FS}{a:Act}{id:Nat}{o:Oper}
 {next:Act→World→Prop} {Q:Exit→Act→World→Prop}
theorem JH{t:TypeId}{x y:Operand}{ob i c:Nat}{p:Bool}{rs:List (List AV)}{row cs:List AV}{b:Bool}{n:Nat}{v:AV}(T:o.op=.store t x y)(h:Inv C S ι un f a w)
 (V:cz S w ι (.ptr ob i c) (a.eval x)) (ho:f.os ob=some (.rows p rs)) (U:rs[i]? =some row) (hy:cz S w ι v (a.eval y)) (hc:lv v=some cs) (hk:dS P t=some (b,n)) (R:cs.length=n)
 (hb:c+n≤row.length) (hd:∀d,o.dst=some d→C.N.lo≤d∧d<C.N.n) (hn:gK C un id o f .undef [(ob,some (.rows (p&&cs.all iy) (rs.set i (setAt row c cs))))] next):o.wp P a w next Q:=by
 obtain⟨l,z,X⟩:=V.dF;obtain⟨B,E⟩:=zL hc hy;rcases h.ob ob _ ho with ⟨q,_⟩|⟨l',bc,q,J,Y,H,F⟩
 ·simp_all
 ·rw[q]at z;injection z with z;injection z with z;subst z;have Z:=fD U;have DZ:=(F.get U).1;have Ld:=H.2.1 i Z;have fg:l'.base+(i*l'.bX+c)+n≤l'.size:=by
   have:(i+1)*l'.bX≤rs.length*l'.bX:=YK _ Z;rw[Wg]at this;have:=H.1;omega
  have Q2:(a.eval y).cells.toList.length=n:=by rw[←B.1];exact R
  have A:(storeCells ⟨l'.bB,l'.base+(i*l'.bX+c),none⟩ (a.eval y).cells.toList 0).run P w=
   .ok () (w.setCells l'.bB (l'.base+(i*l'.bX+c)) (a.eval y).cells.toList):=by
   refine VN _ _ _ 0 w (λ j hj=>?_) (λ j hj=>?_) (λ v X=>?_)
   ·obtain⟨u,hu⟩:=(Y (l'.base+(i*l'.bX+c)+j)).1 (by omega)
    simp_all
   ·simp only[WC];exact(Y (l'.base+(i*l'.bX+c)+j)).2 (.inl (by omega))
   ·exact wx B E v X
  have O:(execOp a.eval o).run P w=.ok .skip (w.setCells l'.bB (l'.base+(i*l'.bX+c)) (a.eval y).cells.toList):=by
   unfold execOp;rw[T];simp only[Instr.storeAt,X,Instr.sureAddr,Yc,Yd,Y6,storeVar,(qQ hk w).2,Sem.run_ite];rw[if_neg (by simp_all)]
   simp only[Y6,A]
  unfold Oper.wp;rw[O,VJ];have M:=h.writes ho rfl q (x':=.rows (p&&cs.all iy) (rs.set i (setAt row c cs))) rfl (l'.base+(i*l'.bX+c)) (a.eval y).cells.toList (λ hw=>
   OR q J Y H F U B (wx B E) (by omega) hw)
  exact Inv.goes hn M (λ x V=>V.1) (.cu _ _ (.undef _)) hd
theorem ZP{op:Op}{v:AV}{U:List (Nat×Option AO)}{RO:bL}(E:o.op=op)(h:Inv C S ι un f a w)
 (iE:dp P C.G (ig C.G f.g) f.os id op v U RO) (jz:∀c,op=.call c→∃b,c.callee=.builtin b)
 (Z:∀x,id≤x→x<id+W→un x) (hd:∀d,o.dst=some d→C.N.lo≤d∧d<C.N.n) (hn:gK C un id o f v U next):o.wp P a w next Q:=by
 have B:∀{s:Sem Value} {v':Value} {w':World},(execOp a.eval o)=(do pure (Next.value (←s)):Sem Next)→s.run P w=.ok v' w'→(execOp a.eval o).run P w=.ok (.value v') w':=by
  intro s v' w' e h1;rw[e];simp only[Yc,h1,Y6,Yd]
 cases iE with
 |pure op v hp=>
  subst E;obtain⟨v',h1,M⟩:=Xe h.ev o hp;exact im hn h hd h1 M
 |more op v U RO hb=>exact X0 E h hb Z hd hn
 |files op v U RO hb=>exact Zc E h hb Z hd hn
 |jR op v U RO hb=>exact Zq1 E h hb Z hd hn
 |nil z=>
  have Y:(execOp a.eval o).run P w=.ok (.value (.slice none 0 0)) w:=by unfold execOp;rw[E];rfl
  unfold Oper.wp;rw[Y,YT];have Bi:=h.un id (Z id (Yg _) (by simp[W]))
  have hι:ι.le (λ o=>if o=id then some none else ι o):=by
   intro o y J;by_cases e:o=id
   ·simp_all
   ·grind
  have hw:gA S w w:=λ _ _=>rfl;have hinv:Inv C S (λ o=>if o=id then some none else ι o) (λ o=>un o∧o≠id) {f with os:=bw f.os [(id,some (.rows true []))]} a w:=by
   refine h.iC (λ _ x=>x) hw hι ?_ ?_ ?_ h.sb h.sn (λ o ho=>?_) h.fr
   ·intro o y J;simp only[bw]at J;by_cases e:o=id
    ·subst e;simp only[Yz,Y5]at J;subst J;exact .inl ⟨by simp,rfl⟩
    ·simp only[e,Ym]at J;exact(h.ob o y J).mono (λ _ x=>x) hw hι (λ _ _ _ _ _=>rfl)
   ·intro o y J mB l' jy b hb;simp only[bw]at J;by_cases e:o=id
    ·simp_all
    ·simp only[e,Ym]at J jy;exact h.own o y J mB l' jy b hb
   ·intro o1 o2 y1 y2 mw nS H ll l1 l2 e1 e2 b hb kN;simp only[bw]at mw nS;by_cases e:o1=id
    ·simp_all
    ·by_cases e':o2=id
     ·simp_all
     ·simp only[e,e',Ym]at mw nS e1 e2;exact h.inj o1 o2 y1 y2 mw nS H ll l1 l2 e1 e2 b hb kN
   ·simp only[ho.2,Ym];exact h.un o ho.1
  exact Inv.goes hn hinv (λ x A=>⟨A.1,λ e=>A.2 ⟨by omega,by subst e;simp[W]⟩⟩) (.fW id z none (by simp)) hd
 |pick c x y t hc=>
  have y6:=h.ev c;rw[hc]at y6;have Y:(execOp a.eval o).run P w=.ok (.value (if t then a.eval x else a.eval y)) w:=by
   unfold execOp;rw[E];simp only[y6.dJ,asBool,Yc,Yd,Y6]
  refine im hn h hd Y ?_;cases t
  ·simpa using h.ev y
  ·simpa using h.ev x
 |alloc t cs hz=>
  obtain⟨z,h1,M,h3⟩:=Oy (w:=w) (S:=S) (ι:=ι) hz;refine L6 hn h hd Z rfl M h3 (t:=t) ?_;refine B (by unfold execOp;rw[E]) ?_
  simp only[Instr.alloc,Yc,h1,Y6,newVar,newRow,Vk,Yd,World.alloc]
 |box t x cs hc=>
  obtain⟨M,h3⟩:=zL hc (h.ev x);refine L6 hn h hd Z rfl M (wx M h3) (t:=t) ?_;refine B (by unfold execOp;rw[E]) ?_
  rfl
 |load t x ob i c p rs row v gJ ho hr hl=>
  have A:=h.ev x;rw[gJ]at A;obtain⟨l,H,F⟩:=A.dF;rcases h.ob ob _ ho with ⟨q,_⟩|⟨l',bc,q,fw,hm,eY,R⟩
  ·simp_all
  ·rw[q]at H;injection H with H;injection H with H;subst H;have O:=fD hr;obtain⟨v',h1,M⟩:=Fe (P:=P) (b0:=l'.base+i*l'.bX) (R.get hr) (λ j v F=>by
    have:=eY.2.2 i j v O F;rw[←WW]at this;exact this) hl
   refine im hn h hd (B (by unfold execOp;rw[E]) ?_) M
   unfold Instr.loadAt;rw[F];simp only[Instr.sureAddr,Yc,Yd,Y6];grind
 |oP t x ob i c rs row v gJ ho hr hl=>
  have A:=h.ev x;rw[gJ]at A;obtain⟨l,H,F⟩:=A.dF;rcases h.ob ob _ ho with ⟨q,_⟩|⟨l',bc,q,fw,hm,eY,R⟩
  ·simp_all
  ·rw[q]at H;injection H with H;injection H with H;subst H;have O:=fD hr;obtain⟨v',h1,M⟩:=Fe (P:=P) (b0:=l'.base+i*l'.bX) (R.get hr) (λ j v F=>by
    have:=eY.2.2 i j v O F;rw[←WW]at this;exact this) hl
   refine im hn h hd (B (by unfold execOp;rw[E]) ?_) M
   unfold Instr.loadAt;rw[F];simp only[Instr.sureAddr,Yc,Yd,Y6];grind
 |oO t x row c v gJ hl=>
  have A:=h.ev x;rw[gJ]at A;obtain⟨bB,base,bc,F,hS,hL,X⟩:=Mn A;obtain⟨v',h1,M⟩:=Fe (P:=P) (ι:=ι) hL.rep X hl;refine im hn h hd (B (by unfold execOp;rw[E]) ?_) M
  unfold Instr.loadAt;rw[F];simp only[Instr.sureAddr,Yc,Yd,Y6];exact h1
 |store t x y ob i c p rs row cs b n gJ ho hr hc hk hlen hb=>
  have A:=h.ev x;rw[gJ]at A;exact JH E h A ho hr (h.ev y) hc hk hlen hb hd hn
 |mg t x y ob i c p rs row b q z xs gJ ho hr qy hq iF hk hb=>
  have hU:frozen [q] f.os 8=some [(q,some (.dD xs))]:=by simp[frozen,kX,hq,qc]
  have h':=h.freeze hU;have F:=xZ (V:=[q]) h.ob 8 (.bf q z) (a.eval y) (.sl xs) (by rw[←qy];exact h.ev y) (by simp[gi,hq,qc])
  have A:=h'.ev x;rw[gJ]at A;refine JH (id:=id) E h' A (p:=p) (rs:=rs) (row:=row) (cs:=[.sl xs]) ?_ hr (.cu _ _ F) (by rfl) hk rfl hb hd ?_
  ·show bw f.os [(q,some (.dD xs))] ob=_;simp only[bw,if_neg iF];exact ho
  ·intro S' ι' a' w' O;refine hn S' ι' a' w' ?_;have e:FS.fq {f with os:=bw f.os [(q,some (.dD xs))]} o.dst .undef [(ob,some (.rows (p&&[AV.sl xs].all iy) (rs.set i (setAt row c [.sl xs]))))]=
    f.fq o.dst .undef [(ob,some (.rows (p&&[AV.sl xs].all iy) (rs.set i (setAt row c [.sl xs])))),(q,some (.dD xs))]:=by
    unfold FS.fq FS.put;cases o.dst<;>rfl
   simp_all
 |mh t x y ob i c p rs row b z gJ ho hr qy hk hb=>
  obtain⟨ι',hle,hι',h'⟩:=h.void (ja Z) true;have iF:ob≠id:=h.ri (ja Z) ho;have A:=h.ev x;rw[gJ]at A;have mL:=A.mono (λ _ x=>x) (λ _ _=>rfl) hle;have F:cz S w ι' (.bf id z) (a.eval y):=by
   have J:=h.ev y;rw[qy]at J;generalize a.eval y=v at J;cases J with
   |cu _ _ hh=>cases hh with|dK ad=>exact .fW id z ad hι'
  refine JH (id:=id) E h' mL (p:=p) (rs:=rs) (row:=row) (cs:=[.bf id z]) ?_ hr F (by rfl) hk rfl hb hd ?_
  ·show bw f.os [(id,some (.rows true []))] ob=_;simp only[bw,if_neg iF];exact ho
  ·intro S' ι2 a' w' O;refine hn S' ι2 a' w' ?_;have e:FS.fq {f with os:=bw f.os [(id,some (.rows true []))]} o.dst .undef [(ob,some (.rows (p&&[AV.bf id z].all iy) (rs.set i (setAt row c [.bf id z]))))]=
    f.fq o.dst .undef [(ob,some (.rows (p&&[AV.bf id z].all iy) (rs.set i (setAt row c [.bf id z])))),(id,some (.rows true []))]:=by
    unfold FS.fq FS.put;cases o.dst<;>rfl
   rw[←e];exact O.less (λ x A=>⟨⟨A.1,λ e=>A.2 ⟨by omega,by subst e;simp[W]⟩⟩,A.2⟩)
 |oT t e x ix xs k n row b gJ jQ h0 hr ht hk=>
  have A:=h.ev x;have O:=h.ev ix;rw[gJ]at A;rw[jQ]at O;obtain⟨ab,cap,sz,bc,F,rB,hS,fg,hL,X⟩:=SX A hr;have iU:=fD hr;refine im hn h hd (B (by unfold execOp;rw[E]) (by
   rw[F,O.bU];exact J5 ht hk h0 (by omega) rB)) ?_
  have:=cE.rp row 0 ab.block (ab.off+n.toNat*sz) bc hS hL.1 (λ j v F=>X j v F) hL.2;rw[fg];exact .cu _ _ this
 |mr t e x ix ob z k n y rs row b gJ jQ h0 ho J hr ht hk=>
  have A:=h.ev x;have O:=h.ev ix;rw[gJ]at A;rw[jQ]at O;have iU:=fD hr;rcases zn (h.ob ob _ ho) J with ⟨q,rfl⟩|⟨l,bc,q,fw,eY,R⟩
  ·simp at hr
  ·rcases kZ A with ⟨l',ab,cap,T,F,uv,pU,By,_,ha⟩|⟨T,_⟩
   ·rw[q]at T;injection T with T;injection T with T;subst T;have jG:=ha (by omega)
    have DZ:=(R _ _ hr).1;have Ld:=eY.2.1 _ iU;refine im hn h hd (B (by unfold execOp;rw[E]) (by
     rw[F,O.bU];exact J5 ht hk h0 (by omega) (by rw[jG]))) ?_
    rw[jG];have:=cz.ptr (S:=S) (w:=w) (ι:=ι) ob n.toNat 0 l q;simp_all
   simp_all
 |mu t e x ix ob off len room k n y rs row b gJ jQ h0 h1 ho J hr ht hk=>
  have A:=h.ev x;have O:=h.ev ix;rw[gJ]at A;rw[jQ]at O;have iU:=fD hr;rcases zn (h.ob ob _ ho) J with ⟨q,rfl⟩|⟨l,bc,q,fw,eY,R⟩
  ·simp at hr
  ·rcases xI A with ⟨l',ab,cap,T,F,uv,pU,By,hc4,hc5,ha⟩|⟨T,_⟩
   ·rw[q]at T;injection T with T;injection T with T;subst T;have jG:=ha (by omega)
    have DZ:=(R _ _ hr).1;have Ld:=eY.2.1 _ iU;refine im hn h hd (B (by unfold execOp;rw[E]) (by
     rw[F,O.bU];exact J5 ht hk h0 (by omega) (by rw[jG]))) ?_
    rw[jG];have:=cz.ptr (S:=S) (w:=w) (ι:=ι) ob (off+n.toNat) 0 l q;grind
   omega
 |mv t e x ix ob r c len sz k n b gJ jQ h0 h1 ht hk=>
  have A:=h.ev x;have O:=h.ev ix;rw[gJ]at A;rw[jQ]at O;obtain⟨l,H,F⟩:=A.dF;refine im hn h hd (B (by unfold execOp;rw[E]) (by
   rw[F,O.bU];exact Ph ht hk h0 h1)) ?_
  have:=cz.ptr (S:=S) (w:=w) (ι:=ι) ob r (c+n.toNat*sz) l H;grind
 |kc t e x ix row c len sz k n b gJ jQ h0 h1 ht hk=>
  have A:=h.ev x;have O:=h.ev ix;rw[gJ]at A;rw[jQ]at O;obtain⟨bB,base,bc,F,hS,hL,X⟩:=Mn A;refine im hn h hd (B (by unfold execOp;rw[E]) (by
   rw[F,O.bU];exact Ph ht hk h0 h1)) ?_
  rw[WW];exact .cu _ _ (.rp row _ bB base bc hS hL.1 X hL.2)
 |oA t x ix l k n c gJ jQ h0 hr ht=>
  have A:=h.ev x;have O:=h.ev ix;rw[gJ]at A;rw[jQ]at O;refine im hn h hd (B (by unfold execOp;rw[E]) ?_) (.cu _ _ (.int _ _))
  rw[A.dk,O.bU];unfold Instr.index;have hb:(⟨l.toArray⟩:ByteArray)[n.toNat]? =some c:=by
   have iU:=fD hr;have hs:n.toNat<(⟨l.toArray⟩:ByteArray).size:=by show n.toNat<l.toArray.size;simpa using iU
   rw[ByteArray.getElem?_lt' _ _ hs];rw[Y3 iU]at hr;rw[←hr];rfl
  simp only[asIntOf,Yc,Yd,Y6,Yb ht,h0,Yz,hb]
 |pn t e x ix cs len sz k n b v gJ jQ h0 h1 ht hk hl=>
  have A:=h.ev x;have O:=h.ev ix;rw[gJ]at A;rw[jQ]at O;obtain⟨vs,F,hL⟩:=A.eg;obtain⟨v',Rn,Hn⟩:=MF hL hl;refine im hn h hd (B (by unfold execOp;rw[E]) ?_) Hn
  rw[F,O.bU];unfold Instr.index;simp only[asIntOf,Yc,Yd,Y6,Yb ht,(qQ hk w).2,Sem.run_ite];simp_all
 |quo t t' x y k m n A J h0=>
  have h1:=h.ev x;have M:=h.ev y;rw[A]at h1;rw[J]at M;refine im hn h hd (B (by unfold execOp;rw[E]) ?_) (.cu _ _ (.int _ _))
  rw[h1.bU,M.bU];simp only[eqGuard_quo,Yc,Yd,Y6,binOp_quo,Op.intDiv,h0,Ym]
 |rem t t' x y k m n A J h0=>
  have h1:=h.ev x;have M:=h.ev y;rw[A]at h1;rw[J]at M;refine im hn h hd (B (by unfold execOp;rw[E]) ?_) (.cu _ _ (.int _ _))
  rw[h1.bU,M.bU];simp only[eqGuard_rem,Yc,Yd,Y6,binOp_rem,Op.intDiv,h0,Ym]
 |shl t t' x y k k' m n A J h0=>
  have h1:=h.ev x;have M:=h.ev y;rw[A]at h1;rw[J]at M;refine im hn h hd (B (by unfold execOp;rw[E]) ?_) (.cu _ _ (.int _ _))
  rw[h1.bU,M.bU];simp only[eqGuard_shl,Yc,Yd,Y6,binOp_shl,Op.shift];rw[if_neg (by omega)]
  rfl
 |shr t t' x y k k' m n A J h0=>
  have h1:=h.ev x;have M:=h.ev y;rw[A]at h1;rw[J]at M;refine im hn h hd (B (by unfold execOp;rw[E]) ?_) (.cu _ _ (.int _ _))
  rw[h1.bU,M.bU];simp only[eqGuard_shr,Yc,Yd,Y6,binOp_shr,Op.shift];rw[if_neg (by omega)]
  rfl
 |cat t t' x y l1 l2 A J hlen=>
  have h1:=h.ev x;have M:=h.ev y;rw[A]at h1;rw[J]at M;refine im hn h hd (B (by unfold execOp;rw[E]) ?_) (.cu _ _ (cE.jK (l1++l2)))
  rw[h1.dk,M.dk];have e1:(⟨l1.toArray⟩:ByteArray).size=l1.length:=by show l1.toArray.size=_;simp
  have e2:(⟨l2.toArray⟩:ByteArray).size=l2.length:=by show l2.toArray.size=_;simp
  simp only[eqGuard_add,Yc,Yd,Y6,binOp_string_add,Op.stringOp,e1,e2];rw[if_neg (by simp only[IntKind.max_i64];omega)]
  rfl
 |tT t t' e x xs A ht=>
  have h1:=h.ev x;rw[A]at h1;cases h1 with
  |cu _ _ h1=>
   generalize F:a.eval x=u at h1;cases h1 with
   |gG=>
    refine im hn h hd (v':=.bool true) (B (by unfold execOp;rw[E]) ?_) (.cu _ _ (.eR _ true λ _=>rfl))
    rw[F];simp only[show a.eval (.const (.slice none 0 0))=.slice none 0 0 from rfl,eqGuard_at_slice,Yc,Yd,Y6]
    exact run_eql_slice_nil w t e none 0 0 ht
   |sl xs a' cap sz bc M h3 h4 h5 h6 h7=>
    refine im hn h hd (v':=.bool false) (B (by unfold execOp;rw[E]) ?_) (.cu _ _ (.eR _ false λ e=>by cases e))
    rw[F];simp only[show a.eval (.const (.slice none 0 0))=.slice none 0 0 from rfl,eqGuard_at_slice,Yc,Yd,Y6]
    exact run_eql_slice_nil w t e (some a') xs.length cap ht
 |pc t t' x y cs ds r A J hp hg iE uv pU he=>
  have h1:=h.ev x;have M:=h.ev y;rw[A]at h1;rw[J]at M;obtain⟨us,hu,BH⟩:=h1.eg;obtain⟨vs,F,zd⟩:=M.eg;refine im hn h hd (B (by unfold execOp;rw[E]) ?_) (.cu _ _ (.bool r))
  rw[hu,F];have:=IF BH zd hp uv pU he iE;simp only[Yc,run_eqGuard_agg w _ t _ _ _ _ hg,Y6,run_eql_struct,this]
 |oM t t' x y cs ds r A J hp hg iE uv pU he=>
  have h1:=h.ev x;have M:=h.ev y;rw[A]at h1;rw[J]at M;obtain⟨us,hu,BH⟩:=h1.eg;obtain⟨vs,F,zd⟩:=M.eg;refine im hn h hd (B (by unfold execOp;rw[E]) ?_) (.cu _ _ (.bool (!r)))
  rw[hu,F];have:=IF BH zd hp uv pU he iE;simp only[Yc,run_eqGuard_agg w _ t _ _ _ _ hg,Y6,run_neq_struct,this]
 |kF x ts args t e ob z y rs ha ui ht gJ ho J=>
  have A:=h.ev x;rw[gJ]at A;have Y:∀base cap,a.eval x=.slice base rs.length cap→(execOp a.eval o).run P w=.ok (.value (.int .i64 rs.length)) w:=by
   intro base cap F;unfold execOp;rw[E];have sO:(args.map a.eval)[0]? =some (.slice base rs.length cap):=by simp[ha,F]
   simp[resolve,invoke,builtin,Builtin.len_,ui,sO,Yb ht,goInt]
  rcases zn (h.ob ob _ ho) J with ⟨q,rfl⟩|⟨l,bc,q,fw,eY,R⟩
  ·rcases kZ A with ⟨l',ab,cap,T,_⟩|⟨T,ab,F⟩
   ·simp_all
   ·exact im hn h hd (Y _ _ F) (.cu _ _ (.int _ _))
  ·rcases kZ A with ⟨l',ab,cap,T,F,_⟩|⟨T,ab,F⟩
   ·rw[q]at T;injection T with T;injection T with T;subst T;exact im hn h hd (Y (some ab) cap (by simp_all)) (.cu _ _ (.int _ _))
   simp_all
 |call fn args ts f' cap V n bY rv gJ=>simp_all
 |nw fn args ts f' cap V n bY rv cr U gJ=>simp_all
 |lX fn args ts f' cap V cQ bY rv cr gJ=>simp_all
end
theorem Th{σ:Nat→Nat}:∀(cr:List (Nat×AO)) (base:Nat→Option AO) (T:List (Nat×Option AO)),
 (∀e u,e∈cr→u∈cr→σ e.1=σ u.1→e.1=u.1)→
 (∀j x,lk cr j=some x→bw base (cr.map (λ e=>(σ e.1,some (dq σ e.2)))++T) (σ j)=some (dq σ x))∧
 (∀o,(∀e∈cr,σ e.1≠o)→bw base (cr.map (λ e=>(σ e.1,some (dq σ e.2)))++T) o=bw base T o):=by
 intro cr;induction cr with
 |nil=>intro base T _;exact⟨λ j x h=>by simp[lk]at h,λ o _=>rfl⟩
 |cons e r ih=>
  intro base T i;obtain⟨h1,z⟩:=ih base T (λ a b B A=>i a b (Yn _ B) (Yn _ A));constructor
  ·intro j x h;simp only[lk]at h;simp only[Yy,YC,bw];by_cases hj:j=e.1
   ·simp_all
   ·rw[if_neg hj]at h;have y:∃x',(j,x')∈r:=by
     clear h1 z ih i;induction r with
     |nil=>simp[lk]at h
     |cons q r ih=>
      simp only[lk]at h;grind
    obtain⟨x',p⟩:=y;have:σ j≠σ e.1:=λ q=>hj (i (j,x') e (Yn _ p) Yp q);grind
  ·intro o ho;simp only[Yy,YC,bw];grind
theorem OF:∀{os:List (Nat×AO)} {e:Nat×AO},e∈os→∃x,lk os e.1=some x:=by
 intro os;induction os with
 |nil=>simp
 |cons q r ih=>
  intro e h;by_cases i:e.1=q.1
  ·exact⟨q.2,by simp[lk,i]⟩
  ·rcases Yr.1 h with rfl|h
   ·omega
   ·obtain⟨x,j⟩:=ih h;exact⟨x,by simp[lk,i,j]⟩
theorem ZpU(base:Nat→Option AO):∀(V:bL) (o:Nat),bw base (V.map λ o=>(o,none)) o=if o∈V then none else base o:=by
 intro V;induction V with
 |nil=>intro o;rfl
 |cons k r ih=>
  intro o;simp only[Yy,bw,ih,Yr];grind
section
variable {C:Cx}{S:Nat→Prop}{w:World}{ι:bp}{P:Program}{un:Nat→Prop}{f:FS}{a:Act}{id:Nat}{o:Oper}
 {next:Act→World→Prop} {Q:Exit→Act→World→Prop}
theorem Jd{fn:Operand}{args:Array Operand}{ts:Array TypeId}(i:o.op=.call {callee:=.value fn,args:=args,argTypes:=ts}){uC:Nat}{vs:Array Value}
 (j:a.eval fn=.func (.func uC) #[] vs) (p:fe P uC=true):(execOp a.eval o).run P w=.ok (.enter uC (args.map a.eval++vs)) w:=by
 unfold execOp;rw[i];simp only[resolve,j,Deferred.ofValue,Yc,Yd,Y6,invoke,JZ p,Array.empty_append]
theorem Fr.then{Ow:Nat→Prop}{w0 w w':World}(h:Fr Ow w0 w)(j:Fr (dR w (λ _=>none) []) w w'):Fr Ow w0 w':=by
 have i:∀b<w.heap.size,w'.heap[b]? =w.heap[b]? :=λ b p=>j.old b p (by
  rintro(q|⟨o,x,l,q,_⟩)
  all_goals grind)
 exact⟨j.os.trans h.os,j.output.trans h.output,Wh h.size j.size,λ b p hn=>by
  rw[i b (by have:=h.size;omega)];exact h.old b p hn⟩
theorem M4{op:Op}{v:AV}{U:List (Nat×Option AO)}{RO:bL}(jh:o.op=op)(h:Inv C S ι un f a w)
 (iE:dp P C.G (ig C.G f.g) f.os id op v U RO) (hid:∀x,id≤x→x<id+W→un x) (hd:∀d,o.dst=some d→C.N.lo≤d∧d<C.N.n) (hn:gK C un id o f v U next):
 o.wp P a w next Q:=by
 by_cases jz:∀c,op=.call c→∃b,c.callee=.builtin b
 ·exact ZP jh h iE jz hid hd hn
 cases iE with
 |call fn args ts uC cap _ n bY _ gJ hv hf oc=>
  have E:=h.ev fn;rw[gJ]at E;obtain⟨vs,vB,hL⟩:=E.ie;rw[xB (Cc hf.1)]at vB;have lV:bA S w ι (args.toList.map (ig C.G f.g)++cap) (args.map a.eval++vs).toList:=by
   rw[Array.toList_append,VM];exact(bA.map h.ev _).append hL
  have iG:=NX (V:=RO) h.ob lV hv;have Eg:=nE h RO;unfold Oper.wp;rw[Jd jh vB hf.1,Oper.upon_enter];have kM:=hf.2.2 (SV S ι f.os RO) (λ _=>none) w (args.map a.eval++vs) Eg (λ g row hg=>(h.gv g row hg).mono (λ b u=>.inl u) (λ _ _=>rfl))
   ⟨λ o x E=>by simp[lk]at E,λ o x E=>by simp,λ o o' x x' E=>by simp⟩ (λ _ _=>rfl) iG.rep
  refine kM.mono ?_;rintro e w' ⟨v',S',ι',rfl,X,vJ,sV,hle,hιW,du,iT⟩;have O:∀b<w.heap.size,w'.heap[b]? =w.heap[b]? :=λ b u=>X.old b u (by
   rintro(q|⟨o,x,l,q,_⟩)
   all_goals grind)
  have hw:gA S w w':=λ b u=>O b (h.sb b u);have hinv:Inv C S ι un {f with os:=bw f.os []} a w':=by
   refine h.iC (λ _ x=>x) hw (bp.le_refl _) (λ o' x E=>(h.ob o' x E).mono (λ _ x=>x) hw (bp.le_refl _) (λ l J B b u=>O _ (h.own o' x E B l J b u).2.2))
    (λ o' x E B l J b u=>?_) (λ o o' x x' E mL h1 Y l l' e1 e2 b b1 b2=>h.inj o o' x x' E mL h1 Y l l' e1 e2 b (ft (λ b u=>O b (h.own o x E h1 l e1 b u).2.2) b1) (ft (λ b u=>O b (h.own o' x' mL Y l' e2 b u).2.2) b2)) (λ b u=>?_) h.sn h.un (h.fr.then X)
   ·have:=h.own o' x E B l J b (ft (λ b u=>O b (h.own o' x E B l J b u).2.2) u);grind
   ·have:=h.sb b u;grind
  exact Inv.goes hn hinv (λ x E=>E.1) (.cu _ _ (du.flat oc)) hd
 |nw fn args ts uC cap _ n bY rv cr U gJ hv hf hU=>
  have E:=h.ev fn;rw[gJ]at E;obtain⟨vs,vB,hL⟩:=E.ie;rw[xB (Cc hf.1)]at vB;have lV:bA S w ι (args.toList.map (ig C.G f.g)++cap) (args.map a.eval++vs).toList:=by
   rw[Array.toList_append,VM];exact(bA.map h.ev _).append hL
  have iG:=NX (V:=RO) h.ob lV hv;have Eg:=nE h RO;unfold Oper.wp;rw[Jd jh vB hf.1,Oper.upon_enter];have kM:=hf.2.2 (SV S ι f.os RO) (λ _=>none) w (args.map a.eval++vs) Eg (λ g row hg=>(h.gv g row hg).mono (λ b u=>.inl u) (λ _ _=>rfl))
   ⟨λ o x E=>by simp[lk]at E,λ o x E=>by simp,λ o o' x x' E=>by simp⟩ (λ _ _=>rfl) iG.rep
  refine kM.mono ?_;rintro e w' ⟨v',S',ι',rfl,X,BG,sV,hle,hιW,du,iT⟩;have vJ:∀b,S' b→(SV S ι f.os RO b∨w.heap.size≤b)∧b<w'.heap.size:=λ b u=>⟨(BG b u).1.imp (λ q=>q) (by
   rintro(q|⟨o,x,l,q,_⟩)
   all_goals simp_all),(BG b u).2⟩
  have O:∀b<w.heap.size,w'.heap[b]? =w.heap[b]? :=λ b u=>X.old b u (by
   rintro(q|⟨o,x,l,q,_⟩)
   all_goals grind)
  have LF:∀b,S b→S' b:=λ b u=>sV b (.inl u);have hw:gA S w w':=λ b u=>O b (h.sb b u)
  have Lb:gA (SV S ι f.os RO) w w':=λ b u=>O b (Eg b u);have uq:=hf.2.1
  let ι2:bp:=λ x=>if id≤x∧x<id+W then ι' (x-id)else ι x;have hι2:ι.le ι2:=by
   intro x y ue;by_cases hc:id≤x∧x<id+W
   ·rw[h.un x (hid x hc.1 hc.2)]at ue;cases ue
   ·grind
  have hσ:∀x y,ι' x=some y→ι2 (id+x)=some y:=by
   intro x y ue;have E:x<W:=by
    rcases Wo x W with q|q
    ·exact q
    ·simp_all
   simp only[ι2];rw[if_pos ⟨by omega,by omega⟩]
   rw[show id+x-id=x by omega];exact ue
  have nZ:∀o,id≤o→∀x,lk cr (o-id)=some x→cX S' w' ι2 o (dq (id+ ·) x):=by
   intro o ho x E;have:=(iT.ob _ x E).qt (σ:=(id+ ·)) hσ;rw[show id+(o-id)=o by omega]at this;exact this
  have nq:∀o,id≤o→∀x,lk cr (o-id)=some x→x.live=true→∀l,ι2 o=some (some l)→∀b,c6 w' x l b→w.heap.size≤b∧¬S' b∧b<w'.heap.size∧ι' (o-id)=some (some l):=by
   intro o ho x E B l J b u;have iU:=uq _ _ E;simp only[ι2]at J;rw[if_pos ⟨ho,by omega⟩]at J
   have:=iT.own _ x E B l J b u;refine⟨?_,this.2.1,this.2.2,J⟩;rcases this.1 with q|⟨o,x,l,q,_⟩
   ·exact q
   ·simp_all
  have ni:∀o x,f.os o=some x→¬(id≤o∧o<id+W):=by
   intro o x E hc;have Bi:=h.un o (hid o hc.1 hc.2);have:=h.ob o x E;cases x with
   |rows p rs=>rcases this with ⟨q,_⟩|⟨l,bc,q,_⟩<;>(simp_all)
   |dD rs=>rcases this with ⟨q,_⟩|⟨l,bc,q,_⟩<;>(simp_all)
   |bm p es=>obtain⟨l,xs,c,q,_⟩:=this;simp_all
   |cw z fs hh=>obtain⟨l,xs,c,q,_⟩:=this;simp_all
   |cF es hh=>obtain⟨l,xs,c,q,_⟩:=this;simp_all
   |lit rs=>obtain⟨l,bc,q,_⟩:=this;simp_all
  have F:∀o x,f.os o=some x→∀l,ι2 o=some (some l)→ι o=some (some l):=by
   intro o x E l J;simp only[ι2]at J;rw[if_neg (ni o x E)]at J;exact J
  have M:∀o x,bw f.os (U++qd id cr) o=some x→
   (o∈RO∧∃y rs,f.os o=some y∧qc (gi RO f.os n) y=some rs∧x=.dD rs)∨
   (o∉RO∧id≤o∧∃x',lk cr (o-id)=some x'∧x=dq (id+ ·) x')∨(o∉RO∧f.os o=some x):=by
   intro o x E;rw[Pb]at E;rcases OC hU (bw f.os (qd id cr)) o with ⟨h1,y,rs,Y,h3,h4⟩|⟨h1,Y⟩
   ·simp_all
   ·rw[Y,NS]at E;split at E
    ·rename_i hc;obtain⟨x',mL⟩:=Wj.1 hc.2;simp_all
    simp_all
  have hinv:Inv C S' ι2 (λ x=>un x∧¬(id≤x∧x<id+W)) {f with os:=bw f.os (U++qd id cr)} a w':=by
   refine h.iC LF hw hι2 ?_ ?_ ?_ (λ b u=>(vJ b u).2) (λ b u=>?_) (λ o ho=>?_) (h.fr.then X)
   ·intro o x E;rcases M o x E with ⟨h1,y,rs,Y,h3,rfl⟩|⟨h1,Y,x',h3,rfl⟩|⟨h1,Y⟩
    ·rcases Cu (xZ h.ob n) (h.ob o y Y) h3 with ⟨q,rfl⟩|⟨l,bc,q,fw,eY,yT⟩
     ·exact .inl ⟨hι2 _ _ q,rfl⟩
     ·have u:SV S ι f.os RO l.bB:=.inr ⟨o,y,l,h1,Y,q,rfl⟩;refine .inr ⟨l,bc,hι2 _ _ q,fw,sV _ u,⟨eY.1,eY.2.1,λ i j v hi hv=>?_⟩,λ i r hr=>?_⟩
      ·rw[l9 (Lb _ u)];exact eY.2.2 i j v hi hv
      ·simp only[Yz];exact(yT i r hr).mono sV Lb
    ·simp_all
    ·exact(h.ob o x Y).mono LF hw hι2 (λ l J B b u=>O _ (h.own o x Y B l J b u).2.2)
   ·intro o x E B l J b u;rcases M o x E with ⟨h1,y,rs,Y,h3,rfl⟩|⟨h1,Y,x',h3,rfl⟩|⟨h1,Y⟩
    ·cases B
    ·rw[nB]at B;have:=nq o Y x' h3 B l J b (qJ u);exact⟨h.fo _ (Wh h.fr.size this.1),this.2.1,this.2.2.1⟩
    ·have jy:=F o x Y l J;have u:=ft (λ b u=>O b (h.own o x Y B l jy b u).2.2) u;have:=h.own o x Y B l jy b u
     refine⟨this.1,λ hs=>?_,by grind⟩
     rcases(vJ _ hs).1 with (q|⟨o2,x2,l2,q1,q2,q3,q4⟩)|q
     ·simp_all
     ·by_cases A:x2.live=true
      ·have:=h.inj o o2 x x2 Y q2 B A l l2 jy q3 b u (.inl q4);simp_all
      ·have nY:=h.ob o2 x2 q2;cases x2 with
       |dD rs=>
        rcases nY with ⟨q,_⟩|⟨l',bc,q,_,hS,_⟩
        all_goals simp_all
       |rows p rs=>exact absurd rfl A
       |bm p es=>exact absurd rfl A
       |cw z fs hh=>exact absurd rfl A
       |cF es hh=>exact absurd rfl A
       |lit rs=>exact absurd rfl A
     ·omega
   ·intro o1 o2 x1 x2 kd Z H A l1 l2 e1 e2 b u T;rcases M o1 x1 kd with ⟨h1,y,rs,Y,h3,rfl⟩|⟨h1,Y,KV,h3,rfl⟩|⟨h1,Y⟩
    ·cases H
    ·rw[nB]at H;have b1:=nq o1 Y KV h3 H l1 e1 b (qJ u);rcases M o2 x2 Z with ⟨g1,y,rs,g2,g3,rfl⟩|⟨g1,g2,DM,g3,rfl⟩|⟨g1,g2⟩
     ·cases A
     ·rw[nB]at A;have b2:=nq o2 g2 DM g3 A l2 e2 b (qJ T);have:=iT.inj _ _ KV DM h3 g3 H A l1 l2 b1.2.2.2 b2.2.2.2 b (qJ u) (qJ T);omega
     ·have:=h.own o2 x2 g2 A l2 (F o2 x2 g2 l2 e2) b (ft (λ b u=>O b (h.own o2 x2 g2 A l2 (F o2 x2 g2 l2 e2) b u).2.2) T);omega
    ·have u:=ft (λ b u=>O b (h.own o1 x1 Y H l1 (F o1 x1 Y l1 e1) b u).2.2) u;have b1:=h.own o1 x1 Y H l1 (F o1 x1 Y l1 e1) b u
     rcases M o2 x2 Z with ⟨g1,y,rs,g2,g3,rfl⟩|⟨g1,g2,DM,g3,rfl⟩|⟨g1,g2⟩
     ·cases A
     ·rw[nB]at A;have b2:=nq o2 g2 DM g3 A l2 e2 b (qJ T);omega
     ·exact h.inj o1 o2 x1 x2 Y g2 H A l1 l2 (F o1 x1 Y l1 e1) (F o2 x2 g2 l2 e2) b u (ft (λ b u=>O b (h.own o2 x2 g2 A l2 (F o2 x2 g2 l2 e2) b u).2.2) T)
   ·rcases(vJ b u).1 with (q|⟨o2,x2,l2,q1,q2,q3,q4⟩)|q
    ·exact h.sn b q
    ·subst q4;by_cases A:x2.live=true
     ·right;exact(h.own o2 x2 q2 A l2 q3 _ (.inl rfl)).1
     ·have nY:=h.ob o2 x2 q2;cases x2 with
      |dD rs=>
       rcases nY with ⟨q,_⟩|⟨l',bc,q,_,hS,_⟩
       ·simp_all
       ·rw[q]at q3;injection q3 with q3;injection q3 with q3;subst q3;exact h.sn _ hS
      |rows p rs=>exact absurd rfl A
      |bm p es=>exact absurd rfl A
      |cw z fs hh=>exact absurd rfl A
      |cF es hh=>exact absurd rfl A
      |lit rs=>exact absurd rfl A
    ·right;exact h.fo _ (Wh h.fr.size q)
   ·simp only[ι2];rw[if_neg ho.2];exact h.un o ho.1
  exact Inv.goes hn hinv (λ x E=>E) (du.qt hσ) hd
 |lX fn args ts uC cap _ cQ bY rv cr gJ hh hf=>
  have E:=h.ev fn;rw[gJ]at E;obtain⟨vs,vB,hL⟩:=E.ie;rw[xB (Cc hf.1)]at vB;have lV:bA S w ι (args.toList.map (ig C.G f.g)++cap) (args.map a.eval++vs).toList:=by
   rw[Array.toList_append,VM];exact(bA.map h.ev _).append hL
  obtain⟨mM,oY,oX,rS⟩:=hh;generalize RO=V at mM oY oX rS hn;simp only[Yi,YB]at mM;obtain⟨⟨xf,lB⟩,T⟩:=mM;have hlen:cQ.length=V.length:=by
   have:=YU List.length oY;simpa using this
  let σ:=bk V id;let ι0:=ιback ι σ V.length;have H5:∀j (hj:j<V.length),σ j=V[j]:=λ j hj=>by simp[σ,bk,hj]
  have n0:∀j x,lk cQ j=some x→∃(hj:j<V.length),(∃y,f.os V[j]=some y∧gO y (dq σ x))∧dt V.length x=true:=by
   intro j x R;have hm:(j,x)∈cQ:=by
    clear oY oX hlen hf T;induction cQ with
    |nil=>simp[lk]at R
    |cons e r ih=>
     simp only[lk]at R;grind
   obtain⟨i,hi,Lu⟩:=Wc hm;have j7:(cQ.map (·.1))[i]? =some j:=by rw[YD,Y3 hi,Lu];rfl
   rw[oY,List.getElem?_range (by omega)]at j7
   injection j7 with j7;subst j7;have hj:i<V.length:=by omega
   refine⟨hj,?_,YW.1 T _ hm⟩;have ho:(cQ.map λ e=>some (dq σ e.2))[i]? =some (some (dq σ x)):=by rw[YD,Y3 hi,Lu];rfl
   have hv:(V.map f.os)[i]? =some (f.os V[i]):=by rw[YD,Y3 hj];rfl
   obtain⟨y,h1,Y⟩:=oX.get i _ _ hv ho;exact⟨y,h1,Y⟩
  have ni:∀o x,f.os o=some x→¬(id≤o∧o<id+W)∧∃L,ι o=some L:=by
   intro o x E;have gm:=h.ob o x E;have hL:∃L,ι o=some L:=by
    cases x with
    |rows p rs=>rcases gm with ⟨q,_⟩|⟨l,bc,q,_⟩<;>exact⟨_,q⟩
    |dD rs=>rcases gm with ⟨q,_⟩|⟨l,bc,q,_⟩<;>exact⟨_,q⟩
    |bm p es=>obtain⟨l,xs,c,q,_⟩:=gm;simp_all
    |cw z fs hh=>obtain⟨l,xs,c,q,_⟩:=gm;simp_all
    |cF es hh=>obtain⟨l,xs,c,q,_⟩:=gm;simp_all
    |lit rs=>obtain⟨l,bc,q,_⟩:=gm;simp_all
   refine⟨λ hc=>?_,hL⟩;obtain⟨L,hL⟩:=hL
   rw[h.un o (hid o hc.1 hc.2)]at hL;cases hL
  have BE:∀j (hj:j<V.length),∃x,f.os V[j]=some x:=by
   intro j hj;have ho:(V.map f.os)[j]? =some (f.os V[j]):=by rw[YD,Y3 hj];rfl
   have hv:(cQ.map λ e=>some (dq σ e.2))[j]? =some (some (dq σ (cQ[j]'(by omega)).2)):=by rw[YD,Y3 (by omega)];rfl
   obtain⟨y,h1,Y⟩:=oX.get j _ _ ho hv;exact⟨y,h1⟩
  have hι0:∀j (hj:j<V.length),ι0 j=ι V[j]:=λ j hj=>by simp only[ι0,ιback];simp_all
  have hι0n:∀j,V.length≤j→ι0 j=none:=λ j hj=>by simp only[ι0,ιback];grind
  have BF:∀j j' (hj:j<V.length) (sS:j'<V.length),V[j]=V[j']→j=j':=λ j j' hj sS e=>by
   rcases U5 j j' with q|q|q
   ·exact absurd e (VT.1 xf j j' hj sS q)
   ·exact q
   ·exact absurd e.symm (VT.1 xf j' j sS hj q)
  have pP:kh (dR w ι0 cQ) S w ι0 (lk cQ):=by
   refine⟨λ j x R=>?_,λ j x R B l J b uz=>?_,λ j j' x x' R HE B HB l l' J jy b gL uy=>?_⟩
   ·obtain⟨hj,⟨y,ho,ke⟩,u⟩:=n0 j x R;refine cX.fk hj u ?_;rw[H5 j hj];exact ke.ok (h.ob _ _ ho)
   ·obtain⟨hj,⟨y,ho,ke⟩,u⟩:=n0 j x R;have ll:=J;rw[hι0 j hj]at ll;have:=h.own _ _ ho (by rw[←ke.live,nB];exact B) l ll b (uL ke uz)
    exact⟨.inr ⟨j,x,l,R,B,J,uz⟩,this.2⟩
   ·obtain⟨hj,⟨y,ho,ke⟩,u⟩:=n0 j x R;obtain⟨sS,⟨y',Rr,A5⟩,BA⟩:=n0 j' x' HE;rw[hι0 j hj]at J;rw[hι0 j' sS]at jy;exact BF j j' hj sS (h.inj _ _ _ _ ho Rr (by rw[←ke.live,nB];exact B) (by rw[←A5.live,nB];exact HB) l l' J jy b (uL ke gL) (uL A5 uy))
  have xp:bA S w ι0 bY (args.map a.eval++vs).toList:=bA.fk bY _ lB (rS.wX lV);unfold Oper.wp;rw[Jd jh vB hf.1,Oper.upon_enter];have kM:=hf.2.2 S ι0 w (args.map a.eval++vs) h.sb h.gv pP (λ o ho=>hι0n o (by omega)) xp
  refine kM.mono ?_;rintro e w' ⟨v',S',ι',rfl,X,vJ,sV,hle,hιW,du,iT⟩;have Eh:∀b,dR w ι0 cQ b→b<w.heap.size→∃o x l,o∈V∧f.os o=some x∧x.live=true∧ι o=some (some l)∧c6 w x l b:=by
   rintro b (u|⟨j,x,l,R,B,J,Bn⟩) iU
   ·omega
   ·obtain⟨hj,⟨y,ho,ke⟩,u⟩:=n0 j x R;rw[hι0 j hj]at J;exact⟨V[j],_,l,Wz hj,ho,by rw[←ke.live,nB];exact B,J,uL ke Bn⟩
  have Ig:∀b,dR w ι0 cQ b→C.Ow b:=by
   rintro b (u|⟨j,x,l,R,B,J,Bn⟩)
   ·exact h.fo _ (Wh h.fr.size u)
   ·obtain⟨hj,⟨y,ho,ke⟩,u⟩:=n0 j x R;rw[hι0 j hj]at J;exact(h.own _ _ ho (by rw[←ke.live,nB];exact B) l J b (uL ke Bn)).1
  have Sm:∀b,S b→¬dR w ι0 cQ b:=by
   intro b u hO;obtain⟨o,x,l,_,E,B,J,Bn⟩:=Eh b hO (h.sb b u);exact(h.own o x E B l J b Bn).2.1 u
  have hw:gA S w w':=λ b u=>X.old b (h.sb b u) (Sm b u);have lS:∀o x,f.os o=some x→x.live=true→o∉V→∀l,ι o=some (some l)→∀b,c6 w x l b→¬dR w ι0 cQ b:=by
   intro o x E B xe l J b uz hO;obtain⟨o2,x2,l2,Sj,Z,A,ll,T⟩:=Eh _ hO (h.own o x E B l J b uz).2.2;have:=h.inj o o2 x x2 E Z B A l l2 J ll b uz T;subst this;exact xe Sj
  have uq:=hf.2.1;let ι2:bp:=λ x=>if id≤x∧x<id+W then ι' (x-id)else ι x;have hι2:ι.le ι2:=by
   intro x y ue;by_cases hc:id≤x∧x<id+W
   ·rw[h.un x (hid x hc.1 hc.2)]at ue;cases ue
   ·grind
  have hι2V:∀j (hj:j<V.length),ι2 V[j]=ι' j:=by
   intro j hj;obtain⟨x,E⟩:=BE j hj;obtain⟨Hz,L,hL⟩:=ni _ _ E;simp only[ι2];rw[if_neg Hz,hL];refine(hle j L ?_).symm;rw[hι0 j hj];exact hL
  have hσ:∀x y,ι' x=some y→ι2 (σ x)=some y:=by
   intro x y ue;by_cases E:x<V.length
   ·grind
   ·have hxW:x<W:=by
     rcases Wo x W with q|q
     ·exact q
     ·grind
    have e:σ x=id+x:=by simp[σ,bk,E]
    grind
  have LD:∀j (hj:j<V.length) k,k<W→V[j]≠id+k:=by
   intro j hj k hk e;obtain⟨x,E⟩:=BE j hj;exact(ni _ _ E).1 ⟨by omega,by omega⟩
  have hσinj:∀j j',j<W→j'<W→σ j=σ j'→j=j':=by
   intro j j' hj sS e;by_cases h1:j<V.length<;>by_cases Y:j'<V.length
   ·grind
   ·have e2:σ j'=id+j':=by simp[σ,bk,Y]
    grind
   ·have e1:σ j=id+j:=by simp[σ,bk,h1]
    grind
   ·have e1:σ j=id+j:=by simp[σ,bk,h1]
    have e2:σ j'=id+j':=by simp[σ,bk,Y]
    omega
  have Ls:∀q∈cr,q.1<W:=λ q hq=>by obtain⟨x,E⟩:=OF hq;grind
  obtain⟨H7,H6⟩:=Th (σ:=σ) cr f.os (V.map λ o=>(o,none)) (λ p q hp hq e=>hσinj _ _ (Ls p hp) (Ls q hq) e);have M:∀o x,bw f.os (hZ V id cr) o=some x→(∃j x',j<W∧o=σ j∧lk cr j=some x'∧x=dq σ x')∨(o∉V∧f.os o=some x):=by
   intro o x E;by_cases hq:∃q∈cr,σ q.1=o
   ·obtain⟨q,yV,vE⟩:=hq;obtain⟨x',mL⟩:=OF yV;have:=H7 q.1 x' mL;rw[vE]at this;rw[show bw f.os (hZ V id cr) o=_ from this]at E
    grind
   ·have:=H6 o (λ q yV vE=>hq ⟨q,yV,vE⟩);rw[show bw f.os (hZ V id cr) o=_ from this,ZpU]at E
    grind
  have iS:∀j x',lk cr j=some x'→x'.live=true→∀l,ι2 (σ j)=some (some l)→ι' j=some (some l):=by
   intro j x' hj B l J;by_cases RQ:j<V.length
   ·grind
   ·have e:σ j=id+j:=by simp[σ,bk,RQ]
    have:=uq _ _ hj;rw[e]at J;simp only[ι2]at J;rw[if_pos ⟨by omega,by omega⟩,show id+j-id=j by omega]at J
    exact J
  have F:∀o x,f.os o=some x→∀l,ι2 o=some (some l)→ι o=some (some l):=by
   intro o x E l J;simp only[ι2]at J;rw[if_neg (ni o x E).1]at J;exact J
  have hinv:Inv C S' ι2 (λ x=>un x∧¬(id≤x∧x<id+W)) {f with os:=bw f.os (hZ V id cr)} a w':=by
   refine h.iC sV hw hι2 ?_ ?_ ?_ (λ b u=>(vJ b u).2) (λ b u=>?_) (λ o ho=>?_) ?_
   ·intro o x E;rcases M o x E with ⟨j,x',hj,rfl,R,rfl⟩|⟨xe,E⟩
    ·exact(iT.ob j x' R).qt hσ
    ·exact(h.ob o x E).mono sV hw hι2 (λ l J B b u=>X.old _ (h.own o x E B l J b u).2.2 (lS o x E B xe l J b u))
   ·intro o x E B l J b u;rcases M o x E with ⟨j,x',hj,rfl,R,rfl⟩|⟨xe,E⟩
    ·rw[nB]at B;have:=iT.own j x' R B l (iS j x' R B l J) b (qJ u);grind
    ·have jy:=F o x E l J;have u:=ft (λ b u=>X.old b (h.own o x E B l jy b u).2.2 (lS o x E B xe l jy b u)) u;have:=h.own o x E B l jy b u
     refine⟨this.1,λ hs=>?_,by have:=X.size;omega⟩
     grind
   ·intro o1 o2 x1 x2 kd Z H A l1 l2 e1 e2 b u T;rcases M o1 x1 kd with ⟨j1,y1,D7,rfl,xj,rfl⟩|⟨Bh,kd⟩
    ·rw[nB]at H;have p1:=iS j1 y1 xj H l1 e1;rcases M o2 x2 Z with ⟨j2,y2,xk,rfl,rL,rfl⟩|⟨xd,Z⟩
     ·rw[nB]at A;have p2:=iS j2 y2 rL A l2 e2;rw[iT.inj j1 j2 y1 y2 xj rL H A l1 l2 p1 p2 b (qJ u) (qJ T)]
     ·have ll:=F o2 x2 Z l2 e2;have:=(iT.own j1 y1 xj H l1 p1 b (qJ u)).1;have T:=ft (λ b u=>X.old b (h.own o2 x2 Z A l2 ll b u).2.2 (lS o2 x2 Z A xd l2 ll b u)) T;grind
    ·have qB:=F o1 x1 kd l1 e1;rcases M o2 x2 Z with ⟨j2,y2,xk,rfl,rL,rfl⟩|⟨xd,Z⟩
     ·rw[nB]at A;have p2:=iS j2 y2 rL A l2 e2;have:=(iT.own j2 y2 rL A l2 p2 b (qJ T)).1;have u:=ft (λ b u=>X.old b (h.own o1 x1 kd H l1 qB b u).2.2 (lS o1 x1 kd H Bh l1 qB b u)) u;grind
     ·have ll:=F o2 x2 Z l2 e2;have u:=ft (λ b u=>X.old b (h.own o1 x1 kd H l1 qB b u).2.2 (lS o1 x1 kd H Bh l1 qB b u)) u;have T:=ft (λ b u=>X.old b (h.own o2 x2 Z A l2 ll b u).2.2 (lS o2 x2 Z A xd l2 ll b u)) T
      exact h.inj o1 o2 x1 x2 kd Z H A l1 l2 qB ll b u T
   ·rcases(vJ b u).1 with q|q
    ·exact h.sn b q
    grind
   ·simp only[ι2];rw[if_neg ho.2];exact h.un o ho.1
   ·exact⟨X.os.trans h.fr.os,X.output.trans h.fr.output,Wh h.fr.size X.size,λ b u hn=>by
     rw[X.old b (by have:=h.fr.size;omega) (λ q=>hn (Ig _ q))];exact h.fr.old b u hn⟩
  exact Inv.goes hn hinv (λ x E=>E) (du.qt hσ) hd
 |pure op v hp=>
  refine absurd (λ c e=>?_) jz;subst e
  by_cases u:∃b,c.callee=Callee.builtin b
  ·exact u
  ·exfalso;unfold fb at hp;grind
 |kF=>simp_all
 |files _ _ _ _ u=>
  refine absurd (λ c e=>?_) jz;cases u with
  |del=>grind
  |sa=>grind
  |copy=>grind
  |len=>grind
  |BQ=>grind
  |fq _ t kt m k x jh=>simp_all
  |_=>cases e
 |jR _ _ _ _ u=>
  refine absurd (λ c e=>?_) jz;cases u with
  |put _ t kt m k x jh=>simp_all
  |_=>cases e
 |more _ _ _ _ u=>
  refine absurd (λ c e=>?_) jz;cases u with
  |sf=>grind
  |se=>grind
  |iQ _ t kt m k x jh=>simp_all
  |_=>cases e
 |_=>simp_all
end
end Go.Ab
