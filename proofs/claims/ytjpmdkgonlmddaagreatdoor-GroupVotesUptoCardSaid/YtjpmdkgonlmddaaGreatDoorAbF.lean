import Derived.Test.YtjpmdkgonlmddaaGreatDoorAbE
import Derived.Lib.LazyBuf
set_option linter.unusedVariables false
open Go.MapKept (Stamped)
namespace Go.Ab
theorem JF:∀(gs:Gr) (k j:Nat),lk (rB k gs) j=if k≤j then(gs[j-k]?).map (fun e=>e.2.ao)else none
 | [],k,j=>by simp[rB,lk]
 |e::r,k,j=>by
  simp only[rB,lk,JF r (k+1) j]
  grind
theorem PD(gs:Gr)(j:Nat):lk (rB 0 gs) j=(gs[j]?).map (fun e=>e.2.ao):=by simp[JF]
theorem GO.live(g:GO):g.ao.live=true:=by cases g<;>rfl
section
variable {C:Cx}{S:Nat→Prop}{w:World}{ι:ax}{P:Program}{un:Nat→Prop}{f:FS}{a:Act}{id:Nat}{o:Oper}
 {next:Act→World→Prop} {Q:Exit→Act→World→Prop}
theorem jj.y8{es:List (AV×Gr)}{h:Option (Nat×Nat)}{xs:Array MapEntry}{B:Nat}(hF:rh S w ι es h xs B):jj false S w ι (fC es) xs.toList:=by
 refine⟨by simp[fC,hF.len],fun i e x he hx=>?_⟩
 simp only[fC,Yn,Yj]at he
 obtain⟨e0,he0,rfl⟩:=he
 exact⟨(hF.at_ i e0 x he0 (by simp_all)).1,.bI _ _ (.undef _),fun hp=>by cases hp⟩
theorem Inv.tK(h:Inv C S ι un f a w){k:Nat}(hk:un k){x:AO}(hx:f.os k=some x):False:=by
 have fD:=h.un k hk
 have:=h.ob k x hx
 cases x with
 |rows p rs=>rcases this with ⟨q,_⟩|⟨l,vals,q,_⟩<;>(simp_all)
 |cT rs=>rcases this with ⟨q,_⟩|⟨l,vals,q,_⟩<;>(simp_all)
 |aw p es=>obtain⟨l,xs,c,q,_⟩:=this;simp_all
 |bL z fs hh=>obtain⟨l,xs,c,q,_⟩:=this;simp_all
 |bK es hh=>obtain⟨l,xs,c,q,_⟩:=this;simp_all
 |lit rs=>obtain⟨l,vals,q,_⟩:=this;simp_all
theorem HA{es:List (AV×Gr)}{h:Option (Nat×Nat)}{l:Loc}{b:Nat}(hb:cj w (.bK es h) l b):cj w (.bK es none) l b:=by
 rcases hb with hb|⟨xs,c,i,e,x,h1,h2,h3,_,h5⟩
 ·exact .inl hb
 ·exact .inr ⟨xs,c,i,e,x,h1,h2,h3,by simp,h5⟩
theorem Inv.Al(h:Inv C S ι un f a w)(hid:∀x,id≤x→x<id+W→un x){o:Nat}{es:List (AV×Gr)}{i:Nat}{e:AV×Gr}(ho:f.os o=some (.bK es none))(he:es[i]? =some e)(hW:e.2.length≤W)
 {l:Loc} {xs:Array MapEntry} {clock:Nat} {x:MapEntry} (hl:ι o=some (some l)) (hheap:w.heap[l.bd]? =some (.map xs clock)) (hx:xs[i]? =some x):
 ∃ι',ι.le ι'∧bP S w ι' (.ptr id 0 0) x.val∧Inv C S ι' (fun y=>un y∧¬(id≤y∧y<id+W)) {f with os:=ay f.os (oW id (rB 0 e.2)++[(o,some (.bK es (some (i,id))))])} a w:=by
 obtain⟨l',fa,clock',hl',dt,hlim,hF⟩:=h.ob o _ ho
 rw[hl]at hl';injection hl' with hl';injection hl' with hl';subst hl'
 rw[hheap]at dt;injection dt with dt;injection dt with e1 e2;subst e1;subst e2
 have lF:¬(id≤o∧o<id+W):=fun hc=>h.tK (hid o hc.1 hc.2) ho
 obtain⟨hkey,hg,_⟩:=hF.at_ i e x he hx
 obtain⟨⟨ιg,hG⟩,Zg⟩:=hg (by simp)
 let ι':ax:=fun k=>if id≤k∧k<id+W then ιg (k-id)else ι k
 have hι:ι.le ι':=by
  intro k y hy
  by_cases hc:id≤k∧k<id+W
  ·rw[h.un k (hid k hc.1 hc.2)]at hy;cases hy
  ·grind
 have Zl:0<W:=by simp[W]
 have hσ:∀k y,(fun k=>if k<W then ιg k else none) k=some y→ι' (id+k)=some y:=by
  intro k y hy;simp only at hy;split at hy
  ·grind
  ·cases hy
 have iD:bP S w ι' (.ptr id 0 0) x.val:=by
  obtain⟨l0,h1,h2⟩:=hG.root.cZ
  rw[h2]
  refine bP.ptr id 0 0 l0 ?_
  simp only[ι'];rw[if_pos ⟨Yg _,by omega⟩,WN];exact h1
 have gh:∀b,dN w e.2 x.val b→cj w (.bK es none) l b:=fun b hb=>.inr ⟨xs,clock,i,e,x,hheap,he,hx,by simp,hb⟩
 refine⟨ι',hι,iD,?_⟩
 have hosU:∀k y,ay f.os (oW id (rB 0 e.2)++[(o,some (.bK es (some (i,id))))]) k=some y→
  (∃p g,id≤k∧k<id+W∧e.2[k-id]? =some (p,g)∧y=cC (id+ ·) g.ao)∨(k=o∧y=.bK es (some (i,id)))∨(¬(id≤k∧k<id+W)∧k≠o∧f.os k=some y):=by
  intro k y hy;rw[Mt,Lp]at hy;split at hy
  ·rename_i hc
   rw[PD]at hy
   grind
  ·rename_i hc
   simp only[ay]at hy
   by_cases h1:k=o
   ·simp_all
   ·rw[if_neg h1]at hy
    exact .inr (.inr ⟨fun hk=>h.tK (hid k hk.1 hk.2) hy,h1,hy⟩)
 have hold:∀k,¬(id≤k∧k<id+W)→∀l2,ι' k=some (some l2)→ι k=some (some l2):=fun k hk l2 e=>by grind
 have jn:∀k,id≤k→k<id+W→∀l2,ι' k=some (some l2)→ιg (k-id)=some (some l2):=fun k h1 h2 l2 e=>by grind
 have jq:∀k p g,id≤k→k<id+W→e.2[k-id]? =some (p,g)→∀l2,ι' k=some (some l2)→∀b,cj w (cC (id+ ·) g.ao) l2 b→eX w l2.bd g b∧dN w e.2 x.val b:=by
  intro k p g h1 h2 hg l2 dJ b hb
  have hb2:=Hd.2 (pz hb)
  exact⟨hb2,hG.bd hg (jn k h1 h2 l2 dJ) hb2⟩
 have hw:fz S w w:=fun _ _=>rfl
 refine h.hP (fun _ x=>x) hw hι ?_ ?_ ?_ h.sb h.sn (fun k hk=>by simp only[ι'];rw[if_neg hk.2];exact h.un k hk.1) h.fr
 ·intro k y hy
  rcases hosU k y hy with ⟨p,g,h1,h2,hg,rfl⟩|⟨rfl,rfl⟩|⟨h1,h2,h3⟩
  ·have h9:=Hy.1 (hG.ob (k-id) p g hg).1
   have h8:ca S w ι' (id+(k-id)) (cC (id+ ·) g.ao):=h9.pr (σ:=(id+ ·)) (fun j y hy=>?_)
   ·simp_all
   ·by_cases hj:j<W
    ·simp_all
    ·rw[hG.top j (by omega)]at hy;cases hy
  ·refine⟨l,xs,clock,hι _ _ hl,hheap,hlim,hF.len,fun j e' x' mq hx'=>?_,fun j j' e1 e2 x1 x2 b g1 g2 g3 g4 g5 g6=>hF.inj j j' e1 e2 x1 x2 b g1 g2 g3 g4 (by simp) (by simp)⟩
   obtain⟨g1,g2,g3⟩:=hF.at_ j e' x' mq hx'
   grind
  ·exact(h.ob k y h3).mono (fun _ x=>x) hw hι (fun _ _ _ _ _=>rfl)
 ·intro k y hy hly l2 dJ b hb
  rcases hosU k y hy with ⟨p,g,h1,h2,hg,rfl⟩|⟨rfl,rfl⟩|⟨h1,h2,h3⟩
  ·exact h.own o _ ho rfl l hl _ (gh b (jq k p g h1 h2 hg l2 dJ b hb).2)
  ·exact h.own k _ ho rfl l2 (hold k lF l2 dJ) b (HA hb)
  ·exact h.own k y h3 hly l2 (hold k h1 l2 dJ) b hb
 ·have mz:∀k p g,id≤k→k<id+W→e.2[k-id]? =some (p,g)→∀l2,ι' k=some (some l2)→∀b,cj w (cC (id+ ·) g.ao) l2 b→∀l3,ι o=some (some l3)→cj w (.bK es (some (i,id))) l3 b→False:=by
   intro k p g h1 h2 hg l2 dJ b hb l3 jo hf
   rw[hl]at jo;injection jo with jo;injection jo with jo;subst jo
   have hb2:=(jq k p g h1 h2 hg l2 dJ b hb).2
   rcases hf with hf|⟨Ck,c2,j,e2,x2,g1,g2,g3,g4,g5⟩
   ·grind
   ·rw[hheap]at g1;injection g1 with g1;injection g1 with q1 q2;subst q1
    have:=hF.inj i j e e2 x x2 b he g2 hx g3 (by simp) (by simp) hb2 g5
    simp_all
  intro k1 k2 y1 y2 hy1 hy2 hv1 hv2 l1 l2 e1 e2 b hb1 hb2
  rcases hosU k1 y1 hy1 with ⟨p1,g1,h1,h1',hg1,rfl⟩|⟨rfl,rfl⟩|⟨h1,h1',h3⟩<;>rcases hosU k2 y2 hy2 with ⟨p2,g2,j1,xh,hg2,rfl⟩|⟨q0,q⟩|⟨j1,xh,j3⟩
  ·have:=hG.inj _ _ p1 p2 g1 g2 hg1 hg2 l1 l2 (jn k1 h1 h1' l1 e1) (jn k2 j1 xh l2 e2) b (jq k1 p1 g1 h1 h1' hg1 l1 e1 b hb1).1 (jq k2 p2 g2 j1 xh hg2 l2 e2 b hb2).1
   omega
  ·grind
  ·have hb:=gh b (jq k1 p1 g1 h1 h1' hg1 l1 e1 b hb1).2
   exact absurd (h.inj o k2 _ y2 ho j3 rfl hv2 l l2 hl (hold k2 j1 l2 e2) b hb hb2) (fun e=>xh e.symm)
  ·grind
  ·omega
  ·exact absurd (h.inj k1 k2 _ y2 ho j3 rfl hv2 l1 l2 (hold k1 lF l1 e1) (hold k2 j1 l2 e2) b (HA hb1) hb2) (fun e=>xh e.symm)
  ·have hb:=gh b (jq k2 p2 g2 j1 xh hg2 l2 e2 b hb2).2
   exact absurd (h.inj k1 o y1 _ h3 ho hv1 rfl l1 l (hold k1 h1 l1 e1) hl b hb1 hb) h1'
  ·subst q0;subst q
   exact h.inj k1 k2 y1 _ h3 ho hv1 rfl l1 l2 (hold k1 h1 l1 e1) (hold k2 lF l2 e2) b hb1 (HA hb2)
  ·exact h.inj k1 k2 y1 y2 h3 j3 hv1 hv2 l1 l2 (hold k1 h1 l1 e1) (hold k2 j1 l2 e2) b hb1 hb2
theorem Inv.F8(h:Inv C S ι un f a w){o q:Nat}{es:List (AV×Gr)}(ho:f.os o=some (.bK es none)){l:Loc}{xs:Array MapEntry}{clock:Nat}(hl:ι o=some (some l))
 (hheap:w.heap[l.bd]? =some (.map xs clock)) {k:AV} {kv u:Value} (hk:bR S w k kv) (hu:bP S w ι (.ptr q 0 0) u) (mW:∀x,x∈xs.toList→x.key≠kv) (hlim:es.length+1≤bm) (g0:Gr):
 Inv C S ι un {f with os:=ay f.os [(o,some (.bK (es++[(k,g0)]) (some (es.length,q))))]} a {w with heap:=w.heap.setIfInBounds l.bd (.map (xs.push {key:=kv,val:=u,born:=clock}) (clock+1))}:=by
 obtain⟨l',Ck,qA,hl',dt,il,hF⟩:=h.ob o _ ho
 rw[hl]at hl';injection hl' with hl';injection hl' with hl';subst hl'
 rw[hheap]at dt;injection dt with dt;injection dt with e1 e2;subst e1;subst e2
 have hlt:l.bd<w.heap.size:=(Wn.1 hheap).1
 obtain⟨hO,hS,_⟩:=h.own o _ ho rfl l hl _ (.inl rfl)
 let w':World:={w with heap:=w.heap.setIfInBounds l.bd (.map (xs.push {key:=kv,val:=u,born:=clock}) (clock+1))}
 have eo:∀b,b≠l.bd→w'.heap[b]? =w.heap[b]? :=fun b hb=>Wz (fun e=>hb e.symm)
 have hw:fz S w w':=fun b hb=>eo b (fun e=>hS (e▸hb))
 have me:w'.heap[l.bd]? =some (.map (xs.push {key:=kv,val:=u,born:=clock}) (clock+1)):=by simp[w',hlt]
 have Jd:∀(i:Nat) e x,es[i]? =some e→xs[i]? =some x→∀b,dN w e.2 x.val b→w'.heap[b]? =w.heap[b]? :=fun i e x he hx b hb=>eo b (((hF.at_ i e x he hx).2.1 (by simp)).2 b hb)
 have CD:∀(i:Nat) e x,es[i]? =some e→xs[i]? =some x→∀b,dN w' e.2 x.val b↔dN w e.2 x.val b:=fun i e x he hx b=>Bm (Jd i e x he hx)
 have oP:∀(i:Nat) e x,(es++[(k,g0)])[i]? =some e→(xs.push {key:=kv,val:=u,born:=clock})[i]? =some x→(some (es.length,q):Option (Nat×Nat)).map (·.1)≠some i→es[i]? =some e∧xs[i]? =some x:=by
  intro i e x he hx hn
  have hne:i≠es.length:=fun e=>hn (by grind)
  have hil:i<es.length:=by have:=eZ he;simp at this;omega
  refine⟨by grind,?_⟩
  rw[V6,if_neg (by rw[←hF.len];exact hne)]at hx;exact hx
 have iX:∀l2:Loc,l2.bd=l.bd→∀b,cj w' (.bK (es++[(k,g0)]) (some (es.length,q))) l2 b→cj w (.bK es none) l b:=by
  rintro l2 e2 b (hb|⟨Nv,c3,i,e,x,h1,h2,h3,h4,h5⟩)
  ·exact .inl (hb.trans e2)
  ·rw[e2,me]at h1;injection h1 with h1;injection h1 with h1 _;subst h1
   obtain⟨g1,g2⟩:=oP i e x h2 h3 h4
   exact .inr ⟨xs,clock,i,e,x,hheap,g1,g2,by simp,(CD i e x g1 g2 b).1 h5⟩
 have hoth:∀o' y,f.os o'=some y→y.live=true→o'≠o→∀l',ι o'=some (some l')→∀b,cj w y l' b→w'.heap[b]? =w.heap[b]? :=fun o' y hy hly e l' hl' b hb=>
  eo b (fun eb=>e (h.inj o' o y _ hy ho hly rfl l' l hl' hl b hb (.inl eb)))
 have hosU:∀k' y,ay f.os [(o,some (.bK (es++[(k,g0)]) (some (es.length,q))))] k'=some y→(k'=o∧y=.bK (es++[(k,g0)]) (some (es.length,q)))∨(k'≠o∧f.os k'=some y):=by
  intro k' y hy;simp only[ay]at hy
  by_cases e2:k'=o
  ·grind
  ·grind
 have hsz:w'.heap.size=w.heap.size:=by simp[w']
 refine h.hP (fun _ x=>x) hw (ax.le_refl _) ?_ ?_ ?_ (fun b hb=>by rw[hsz];exact h.sb b hb) h.sn h.un ?_
 ·intro k' y hy
  rcases hosU k' y hy with ⟨rfl,rfl⟩|⟨h1,h3⟩
  ·refine⟨l,_,_,hl,me,⟨by rw[Array.size_push,←hF.len];exact hlim,Mq il.2 mW⟩,by simp[hF.len],fun i e x he hx=>?_,fun i j e e' x x' b he mq hx hx' hn sy h1 h2=>?_⟩
   ·by_cases hi:i=es.length
    ·subst hi
     rw[Yf (Yg _),WN]at he
     simp only[List.getElem?_cons_zero,Y2]at he
     subst he
     rw[V6,if_pos hF.len]at hx
     injection hx with hx;subst hx
     refine⟨hk.mono (fun _ h=>h) hw,fun hn=>absurd rfl hn,fun q' xo=>?_⟩
     injection xo with xo;injection xo with _ xo;subst xo
     exact hu.mono (fun _ h=>h) hw (ax.le_refl _)
    ·have hn:(some (es.length,q):Option (Nat×Nat)).map (·.1)≠some i:=by simp only[Yo,ne_eq,Y2];exact fun e=>hi e.symm
     obtain⟨g1,g2⟩:=oP i e x he hx hn
     obtain⟨j1,j2,_⟩:=hF.at_ i e x g1 g2
     obtain⟨⟨ιg,hg⟩,hB⟩:=j2 (by simp)
     exact⟨j1.mono (fun _ h=>h) hw,fun _=>⟨⟨ιg,hg.mono (fun _ h=>h) hw (Jd i e x g1 g2)⟩,fun b hb=>hB b ((CD i e x g1 g2 b).1 hb)⟩,fun q' xo=>by grind⟩
   ·obtain⟨g1,g2⟩:=oP i e x he hx hn
    obtain⟨CQ,Jt⟩:=oP j e' x' mq hx' sy
    exact hF.inj i j e e' x x' b g1 CQ g2 Jt (by simp) (by simp) ((CD i e x g1 g2 b).1 h1) ((CD j e' x' CQ Jt b).1 h2)
  ·exact(h.ob k' y h3).mono (fun _ x=>x) hw (ax.le_refl _) (fun l' hl' hy' b hb=>hoth k' y h3 hy' h1 l' hl' b hb)
 ·intro k' y hy hly l2 dJ b hb
  rw[hsz]
  rcases hosU k' y hy with ⟨rfl,rfl⟩|⟨h1,h3⟩
  ·rw[hl]at dJ;injection dJ with dJ;injection dJ with dJ;subst dJ
   exact h.own k' _ ho rfl l hl b (iX l rfl b hb)
  ·exact h.own k' y h3 hly l2 dJ b (eP (hoth k' y h3 hly h1 l2 dJ) hb)
 ·intro k1 k2 y1 y2 hy1 hy2 hv1 hv2 l1 l2 e1 e2 b hb1 hb2
  rcases hosU k1 y1 hy1 with ⟨rfl,rfl⟩|⟨h1,h3⟩<;>rcases hosU k2 y2 hy2 with ⟨g0,g⟩|⟨g0,g3⟩
  ·omega
  ·rw[hl]at e1;injection e1 with e1;injection e1 with e1;subst e1
   exact h.inj k1 k2 _ y2 ho g3 rfl hv2 l l2 hl e2 b (iX l rfl b hb1) (eP (hoth k2 y2 g3 hv2 g0 l2 e2) hb2)
  ·subst g0;subst g
   rw[hl]at e2;injection e2 with e2;injection e2 with e2;subst e2
   exact h.inj k1 k2 y1 _ h3 ho hv1 rfl l1 l e1 hl b (eP (hoth k1 y1 h3 hv1 h1 l1 e1) hb1) (iX l rfl b hb2)
  ·exact h.inj k1 k2 y1 y2 h3 g3 hv1 hv2 l1 l2 e1 e2 b (eP (hoth k1 y1 h3 hv1 h1 l1 e1) hb1) (eP (hoth k2 y2 g3 hv2 g0 l2 e2) hb2)
 ·refine⟨h.fr.os,h.fr.output,by rw[hsz];exact h.fr.size,fun b hb hn=>?_⟩
  exact(eo b (fun e=>hn (by grind))).trans (h.fr.old b hb hn)
def ig(gs:Gr):List Nat→Option AV
 | []=>some (.ptr 0 0 0)
 |c::q=>match ig gs q with
  |some (.ptr j 0 0)=>match gs[j]? with
   |some (_,.rows false (row::_))=>row[c]?
   |_=>none
  |_=>none
def l5:AV→Option Nat
 |.ptr o 0 0=>some o
 |.an o _=>some o
 |.aw o=>some o
 |_=>none
def n5(gs:Gr)(q:List Nat)(c:Nat):AV→Bool
 |.ptr k _ _=>match gs[k]? with|some (_,.rows _ (_::_))=>true|_=>false
 |.aw k=>match gs[k]? with|some (_,.bL ..)=>true|_=>false
 |.an k _=>match gs[k]? with|some (c'::q',.rows ..)=>Nat.beq c c'&&q'.beq q|_=>false
 |x=>eS 0 x
def mS(gs:Gr)(q:List Nat):Nat→List AV→Bool
 |_,[]=>true
 |c,x::r=>n5 gs q c x&&mS gs q (c+1) r
def um(gs:Gr):Nat→Gr→Bool
 |_,[]=>true
 |k,(p,g)::r=>(match (ig gs p).bind l5 with|some j=>Nat.beq j k|none=>false)&&
  (match p with| []=>true|_::q=>gs.any fun e=>e.1.beq q)&&
  (match g with|.rows false [row]=>mS gs p 0 row|.rows false _=>false|_=>true)&&um gs (k+1) r
theorem G3{gs:Gr}{q:List Nat}:∀{row:List AV} {c0:Nat},mS gs q c0 row=true→∀(c:Nat) x,row[c]? =some x→n5 gs q (c0+c) x=true
 | [],_,_,c,x,h=>by simp at h
 |y::r,c0,h,c,x,hx=>by
  simp only[mS,Y9]at h
  cases c with
  |zero=>simp_all
  |succ c=>rw[show c0+(c+1)=(c0+1)+c by omega];exact G3 h.2 c x (by simp_all)
theorem Ay{p q:List Nat}(h:p.beq q=true):p=q:=by
 have:(p==q)=true:=h
 simp_all
theorem Md{gs:Gr}:∀{r:Gr} {k:Nat},um gs k r=true→∀(j:Nat) p g,r[j]? =some (p,g)→(∃av,ig gs p=some av∧l5 av=some (k+j))∧(∀c q,p=c::q→∃g',(q,g')∈gs)∧
 (∀rs,g=.rows false rs→∃row,rs=[row]∧mS gs p 0 row=true)
 | [],_,_,j,p,g,h=>by simp at h
 |(p0,g0)::r,k,h,j,p,g,hj=>by
  simp only[um,Y9]at h
  cases j with
  |zero=>
   simp only[List.getElem?_cons_zero,Y2,Wv]at hj
   obtain⟨rfl,rfl⟩:=hj
   refine⟨?_,fun c q e=>?_,fun rs e=>?_⟩
   ·have h1:=h.1.1.1
    cases hw:ig gs p0 with
    |none=>simp_all
    |some av=>
     rw[hw]at h1;simp only[Y1]at h1
     cases hn:l5 av with
     |none=>simp_all
     |some j=>simp_all
   ·subst e
    have h1:=h.1.1.2
    obtain⟨e,he,hq⟩:=List.any_eq_true.1 h1
    exact⟨e.2,by rw[←Ay hq];exact he⟩
   grind
  |succ j=>
   have:=Md h.2 j p g (by simp_all)
   grind
def Vd(w:World)(v:Value)(gs:Gr)(k:Nat):Prop:=∃p pp,gs[k]? =some (p,.rows pp [])∧pat w v p=none
theorem zd{ι:ax}{av:AV}{u:Value}{j:Nat}(hr:bP S w ι av u)(hn:l5 av=some j):(∃l,ι j=some (some l)∧(vb u=some l.bd∨(vb u=none∧l.dO=0)))∨(ι j=some none∧vb u=none):=by
 unfold l5 at hn;split at hn
 ·injection hn with hn;subst hn
  obtain⟨l,h1,rfl⟩:=hr.cZ
  exact .inl ⟨l,h1,.inl rfl⟩
 ·injection hn with hn;subst hn
  rcases kp hr with ⟨l,a,cap,q,rfl,h2,h3,h4,hz,ha⟩|⟨q,a,rfl⟩
  ·left
   refine⟨l,q,?_⟩
   by_cases hc:cap=0
   ·subst hc
    exact .inr ⟨by rfl,by omega⟩
   ·left;simp[vb,hc,ha hc]
  ·right;refine⟨q,?_⟩;cases a<;>simp[vb]
 ·injection hn with hn;subst hn
  obtain⟨l,h1,rfl⟩:=hr.cK
  exact .inl ⟨l,h1,.inl rfl⟩
 grind
mutual
theorem bP.nil{ι ι':ax}:∀(v:AV) (x:Value),eS 0 v=true→bP S w ι v x→bP S w ι' v x
 |.ptr o r c,x,hb,h=>absurd (YI (show decide (o<0)=true from hb)) (W9 _)
 |.eN o off len room,x,hb,h=>absurd (YI (show decide (o<0)=true from hb)) (W9 _)
 |.an o z,x,hb,h=>absurd (YI (show decide (o<0)=true from hb)) (W9 _)
 |.aw o,x,hb,h=>absurd (YI (show decide (o<0)=true from hb)) (W9 _)
 |.agg cs,x,hb,h=>by
  obtain⟨vs,rfl,hL⟩:=h.dG
  exact az.agg (az.sj cs vs.toList hb hL)
 |.bN cs,x,hb,h=>by
  obtain⟨vs,rfl,hL⟩:=h.gA
  exact az.jQ (az.sj cs vs.toList hb hL)
 |.fn f cs,x,hb,h=>by
  obtain⟨vs,rfl,hL⟩:=h.gC
  exact az.CR (az.sj cs vs.toList hb hL)
 |.int k m,x,_,h=>.bI _ _ (h.free rfl)
 |.bool b,x,_,h=>.bI _ _ (h.free rfl)
 |.str s,x,_,h=>.bI _ _ (h.free rfl)
 |.dq,x,_,h=>.bI _ _ (h.free rfl)
 |.sl xs,x,_,h=>.bI _ _ (h.free rfl)
 |.rp row c,x,_,h=>.bI _ _ (h.free rfl)
 |.ei v,x,_,h=>.bI _ _ (h.free rfl)
 |.undef,x,_,h=>.bI _ _ (.undef _)
 |.eh p,x,_,h=>by
  cases h with
  |bI _ _ h=>cases h with|eh _ b h=>exact .bI _ _ (.eh p b h)
theorem az.sj{ι ι':ax}:∀(cs:List AV) (vs:List Value),eJ 0 cs=true→az S w ι cs vs→az S w ι' cs vs
 | [],vs,_,h=>by
  have:=h.1
  cases vs with
  |nil=>exact .nil
  |cons v r=>grind
 |c::cs,vs,hb,h=>by
  simp only[eJ,Y9]at hb
  cases vs with
  |nil=>have:=h.1;grind
  |cons v r=>
   have h1:bP S w ι c v:=h.2 0 _ _ rfl rfl
   have h2:az S w ι cs r:=⟨by simpa using h.1,fun j x v hx hv=>h.2 (j+1) x v (by simp_all) (by simp_all)⟩
   exact az.cons (bP.nil c v hb.1 h1) (az.sj cs r hb.2 h2)
end
theorem PO{ι:ax}{k:Nat}{row:List AV}{rest:List (List AV)}{l:Loc}(h:ca S w ι k (.rows false (row::rest)))(hl:ι k=some (some l)){c:Nat}{x:AV}(hx:row[c]? =some x):
 ∃v,eY w l.bd (l.base+c)=some v∧bP S w ι x v:=by
 rcases h with ⟨q,_⟩|⟨l',vals,q,hcnt,hm,hat,hrep⟩
 ·simp_all
 ·rw[hl]at q;injection q with q;injection q with q;subst q
  have hR:az S w ι row (vals 0):=hrep.get rfl
  have hc:c<(vals 0).length:=by rw[←hR.1];exact eZ hx
  have hv:(vals 0)[c]? =some (vals 0)[c]:=Y3 hc
  have:=(hat.2.2 0 c _ (by simp) hv).1
  rw[Vb,YS]at this;exact⟨_,this,hR.2 c x _ hx hv⟩
theorem GW{ι:ax}{gs:Gr}{v:Value}(iD:bP S w ι (.ptr 0 0 0) v)(hob:∀(j:Nat) p g,gs[j]? =some (p,g)→ca S w ι j g.ao):∀(p:List Nat) (av:AV),ig gs p=some av→
 ∃u,rm w v p=some u∧bP S w ι av u
 | [],av,h=>by
  simp only[ig,Y2]at h;subst h;exact⟨v,rfl,iD⟩
 |c::q,av,h=>by
  simp only[ig]at h;split at h
  ·rename_i j hq
   split at h
   ·rename_i p' row rest hj
    obtain⟨u,h1,h2⟩:=GW iD hob q _ hq
    obtain⟨l,h3,rfl⟩:=h2.cZ
    obtain⟨x,h4,h5⟩:=PO (hob j p' _ hj) h3 h
    refine⟨x,?_,h5⟩
    simp only[rm,h1];simp_all
   ·cases h
  ·cases h
def jV(gs:Gr):Bool:=match gs with
 |([],.rows false [_])::_=>true
 |_=>false
def mU(n:Nat):Gr→Bool
 | []=>true
 |(_,g)::r=>cE n g.ao&&mU n r
theorem KN{n:Nat}:∀{gs:Gr},mU n gs=true→∀(j:Nat) p g,gs[j]? =some (p,g)→cE n g.ao=true
 | [],_,j,p,g,h=>by simp at h
 |(p0,g0)::r,h,j,p,g,hj=>by
  simp only[mU,Y9]at h
  cases j with
  |zero=>
   simp_all
  |succ j=>exact KN h.2 j p g (by simp_all)
open Classical in
theorem Q8{ι:ax}{gs:Gr}{v:Value}(iD:bP S w ι (.ptr 0 0 0) v)(hob:∀(j:Nat) p g,gs[j]? =some (p,g)→ca S w ι j g.ao)(N9:∀k,gs.length≤k→ι k=none)
 (p9:∀(k k':Nat) p p' g g',gs[k]? =some (p,g)→gs[k']? =some (p',g')→∀l l',ι k=some (some l)→ι k'=some (some l')→∀b,eX w l.bd g b→eX w l'.bd g' b→k=k')
 (hB:(jV gs&&um gs 0 gs)=true):∃ιg,py S w gs v ιg∧∀k l,ιg k=some (some l)→ι k=some (some l):=by
 rw[Y9]at hB
 have hG:∀(j:Nat) p g,gs[j]? =some (p,g)→(∃av,ig gs p=some av∧l5 av=some j)∧(∀c q,p=c::q→∃g',(q,g')∈gs)∧(∀rs,g=.rows false rs→∃row,rs=[row]∧mS gs p 0 row=true):=fun j p g hj=>by
  have:=Md hB.2 j p g hj
  simp_all
 let ιg:ax:=fun k=>if Vd w v gs k then some none else ι k
 have Cw:∀k,Vd w v gs k→ιg k=some none:=fun k h=>if_pos h
 have I9:∀k,¬Vd w v gs k→ιg k=ι k:=fun k h=>if_neg h
 have kb:∀k l,ιg k=some (some l)→¬Vd w v gs k∧ι k=some (some l):=fun k l h=>by
  grind
 have hone:∀k p p0 row rest,gs[k]? =some (p,.rows p0 (row::rest))→¬Vd w v gs k:=by
  rintro k p p0 row rest hk ⟨p',pp,h1,_⟩
  rw[hk]at h1;injection h1 with h1;injection h1 with _ h1;injection h1 with _ h1;cases h1
 have Zh:∀k p z fs,gs[k]? =some (p,.bL z fs)→¬Vd w v gs k:=by
  rintro k p z fs hk ⟨p',pp,h1,_⟩
  rw[hk]at h1;injection h1 with h1;injection h1 with _ h1;cases h1
 have hcell:∀(j:Nat) p row,gs[j]? =some (p,.rows false [row])→mS gs p 0 row=true→∀l,ι j=some (some l)→∀(c:Nat) x u,row[c]? =some x→eY w l.bd (l.base+c)=some u→bP S w ι x u→bP S w ιg x u:=by
  intro j p row hj vk l hl c x u hx hu hr
  have ry:=G3 vk c x hx
  rw[YS]at ry;unfold n5 at ry;split at ry
  ·rename_i k r0 c0
   split at ry
   ·rename_i p' p0 EK rest hk
    obtain⟨l2,h1,rfl⟩:=hr.cZ
    exact .ptr k r0 c0 l2 (by grind)
   grind
  ·rename_i k
   split at ry
   ·rename_i p' z fs hk
    obtain⟨l2,h1,rfl⟩:=hr.cK
    exact .aw k l2 (by grind)
   grind
  ·rename_i k z
   split at ry
   ·rename_i c' q' p0 rs hk
    rw[Y9]at ry
    have ec:=Vq ry.1
    have eq:=Ay ry.2
    subst ec;subst eq
    by_cases hv:Vd w v gs k
    ·have hv0:=hv
     obtain⟨XW,pp,h1,h2⟩:=hv
     rw[hk]at h1;injection h1 with h1;injection h1 with h1 _;subst h1
     obtain⟨⟨av,g1,g2⟩,_,_⟩:=hG k _ _ hk
     simp only[ig]at g1;split at g1
     ·rename_i j' hq
      obtain⟨⟨Zx,g3,g4⟩,_,_⟩:=hG j _ _ hj
      rw[hq]at g3;injection g3 with g3;subst g3
      simp only[l5,Y2]at g4;subst g4
      obtain⟨u0,k1,k2⟩:=GW iD hob _ _ hq
      obtain⟨l0,k3,rfl⟩:=k2.cZ
      rw[hl]at k3;injection k3 with k3;injection k3 with k3;subst k3
      have hpv:rm w v (c::q')=some u:=by
       simp only[rm,k1];simpa using hu
      simp only[pat,hpv,Y1]at h2
      rcases kp hr with ⟨l2,a,cap,q,rfl,b2,b3,b4,bz,ba⟩|⟨q,a,rfl⟩
      ·have hc0:cap=0:=by
        rcases Vc cap with h|h
        ·exact h
        ·simp only[vb]at h2
         grind
       subst hc0
       have:l2.dO=0:=by omega
       rw[this];exact .fk k z _ (Cw k hv0)
      ·exact .fk k z _ (Cw k hv0)
     grind
    ·rcases kp hr with ⟨l2,a,cap,q,rfl,b2,b3,b4,bz,ba⟩|⟨q,a,rfl⟩
     ·exact .an k z cap a l2 (by grind) b2 b3 b4 bz ba
     ·exact .fk k z a (by grind)
   grind
  ·exact bP.nil x u ry hr
 refine⟨ιg,⟨?_,fun k p g hk=>⟨?_,?_⟩,fun k k' p p' g g' hk tW l l' hl hl' b b1 b2=>p9 k k' p p' g g' hk tW l l' (kb k l hl).2 (kb k' l' hl').2 b b1 b2,?_,fun k hk=>?_⟩,fun k l h=>(kb k l h).2⟩
 ·obtain⟨l,h1,rfl⟩:=iD.cZ
  refine .ptr 0 0 0 l ?_
  have hr0:=hB.1
  unfold jV at hr0
  grind
 ·by_cases hv:Vd w v gs k
  ·have hv0:=hv
   obtain⟨p',pp,h1,h2⟩:=hv
   rw[hk]at h1;injection h1 with h1;injection h1 with _ h1;subst h1
   exact .inl ⟨Cw k hv0,rfl⟩
  ·have ho:=hob k p g hk
   cases g with
   |bL z fs=>
    obtain⟨l,xs,clock,h1,h2,h3,h4⟩:=ho
    exact⟨l,xs,clock,by grind,h2,h3,h4.1,fun i e x he hx=>⟨(h4.2.1 i e x he hx).1,(h4.2.1 i e x he hx).2.1,fun q hq=>by cases hq⟩,h4.2.2⟩
   |rows p0 rs=>
    rcases ho with ⟨h1,h2⟩|⟨l,vals,h1,h2,h3,h4,h5⟩
    ·exact .inl ⟨by grind,h2⟩
    ·refine .inr ⟨l,vals,by grind,h2,h3,h4,?_⟩
     cases p0 with
     |true=>exact fun i r hr=>by have:=h5 i r hr;grind
     |false=>
      obtain⟨row,rfl,vk⟩:=(hG k p _ hk).2.2 rs rfl
      intro i r hr
      have hi:i=0:=by have:=eZ hr;simp at this;exact this
      subst hi
      simp only[List.getElem?_cons_zero,Y2]at hr
      subst hr
      have hR:az S w ι row (vals 0):=h5.get rfl
      simp only[Yu,Yc]
      refine⟨hR.1,fun c x u hx hu=>?_⟩
      have hcl:=(h4.2.2 0 c u (by simp) hu).1
      rw[Vb,YS]at hcl;exact hcell k p row hk vk l h1 c x u hx hcl (hR.2 c x u hx hu)
 ·obtain⟨⟨av,h1,h2⟩,_,_⟩:=hG k p g hk
  obtain⟨u,h3,h4⟩:=GW iD hob p av h1
  have hp:pat w v p=vb u:=by simp[pat,h3]
  by_cases hv:Vd w v gs k
  ·rw[Cw k hv]
   obtain⟨p',pp,g1,g2⟩:=hv
   rw[hk]at g1;injection g1 with g1;injection g1 with g1 _;subst g1
   rw[g2];rfl
  ·rw[I9 k hv,hp]
   rcases zd h4 h2 with ⟨l,g1,g2|⟨g2,g3⟩⟩|⟨g1,g2⟩
   ·rw[g1,g2];rfl
   ·exfalso
    have ho:=hob k p g hk
    cases g with
    |rows p0 rs=>
     rcases ho with ⟨q,_⟩|⟨l',vals,q,hcnt,_⟩
     ·grind
     ·rw[g1]at q;injection q with q;injection q with q;subst q
      obtain rfl:rs=[]:=Yy.1 (by omega)
      exact hv ⟨p,p0,hk,by grind⟩
    |bL z fs=>
     cases av with
     |ptr o r c=>
      obtain⟨l2,_,rfl⟩:=h4.cZ
      cases g2
     |aw o=>
      obtain⟨l2,_,rfl⟩:=h4.cK
      cases g2
     |an o z'=>
      simp only[l5,Y2]at h2;subst h2
      cases p with
      |nil=>simp[ig]at h1
      |cons c q=>
       simp only[ig]at h1;split at h1
       ·rename_i j' hq
        split at h1
        ·rename_i p' row rest hj
         obtain⟨EK,e,vk⟩:=(hG j' p' _ hj).2.2 _ rfl
         injection e with e1 e2;subst e1
         have:=G3 vk c _ h1
         simp only[n5,hk]at this;cases this
        grind
       grind
     |_=>cases h2
   ·rw[g1,g2];rfl
 ·exact fun c q g hm=>by
   obtain⟨j,hj⟩:=Wj hm
   grind
 ·rw[I9 k (fun hv=>by
   obtain⟨p,pp,h1,_⟩:=hv
   grind)]
  grind
theorem Inv.Am(h:Inv C S ι un f a w){o i q:Nat}{es:List (AV×Gr)}{k:AV}{old gs:Gr}{V:List Nat}(ho:f.os o=some (.bK es (some (i,q))))(hi:es[i]? =some (k,old))
 (Zm:V.length=gs.length) (pZ:V.Nodup) (vp:o∉V) (hq:V.getD 0 0=q) (hob:∀(j:Nat) p g,gs[j]? =some (p,g)→∃x,f.os (V.getD j 0)=some x∧fT x (cC (fun n=>V.getD n 0) g.ao))
 (hB:(jV gs&&um gs 0 gs&&mU gs.length gs)=true):
 Inv C S ι un {f with os:=ay f.os ((o,some (.bK (es.set i (k,gs)) none))::V.map fun q=>(q,none))} a w:=by
 rw[Y9]at hB
 obtain⟨F4,FE⟩:=hB
 obtain⟨l,xs,clock,hlo,hheap,hlim,hF⟩:=h.ob o _ ho
 have hil:i<xs.size:=by rw[←hF.len];exact eZ hi
 obtain⟨x0,hx0⟩:∃x0,xs[i]? =some x0:=⟨_,YK hil⟩
 let σ:Nat→Nat:=fun n=>V.getD n 0
 have F1:∀j,j<gs.length→V[j]? =some (σ j):=fun j hj=>by
  grind
 have mh:∀j,j<gs.length→σ j∈V:=fun j hj=>YA (F1 j hj)
 have hσinj:∀j j',j<gs.length→j'<gs.length→σ j=σ j'→j=j':=fun j j' hj hj' e=>by
  have h1:=F1 j hj;have h2:=F1 j' hj'
  rw[←e]at h2
  have hj1:j<V.length:=by omega
  have vA:j'<V.length:=by omega
  exact(List.getElem?_inj hj1 pZ).1 (h1.trans h2.symm)
 have h0:0<gs.length:=by
  have hr0:jV gs=true:=by rw[Y9]at F4;exact F4.1
  cases gs with
  |nil=>cases hr0
  |cons _ _=>simp
 let ι0:ax:=ιback ι σ gs.length
 have oO:∀(j:Nat) p g,gs[j]? =some (p,g)→ca S w ι0 j g.ao:=fun j p g hj=>
  ca.eM (eZ hj) (KN FE j p g hj) (by
   obtain⟨x,hx,jg⟩:=hob j p g hj
   exact jg.ok (h.ob _ x hx))
 have iD:bP S w ι0 (.ptr 0 0 0) x0.val:=by
  have:=(hF.at_ i _ x0 hi hx0).2.2 q rfl
  refine bP.eM (.ptr 0 0 0) x0.val (Y4 h0) ?_
  show bP S w ι (.ptr (σ 0) 0 0) x0.val
  rw[show σ 0=q from hq];exact this
 have eK:∀k l,ι0 k=some (some l)→k<gs.length∧ι (σ k)=some (some l):=fun k l e=>by
  simp only[ι0,ιback]at e;simp_all
 have hfo:∀(j:Nat) p g,gs[j]? =some (p,g)→∃x,f.os (σ j)=some x∧x.live=true∧∀l2 b,eX w l2.bd g b→cj w x l2 b:=fun j p g hj=>by
  obtain⟨x,hx,jg⟩:=hob j p g hj
  exact⟨x,hx,by rw[←jg.live,mE];exact g.live,fun l2 b hb=>sY jg (Hd.1 hb)⟩
 obtain⟨ιg,hG,hGι⟩:=Q8 iD oO (fun k hk=>by simp only[ι0,ιback];grind) (fun j j' p p' g g' hj hj' l1 l2 e1 e2 b b1 b2=>by
  obtain⟨k1,p1⟩:=eK j l1 e1
  obtain⟨k2,p2⟩:=eK j' l2 e2
  obtain⟨x1,hx1,hv1,tZ⟩:=hfo j p g hj
  obtain⟨x2,iP,hv2,jE⟩:=hfo j' p' g' hj'
  exact hσinj j j' k1 k2 (h.inj _ _ _ _ hx1 iP hv1 hv2 l1 l2 p1 p2 b (tZ l1 b b1) (jE l2 b b2))) F4
 have hown:∀b,dN w gs x0.val b→∃(j:Nat) (x:AO) (l2:Loc),j<gs.length∧f.os (σ j)=some x∧x.live=true∧ι (σ j)=some (some l2)∧cj w x l2 b:=by
  intro b hb
  obtain⟨j,p,g,l2,h1,h2,h3⟩:=hG.sh hb
  obtain⟨x,hx,hv,hf⟩:=hfo j p g h1
  exact⟨j,x,l2,eZ h1,hx,hv,(eK j l2 (hGι j l2 h2)).2,hf l2 b h3⟩
 have hnot:∀b,dN w gs x0.val b→∀l3,ι o=some (some l3)→cj w (.bK es (some (i,q))) l3 b→False:=by
  intro b hb l3 jo hf
  obtain⟨j,x,l2,hj,hx,hv,h2,h3⟩:=hown b hb
  have:=h.inj _ _ _ _ hx ho hv rfl l2 l3 h2 jo b h3 hf
  exact vp (this▸mh j hj)
 have hhole:∀j,j≠i→(some (i,q):Option (Nat×Nat)).map (·.1)≠some j:=fun j hj=>by
  grind
 have hset:∀(j:Nat) e,(es.set i (k,gs))[j]? =some e→(j=i∧e=(k,gs))∨(j≠i∧es[j]? =some e):=by
  intro j e he
  by_cases hj:j=i
  ·grind
  ·grind
 have iX:∀l3,ι o=some (some l3)→∀b,cj w (.bK (es.set i (k,gs)) none) l3 b→cj w (.bK es (some (i,q))) l3 b∨dN w gs x0.val b:=by
  rintro l3 jo b (hb|⟨Nv,c3,j,e,x,h1,h2,h3,h4,h5⟩)
  ·exact .inl (.inl hb)
  ·rw[hlo]at jo;injection jo with jo;injection jo with jo;subst jo
   rw[hheap]at h1;injection h1 with h1;injection h1 with q1 q2;subst q1
   rcases hset j e h2 with ⟨rfl,rfl⟩|⟨hj,h2⟩
   ·grind
   ·exact .inl (.inr ⟨xs,clock,j,e,x,hheap,h2,h3,hhole j hj,h5⟩)
 have hosU:∀k' y,ay f.os ((o,some (.bK (es.set i (k,gs)) none))::V.map fun q=>(q,none)) k'=some y→(k'=o∧y=.bK (es.set i (k,gs)) none)∨(k'≠o∧k'∉V∧f.os k'=some y):=by
  intro k' y hy
  have hn:∀(V:List Nat) (k:Nat),ay f.os (V.map fun q=>(q,none)) k=if k∈V then none else f.os k:=by
   intro V
   induction V with
   |nil=>intro k;rfl
   |cons q r ih=>
    intro k;simp only[Yp,ay,ih,Yh]
    grind
  simp only[ay]at hy
  by_cases e2:k'=o
  ·grind
  ·grind
 have hw:fz S w w:=fun _ _=>rfl
 have mz:∀k' y,k'≠o→k'∉V→f.os k'=some y→y.live=true→∀l',ι k'=some (some l')→∀b,cj w y l' b→∀l3,ι o=some (some l3)→cj w (.bK (es.set i (k,gs)) none) l3 b→False:=by
  intro k' y hne Oz hy hly l' hl' b hb l3 jo hf
  rcases iX l3 jo b hf with hf|hf
  ·exact hne (h.inj k' o y _ hy ho hly rfl l' l3 hl' jo b hb hf)
  ·obtain⟨j,x,l2,hj,hx,hv,h2,h3⟩:=hown b hf
   have:=h.inj k' _ y _ hy hx hly hv l' l2 hl' h2 b hb h3
   grind
 refine h.hP (fun _ x=>x) hw (ax.le_refl _) ?_ ?_ ?_ h.sb h.sn h.un h.fr
 ·intro k' y hy
  rcases hosU k' y hy with ⟨rfl,rfl⟩|⟨h1,h2,h3⟩
  ·refine⟨l,xs,clock,hlo,hheap,hlim,by simpa using hF.len,fun j e x he hx=>?_,fun j j' e e' x x' b he mq hx hx' _ _ h1 h2=>?_⟩
   ·rcases hset j e he with ⟨rfl,rfl⟩|⟨hj,he⟩
    ·rw[hx0]at hx;injection hx with hx;subst hx
     exact⟨(hF.at_ j _ x0 hi hx0).1,fun _=>⟨⟨ιg,hG⟩,fun b hb e=>hnot b hb l hlo (.inl e)⟩,fun q hq=>by cases hq⟩
    ·obtain⟨j1,j2,_⟩:=hF.at_ j e x he hx
     grind
   ·rcases hset j e he with ⟨hj,rfl⟩|⟨hj,xu⟩<;>rcases hset j' e' mq with ⟨hj',rfl⟩|⟨hj',zW⟩
    ·omega
    ·subst hj
     rw[hx0]at hx;injection hx with hx;subst hx
     exact(hnot b h1 l hlo (.inr ⟨xs,clock,j',e',x',hheap,zW,hx',hhole j' hj',h2⟩)).elim
    ·subst hj'
     rw[hx0]at hx';injection hx' with hx';subst hx'
     exact(hnot b h2 l hlo (.inr ⟨xs,clock,j,e,x,hheap,xu,hx,hhole j hj,h1⟩)).elim
    ·exact hF.inj j j' e e' x x' b xu zW hx hx' (hhole j hj) (hhole j' hj') h1 h2
  ·exact(h.ob k' y h3).mono (fun _ x=>x) hw (ax.le_refl _) (fun _ _ _ _ _=>rfl)
 ·intro k' y hy hly l' hl' b hb
  rcases hosU k' y hy with ⟨rfl,rfl⟩|⟨h1,h2,h3⟩
  ·rcases iX l' hl' b hb with hb|hb
   ·exact h.own k' _ ho rfl l' hl' b hb
   ·obtain⟨j,x,l2,hj,hx,hv,h2,h3⟩:=hown b hb
    exact h.own _ _ hx hv l2 h2 b h3
  ·exact h.own k' y h3 hly l' hl' b hb
 ·intro k1 k2 y1 y2 hy1 hy2 hv1 hv2 l1 l2 e1 e2 b hb1 hb2
  rcases hosU k1 y1 hy1 with ⟨rfl,rfl⟩|⟨h1,h2,h3⟩<;>rcases hosU k2 y2 hy2 with ⟨g0,g⟩|⟨g1,g2,g3⟩
  ·omega
  ·grind
  ·grind
  ·exact h.inj k1 k2 y1 y2 h3 g3 hv1 hv2 l1 l2 e1 e2 b hb1 hb2
theorem Td{op:Op}{v:AV}{U:List (Nat×Option AO)}{RO:List Nat}(cu:o.op=op)(h:Inv C S ι un f a w)
 (hst:GStep P (gD C.G f.g) f.os id op v U RO) (hid:∀x,id≤x→x<id+W→un x) (hd:∀d,o.dst=some d→C.N.lo≤d∧d<C.N.n) (hn:fP C un id o f v U next):o.wp P a w next Q:=by
 have yU:∀x,un x∧¬(id≤x∧x<id+W)→un x∧x≠id:=fun x hx=>po hx
 cases hst with
 |look t kt m k ok ob es i e hm ho ht hk hr he hW=>
  have gM:=h.ev m;have hkv:=h.ev k
  rw[hm]at gM
  obtain⟨l,hl,iv⟩:=gM.cK
  obtain⟨l',xs,clock,hl',hheap,iu,hF⟩:=h.ob ob _ ho
  rw[hl]at hl';injection hl' with hl';injection hl' with hl';subst hl'
  obtain⟨ji,iK,⟨d,hd'⟩,hsb⟩:=pb hk hkv
  obtain⟨e',iY,iJ,lH⟩:=pC hd' hk hkv (jj.y8 hF) hr
  unfold dr at ht;split at ht
  ·rename_i kk ee gL
   injection ht with ht;subst ht
   have iI:(Instr.findKey kk (a.eval k) xs.toList).run P w=.ok e' w:=iY
   obtain⟨⟨j',y⟩,rfl⟩:∃p,e'=some p:=by cases e' with|none=>grind|some p=>simp
   simp only[Yo,Y2]at iJ;subst iJ
   obtain⟨x0,hx0,oK⟩:=lH j' y rfl
   obtain⟨ι',hle,hrep,hinv⟩:=h.Al hid ho he hW hl hheap (x:=x0) (by simp_all)
   have hrun:(execOp a.eval o).run P w=.ok (.value (if ok then .tuple #[y,.bool true]else y)) w:=by
    unfold execOp;rw[cu];simp only[iv,Instr.lookup,Y7,Y6 gL,Result.andThen_ok,lL hheap,Sem.run_pure,iK,iI]
   unfold Oper.wp;rw[hrun,Oper.upon_value];rw[oK]at hrep
   refine Inv.goes hn hinv (fun x hx=>hx) ?_ hd
   cases ok
   ·exact hrep
   ·exact az.jQ (az.cons hrep (az.cons (.bI _ _ (.bool _)) .nil))
  grind
 |same t kt m k ok ob q es i hm ho ht hk hr=>
  have gM:=h.ev m;have hkv:=h.ev k
  rw[hm]at gM
  obtain⟨l,hl,iv⟩:=gM.cK
  obtain⟨l',xs,clock,hl',hheap,iu,hF⟩:=h.ob ob _ ho
  rw[hl]at hl';injection hl' with hl';injection hl' with hl';subst hl'
  obtain⟨ji,iK,⟨d,hd'⟩,hsb⟩:=pb hk hkv
  obtain⟨e',iY,iJ,lH⟩:=pC hd' hk hkv (jj.y8 hF) hr
  unfold dr at ht;split at ht
  ·rename_i kk ee gL
   injection ht with ht;subst ht
   have iI:(Instr.findKey kk (a.eval k) xs.toList).run P w=.ok e' w:=iY
   obtain⟨⟨j',y⟩,rfl⟩:∃p,e'=some p:=by cases e' with|none=>grind|some p=>simp
   simp only[Yo,Y2]at iJ;subst iJ
   obtain⟨x0,hx0,oK⟩:=lH j' y rfl
   have zn:xs[j']? =some x0:=by rw[←Wh];exact hx0
   have hil:j'<es.length:=by rw[hF.len];exact(Wn.1 zn).1
   have hrep:=(hF.at_ j' _ x0 (Y3 hil) zn).2.2 q rfl
   have hrun:(execOp a.eval o).run P w=.ok (.value (if ok then .tuple #[y,.bool true]else y)) w:=by
    unfold execOp;rw[cu];simp only[iv,Instr.lookup,Y7,Y6 gL,Result.andThen_ok,lL hheap,Sem.run_pure,iK,iI]
   refine gJ hn h hd hrun ?_
   rw[oK]at hrep;cases ok
   ·exact hrep
   ·exact az.jQ (az.cons hrep (az.cons (.bI _ _ (.bool _)) .nil))
  grind
 |gB t kt m k ok ob es hh v hm ho ht hk hr hv=>
  have gM:=h.ev m;have hkv:=h.ev k
  rw[hm]at gM
  obtain⟨l,hl,iv⟩:=gM.cK
  obtain⟨l',xs,clock,hl',hheap,iu,hF⟩:=h.ob ob _ ho
  rw[hl]at hl';injection hl' with hl';injection hl' with hl';subst hl'
  obtain⟨ji,iK,⟨d,hd'⟩,hsb⟩:=pb hk hkv
  obtain⟨e',iY,iJ,lH⟩:=pC hd' hk hkv (jj.y8 hF) hr
  unfold dr at ht;split at ht
  ·rename_i kk ee gL
   injection ht with ht;subst ht
   have iI:(Instr.findKey kk (a.eval k) xs.toList).run P w=.ok e' w:=iY
   cases e' with
   |some p=>grind
   |none=>
    obtain⟨vt,zv,jt,hz,jg⟩:=hv
    have lD:ee=vt:=by unfold fX at jt;rw[gL]at jt;simpa using jt
    subst lD;unfold zeroV at hz;split at hz
    ·cases hz
    ·rename_i i hi
     split at hz
     ·rename_i pj kS
      injection hz with hz;subst hz
      have ku:(zeroValue ee).run P w=.ok pj w:=by simp[zeroValue,typeInfo,hi,kS]
      have hrun:(execOp a.eval o).run P w=.ok (.value (if ok then .tuple #[pj,.bool false]else pj)) w:=by
       unfold execOp;rw[cu];simp only[iv,Instr.lookup,Y7,Y6 gL,Result.andThen_ok,lL hheap,Sem.run_pure,iK,iI,ku]
      refine gJ hn h hd hrun ?_
      have:=jg.rep _ (bP.bI (S:=S) (w:=w) (ι:=ι) _ _ (s7 pj))
      cases ok
      ·exact this
      ·exact az.jQ (az.cons this (az.cons (.bI _ _ (.bool _)) .nil))
     grind
  grind
 |mk t hk=>
  have hrun:(execOp a.eval o).run P w=.ok (.value (.map (some w.heap.size))) (w.alloc (.map #[] 0)):=by
   unfold execOp;rw[cu];simp only[Instr.makeMap,Option.map_none,Y7,Sem.run_pure,run_newObj,Result.andThen_ok];rfl
  unfold Oper.wp;rw[hrun,Oper.upon_value]
  have hh:(w.alloc (.map #[] 0)).heap[w.heap.size]? =some (.map #[] 0):=by show(w.heap.push _)[w.heap.size]? =_;simp
  obtain⟨ι',hle,hι',hinv⟩:=h.alloc (iy hid) (.map #[] 0) ⟨w.heap.size,0,0,0,0⟩ rfl (.bK [] none) rfl (fun b hb=>by
   rcases hb with hb|⟨xs,c,i,e,x,h1,h2,_⟩
   all_goals simp_all) (fun ι' hle hι'=>
   ⟨_,#[],0,hι',hh,⟨by simp,Mp⟩,rfl,fun i e x h=>by simp at h,fun i j e e' x x' b h=>by simp at h⟩)
  exact Inv.goes hn hinv yU (.aw id _ hι') hd
 |put _ t kt m k x pY ob q es hm ho ht hk hr hlim hx g0=>
  have gM:=h.ev m;have hkv:=h.ev k;have oM:=h.ev x
  rw[hm]at gM;rw[hx]at oM
  obtain⟨l,hl,iv⟩:=gM.cK
  obtain⟨l',xs,clock,hl',hheap,iu,hF⟩:=h.ob ob _ ho
  rw[hl]at hl';injection hl' with hl';injection hl' with hl';subst hl'
  obtain⟨ji,iK,⟨d,hd'⟩,hsb⟩:=pb hk hkv
  obtain⟨e',iY,iJ,lH⟩:=pC hd' hk hkv (jj.y8 hF) hr
  unfold dr at ht;split at ht
  ·rename_i kk ee gL
   injection ht with ht;subst ht
   have iI:(Instr.findKey kk (a.eval k) xs.toList).run P w=.ok e' w:=iY
   have hex:(execOp a.eval o)=(do Instr.mapUpdate t (a.eval m) (a.eval k) (a.eval x);pure .skip:Sem Next):=by
    unfold execOp;rw[cu];rcases pY with rfl|rfl<;>rfl
   have he:e'=none:=by cases e' with|none=>rfl|some p=>grind
   subst he
   have hrun:(execOp a.eval o).run P w=.ok .skip {w with heap:=w.heap.setIfInBounds l.bd (.map (xs.push {key:=a.eval k,val:=a.eval x,born:=clock}) (clock+1))}:=by
    rw[hex,iv];simp only[Instr.mapUpdate,Y7,Y6 gL,Result.andThen_ok,lL hheap,iK,iI,ta _ hheap,Sem.run_pure]
   unfold Oper.wp;rw[hrun,Oper.upon_skip]
   have hinv:=h.F8 ho hl hheap (k:=gD C.G f.g k) (kv:=a.eval k) (ji) oM (L9 hr (jj.y8 hF) hkv) hlim g0
   exact Inv.goes hn hinv (fun x hx=>hx.1) (.bI _ _ (.undef _)) hd
  grind
end
theorem DE{α β:Type}{f:α→Option β}:∀{l:List α} {l':List β},ko f l=some l'→
 l.length=l'.length∧∀(i:Nat) x y,l[i]? =some x→l'[i]? =some y→f x=some y:=by
 intro l
 induction l with
 |nil=>intro l' h;simp only[ko,Y2]at h;simp_all
 |cons a r ih=>
  intro l' h;simp only[ko]at h
  grind
section
variable {S:Nat→Prop}{w:World}{ι:ax}{ol:Nat→Option AO}
def SV(S:Nat→Prop)(ι:ax)(ol:Nat→Option AO)(V:List Nat)(b:Nat):Prop:=
 S b∨∃o x l,o∈V∧ol o=some x∧ι o=some (some l)∧b=l.bd
theorem Be{V:List Nat}{cl:AV→Option AV}(hcl:∀x v x',bP S w ι x v→cl x=some x'→bR (SV S ι ol V) w x' v)
 {o:Nat} {y:AO} {rs:List (List AV)} (hy:ca S w ι o y) (h:oX cl y=some rs):
 (ι o=some none∧rs=[])∨∃l vals,ι o=some (some l)∧rs.length=l.dO∧oV w l rs.length vals∧
  ∀(i:Nat) row,rs[i]? =some row→bO (SV S ι ol V) w row (vals i):=by
 have up:∀{row:List AV} {vs:List Value},bO S w row vs→bO (SV S ι ol V) w row vs:=fun h=>h.mono (fun b hb=>.inl hb) (fun _ _=>rfl)
 unfold oX at h;split at h
 ·injection h with h;subst h
  rcases hy with h|⟨l,vals,h1,h2,h3,h4,h5⟩
  ·grind
  ·exact .inr ⟨l,vals,h1,h2,h4,fun i row hr=>up (by have:=h5 i row hr;simp_all)⟩
 ·rename_i jf
  obtain⟨hlen,zD⟩:=DE h
  rcases hy with ⟨q,rfl⟩|⟨l,vals,h1,h2,h3,h4,h5⟩
  ·grind
  ·refine .inr ⟨l,vals,h1,by omega,by simp_all,fun i row hr=>?_⟩
   have hi:i<jf.length:=by rw[hlen];exact eZ hr
   have hr0:=Y3 hi
   have:=zD i _ _ hr0 hr
   obtain⟨dJ,hp2⟩:=DE this
   have hrep:=h5.get hr0
   refine⟨by rw[←dJ];exact hrep.1,fun j x v hx hv=>?_⟩
   have hj:j<jf[i].length:=by rw[dJ];exact eZ hx
   have hx0:=Y3 hj
   exact hcl _ _ _ (hrep.2 j _ v hx0 hv) (hp2 j _ _ hx0 hx)
 ·injection h with h;subst h
  rcases hy with h|⟨l,vals,h1,h2,h3,h4,h5⟩
  ·grind
  ·exact .inr ⟨l,vals,h1,h2,h4,fun i row hr=>up (by have:=h5 i row hr;simp_all)⟩
 all_goals simp_all
theorem bR.empty{S:Nat→Prop}{w:World}(a:Option Addr)(cap:Nat):(a=none→cap=0)→bR S w (.sl []) (.slice a 0 cap):=by
 intro h
 cases a with
 |none=>rw[h rfl];exact .fI
 |some a=>
  exact bR.sl [] a cap 0 (fun _=>[]) (by simp) (by simp) (fun h=>absurd rfl h) (fun i r h=>by simp at h) (fun i j v h=>by simp at h) (fun i j r x v h=>by simp at h)
theorem wk{V:List Nat}(hob:∀o x,ol o=some x→ca S w ι o x):∀(n:Nat) (x:AV) (v:Value) (x':AV),bP S w ι x v→
 ft V ol n x=some x'→bR (SV S ι ol V) w x' v:=by
 intro n
 induction n with
 |zero=>intro x v x' _ h;simp[ft]at h
 |succ n ih=>
  intro x v x' hr h
  have up:∀{x:AV} {v:Value},bR S w x v→bR (SV S ι ol V) w x v:=fun h=>h.mono (fun b hb=>.inl hb) (fun _ _=>rfl)
  have lists:∀{cs mK:List AV} {vs:List Value},az S w ι cs vs→ko (ft V ol n) cs=some mK→bO (SV S ι ol V) w mK vs:=by
   intro cs mK vs hL hm
   obtain⟨hl,hp⟩:=DE hm
   refine⟨by rw[←hl];exact hL.1,fun j x v hx hv=>?_⟩
   have hj:j<cs.length:=by rw[hl];exact eZ hx
   have hx0:=Y3 hj
   exact ih _ _ _ (hL.2 j _ v hx0 hv) (hp j _ _ hx0 hx)
  cases x with
  |an o z=>
   simp only[ft]at h;split at h
   ·rename_i hV
    split at h
    ·rename_i y hy
     simp only[Yj]at h
     obtain⟨rs,hrs,rfl⟩:=h
     rcases Be ih (hob o y hy) hrs with ⟨q,rfl⟩|⟨l,vals,q,hcnt,hat,hrep⟩
     ·rcases kp hr with ⟨l',ab,cap,q',_⟩|⟨q',ab,rfl⟩
      ·simp_all
      ·exact bR.empty ab 0 (fun _=>rfl)
     ·rcases kp hr with ⟨l',ab,cap,q',rfl,h2,h3,h4,hz,ha⟩|⟨q',ab,rfl⟩
      ·rw[q]at q';injection q' with q';injection q' with q';subst q'
       rw[←hcnt]
       refine bR.sl rs ab cap l.bo vals (by omega) (by omega) (fun hne=>?_) (fun i r jD=>?_) (fun i j v hi hv=>?_) (fun i j r x v h1 h2 h3=>?_)
       ·have:0<rs.length:=WR.2 hne
        rw[ha (by omega)]
        exact⟨.inr ⟨o,y,l,by simp_all,hy,q,rfl⟩,rfl⟩
       ·have:=(hrep i r jD).1
        have h5:=hat.2.1 i (eZ jD)
        omega
       ·have:0<rs.length:=by omega
        rw[ha (by omega)]
        exact hat.2.2 i j v hi hv
       ·exact(hrep i r h1).2 j x v h2 h3
      simp_all
    ·cases h
   ·cases h
  |eN o off len room=>
   simp only[ft]at h;split at h
   ·rename_i hV
    split at h
    ·rename_i y hy
     simp only[Yj]at h
     obtain⟨rs,hrs,rfl⟩:=h
     rcases Be ih (hob o y hy) hrs with ⟨q,rfl⟩|⟨l,vals,q,hcnt,hat,hrep⟩
     ·rcases vY hr with ⟨l',ab,cap,q',_⟩|⟨q',rfl,rfl,rfl,ab,rfl⟩
      ·simp_all
      ·simpa using bR.empty ab 0 (fun _=>rfl)
     ·rcases vY hr with ⟨l',ab,cap,q',rfl,h1,h2,h3,h4,h5,ha⟩|⟨q',_⟩
      ·rw[q]at q';injection q' with q';injection q' with q';subst q'
       have hlen:((rs.drop off).take len).length=len:=by simp;omega
       have hget:∀(i:Nat) r,((rs.drop off).take len)[i]? =some r→i<len∧rs[off+i]? =some r:=by
        intro i r jD
        rw[W8]at jD
        split at jD
        ·simp_all
        ·cases jD
       have:=bR.sl (S:=SV S ι ol V) (w:=w) ((rs.drop off).take len) ab cap l.bo (fun i=>vals (off+i)) (by omega) (by omega) (fun hne=>by
        have:0<((rs.drop off).take len).length:=WR.2 hne
        rw[ha (by omega)]
        exact⟨.inr ⟨o,y,l,by simp_all,hy,q,rfl⟩,rfl⟩) (fun i r jD=>by
         obtain⟨hi,hg⟩:=hget i r jD
         have:=(hrep _ r hg).1
         have h5:=hat.2.1 _ (eZ hg)
         omega) (fun i j v hi hv=>by
         rw[hlen]at hi
         rw[ha (by omega)]
         have:=hat.2.2 (off+i) j v (by omega) hv
         grind) (fun i j r x v h1 h2 h3=>by
         obtain⟨hi,hg⟩:=hget i r h1
         exact(hrep _ r hg).2 j x v h2 h3)
       simp_all
      simp_all
    ·cases h
   ·cases h
  |ptr o r c=>
   simp only[ft]at h;split at h
   ·rename_i hV
    split at h
    ·rename_i y hy
     split at h
     ·rename_i rs hrs
      split at h
      ·rename_i row hrow
       injection h with h;subst h
       obtain⟨l,hl,rfl⟩:=hr.cZ
       rcases Be ih (hob o y hy) hrs with ⟨q,rfl⟩|⟨l',vals,q,hcnt,hat,hrep⟩
       ·simp_all
       ·rw[q]at hl;injection hl with hl;injection hl with hl;subst hl
        have hi:=eZ hrow
        have hL:=hrep r row hrow
        have:=bR.rp (S:=SV S ι ol V) (w:=w) row c l'.bd (l'.base+r*l'.bo) (vals r) (.inr ⟨o,y,l',by simp_all,hy,q,rfl⟩) hL.1 (fun j v hv=>by
         have:=hat.2.2 r j v hi hv
         grind) hL.2
        grind
      ·cases h
     ·cases h
    ·cases h
   ·cases h
  |agg cs=>
   simp only[ft,Yj]at h
   obtain⟨mK,hc,rfl⟩:=h
   obtain⟨vs,rfl,hL⟩:=hr.dG
   have:=lists hL hc
   exact .agg _ _ (by simpa using this.1) (fun j x v hx hv=>this.2 j x v hx (by simp_all))
  |bN cs=>
   simp only[ft,Yj]at h
   obtain⟨mK,hc,rfl⟩:=h
   obtain⟨vs,rfl,hL⟩:=hr.gA
   have:=lists hL hc
   exact .bN _ _ (by simpa using this.1) (fun j x v hx hv=>this.2 j x v hx (by simp_all))
  |fn f cs=>
   simp only[ft,Yj]at h
   obtain⟨mK,hc,rfl⟩:=h
   obtain⟨vs,rfl,hL⟩:=hr.gC
   have:=lists hL hc
   exact .fn _ _ _ (by simpa using this.1) (fun j x v hx hv=>this.2 j x v hx (by simp_all))
  |dq=>simp only[ft,Y2]at h;subst h;exact up (hr.free rfl)
  |aw o=>simp[ft]at h
  |int k m=>simp only[ft,Y2]at h;subst h;exact up (hr.free rfl)
  |bool b=>simp only[ft,Y2]at h;subst h;exact up (hr.free rfl)
  |str s=>simp only[ft,Y2]at h;subst h;exact up (hr.free rfl)
  |sl xs=>simp only[ft,Y2]at h;subst h;exact up (hr.free rfl)
  |rp row c=>simp only[ft,Y2]at h;subst h;exact up (hr.free rfl)
  |ei u=>simp only[ft,Y2]at h;subst h;exact up (hr.free rfl)
  |undef=>simp only[ft,Y2]at h;subst h;exact up (hr.free rfl)
  |eh p=>simp only[ft,Y2]at h;subst h;exact up (hr.free rfl)
theorem Ls{V:List Nat}(hob:∀o x,ol o=some x→ca S w ι o x){n:Nat}{cs mK:List AV}{vs:List Value}(hL:az S w ι cs vs)
 (hm:ko (ft V ol n) cs=some mK):bO (SV S ι ol V) w mK vs:=by
 obtain⟨hl,hp⟩:=DE hm
 refine⟨by rw[←hl];exact hL.1,fun j x v hx hv=>?_⟩
 have hj:j<cs.length:=by rw[hl];exact eZ hx
 have hx0:=Y3 hj
 exact wk hob n _ _ _ (hL.2 j _ v hx0 hv) (hp j _ _ hx0 hx)
end
theorem Dy:∀{cs:List AV} {x:AV},mu cs=true→x∈cs→flat x=true:=by
 intro cs
 induction cs with
 |nil=>simp
 |cons a r ih=>
  intro x h hm;simp only[mu,Y9]at h
  grind
theorem bR.flat{S S':Nat→Prop}{w w':World}{x:AV}{v:Value}(h:bR S w x v)(hf:flat x=true):bR S' w' x v:=by
 induction h with
 |int k n=>exact .int k n
 |bool b=>exact .bool b
 |str s=>exact .str s
 |ei v h=>exact .ei v h
 |agg cs vs hl _ ih=>
  refine .agg cs vs hl (fun j x v hx hv=>ih j x v hx hv ?_)
  simp only[Ab.flat]at hf;exact Dy hf (YA hx)
 |bN cs vs hl _ ih=>
  refine .bN cs vs hl (fun j x v hx hv=>ih j x v hx hv ?_)
  simp only[Ab.flat]at hf;exact Dy hf (YA hx)
 |_=>simp[Ab.flat]at hf
theorem bP.flat{S S':Nat→Prop}{w w':World}{ι:ax}{x:AV}{v:Value}(h:bP S w ι x v)(hf:flat x=true):bR S' w' x v:=by
 induction h with
 |bI x v h=>exact h.flat hf
 |agg cs vs hl _ ih=>
  refine .agg cs vs hl (fun j x v hx hv=>ih j x v hx hv ?_)
  simp only[Ab.flat]at hf;exact Dy hf (YA hx)
 |bN cs vs hl _ ih=>
  refine .bN cs vs hl (fun j x v hx hv=>ih j x v hx hv ?_)
  simp only[Ab.flat]at hf;exact Dy hf (YA hx)
 |_=>simp[Ab.flat]at hf
theorem Lc{V:List Nat}{ol:Nat→Option AO}{n:Nat}{U:List (Nat×Option AO)}(h:frozen V ol n=some U)(base:Nat→Option AO)(o:Nat):
 (o∈V∧∃y rs,ol o=some y∧oX (ft V ol n) y=some rs∧ay base U o=some (.cT rs))∨(o∉V∧ay base U o=base o):=by
 unfold frozen at h
 have:∀(V':List Nat) (U:List (Nat×Option AO)),ko (fun o=>match ol o with|some y=>(oX (ft V ol n) y).map fun rs=>(o,some (AO.cT rs))|none=>none) V'=some U→
  (o∈V'∧∃y rs,ol o=some y∧oX (ft V ol n) y=some rs∧ay base U o=some (.cT rs))∨(o∉V'∧ay base U o=base o):=by
  intro V'
  induction V' with
  |nil=>intro U h;simp only[ko,Y2]at h;subst h;exact .inr ⟨by simp,rfl⟩
  |cons k r ih=>
   intro U h;simp only[ko]at h;split at h
   ·rename_i y s hy hs
    injection h with h;subst h
    split at hy
    ·rename_i z hz
     simp only[Yj]at hy
     obtain⟨rs,hrs,rfl⟩:=hy
     by_cases e:o=k
     ·subst e
      left;exact⟨by simp,z,rs,hz,hrs,by simp[ay]⟩
     ·rcases ih s hs with ⟨h1,h2⟩|⟨h1,h2⟩
      ·left;refine⟨by simp[h1],?_⟩
       obtain⟨y,eA,q1,q2,q3⟩:=h2
       exact⟨y,eA,q1,q2,by simp[ay,e,q3]⟩
      ·right;exact⟨by grind,by simp[ay,e,h2]⟩
    grind
   ·cases h
 exact this V U h
section
variable {C:Cx}{S:Nat→Prop}{w:World}{ι:ax}{P:Program}{un:Nat→Prop}{f:FS}{a:Act}{id:Nat}{o:Oper}
 {next:Act→World→Prop} {Q:Exit→Act→World→Prop}
theorem mH(h:Inv C S ι un f a w)(V:List Nat):∀b,SV S ι f.os V b→b<w.heap.size:=by
 rintro b (hb|⟨o',x,l,_,I8,hl,rfl⟩)
 ·exact h.sb b hb
 ·by_cases hlv:x.live=true
  ·exact(h.own o' x I8 hlv l hl _ (.inl rfl)).2.2
  ·have:=h.ob o' x I8
   cases x with
   |cT rs=>
    rcases this with ⟨q,_⟩|⟨l',vals,q,_,hS,_⟩
    ·simp_all
    ·rw[q]at hl;injection hl with hl;injection hl with hl;subst hl;exact h.sb _ hS
   |rows p rs=>exact absurd rfl hlv
   |aw p es=>exact absurd rfl hlv
   |bL z fs hh=>exact absurd rfl hlv
   |bK es hh=>exact absurd rfl hlv
   |lit rs=>exact absurd rfl hlv
theorem Inv.freeze(h:Inv C S ι un f a w){V:List Nat}{n:Nat}{U:List (Nat×Option AO)}(hU:frozen V f.os n=some U):
 Inv C (SV S ι f.os V) ι un {f with os:=ay f.os U} a w:=by
 have ed:∀o x,ay f.os U o=some x→(o∈V∧∃y rs,f.os o=some y∧oX (ft V f.os n) y=some rs∧x=.cT rs)∨(o∉V∧f.os o=some x):=by
  intro o x hx
  rcases Lc hU f.os o with ⟨h1,y,rs,h2,h3,h4⟩|⟨h1,h2⟩
  ·simp_all
  ·simp_all
 refine h.hP (fun b hb=>.inl hb) (fun _ _=>rfl) (ax.le_refl _) ?_ ?_ ?_ (mH h V) (fun b hb=>?_) h.un h.fr
 ·intro o x hx
  rcases ed o x hx with ⟨h1,y,rs,h2,h3,rfl⟩|⟨h1,h2⟩
  ·rcases Be (wk h.ob n) (h.ob o y h2) h3 with ⟨q,rfl⟩|⟨l,vals,q,hcnt,hat,xm⟩
   ·exact .inl ⟨q,rfl⟩
   ·exact .inr ⟨l,vals,q,hcnt,.inr ⟨o,y,l,h1,h2,q,rfl⟩,hat,fun i r hr=>by simp_all⟩
  ·exact(h.ob o x h2).mono (fun b hb=>.inl hb) (fun _ _=>rfl) (ax.le_refl _) (fun _ _ _ _ _=>rfl)
 ·intro o x hx hlv l hl b hb
  rcases ed o x hx with ⟨h1,y,rs,h2,h3,rfl⟩|⟨h1,h2⟩
  ·cases hlv
  ·have:=h.own o x h2 hlv l hl b hb
   refine⟨this.1,fun hs=>?_,this.2.2⟩
   rcases hs with q|⟨o2,x2,l2,q1,q2,q3,q4⟩
   ·simp_all
   ·by_cases cS:x2.live=true
    ·have:=h.inj o o2 x x2 h2 q2 hlv cS l l2 hl q3 b hb (.inl q4)
     simp_all
    ·have hob2:=h.ob o2 x2 q2
     cases x2 with
     |cT rs=>
      rcases hob2 with ⟨q,_⟩|⟨l',vals,q,_,hS,_⟩
      all_goals simp_all
     |rows p rs=>exact absurd rfl cS
     |aw p es=>exact absurd rfl cS
     |bL z fs hh=>exact absurd rfl cS
     |bK es hh=>exact absurd rfl cS
     |lit rs=>exact absurd rfl cS
 ·intro o1 o2 x1 x2 hx1 iP gb cS l1 l2 e1 e2 b hb hb2
  rcases ed o1 x1 hx1 with ⟨h1,y,rs,h2,h3,rfl⟩|⟨h1,h2⟩
  ·cases gb
  ·rcases ed o2 x2 iP with ⟨g1,y,rs,g2,g3,rfl⟩|⟨g1,g2⟩
   ·cases cS
   ·exact h.inj o1 o2 x1 x2 h2 g2 gb cS l1 l2 e1 e2 b hb hb2
 ·rcases hb with q|⟨o2,x2,l2,q1,q2,q3,q4⟩
  ·exact h.sn b q
  ·subst q4
   by_cases cS:x2.live=true
   ·right;exact(h.own o2 x2 q2 cS l2 q3 _ (.inl rfl)).1
   ·have hob2:=h.ob o2 x2 q2
    cases x2 with
    |cT rs=>
     rcases hob2 with ⟨q,_⟩|⟨l',vals,q,_,hS,_⟩
     ·simp_all
     ·rw[q]at q3;injection q3 with q3;injection q3 with q3;subst q3
      exact h.sn _ hS
    |rows p rs=>exact absurd rfl cS
    |aw p es=>exact absurd rfl cS
    |bL z fs hh=>exact absurd rfl cS
    |bK es hh=>exact absurd rfl cS
    |lit rs=>exact absurd rfl cS
end
section
variable {C:Cx}{S:Nat→Prop}{w:World}{ι:ax}{P:Program}{un:Nat→Prop}{f:FS}{a:Act}{id:Nat}{o:Oper}
 {next:Act→World→Prop} {Q:Exit→Act→World→Prop}
theorem HK{t:TypeId}{x y:Operand}{ob i c:Nat}{p:Bool}{rs:List (List AV)}{row cs:List AV}{b:Bool}{n:Nat}{v:AV}(cu:o.op=.store t x y)(h:Inv C S ι un f a w)
 (hx:bP S w ι (.ptr ob i c) (a.eval x)) (ho:f.os ob=some (.rows p rs)) (hr:rs[i]? =some row) (hy:bP S w ι v (a.eval y)) (hc:kA v=some cs) (hk:dy P t=some (b,n)) (hlen:cs.length=n)
 (hb:c+n≤row.length) (hd:∀d,o.dst=some d→C.N.lo≤d∧d<C.N.n) (hn:fP C un id o f .undef [(ob,some (.rows (p&&cs.all gY) (rs.set i (setAt row c cs))))] next):o.wp P a w next Q:=by
 obtain⟨l,hl1,hv⟩:=hx.cZ
 obtain⟨hvs,eg⟩:=yf hc hy
 rcases h.ob ob _ ho with ⟨q,_⟩|⟨l',vals,q,hcnt,hm,hat,hrep⟩
 ·simp_all
 ·rw[q]at hl1;injection hl1 with hl1;injection hl1 with hl1;subst hl1
  have hi:=eZ hr
  have zA:=(hrep.get hr).1
  have I2:=hat.2.1 i hi
  have hsz:l'.base+(i*l'.bo+c)+n≤l'.size:=by
   have:(i+1)*l'.bo≤rs.length*l'.bo:=Yr _ hi
   rw[YT]at this
   have:=hat.1
   omega
  have N3:(a.eval y).cells.toList.length=n:=by rw[←hvs.1];exact hlen
  have vh:(storeCells ⟨l'.bd,l'.base+(i*l'.bo+c),none⟩ (a.eval y).cells.toList 0).run P w=
   .ok () (w.setCells l'.bd (l'.base+(i*l'.bo+c)) (a.eval y).cells.toList):=by
   refine V0 _ _ _ 0 w (fun j hj=>?_) (fun j hj=>?_) (fun v hv=>?_)
   ·obtain⟨u,hu⟩:=(hm (l'.base+(i*l'.bo+c)+j)).1 (by omega)
    simp_all
   ·simp only[Nat.add_zero]
    exact(hm (l'.base+(i*l'.bo+c)+j)).2 (.inl (by omega))
   ·exact uA hvs eg v hv
  have hrun:(execOp a.eval o).run P w=.ok .skip (w.setCells l'.bd (l'.base+(i*l'.bo+c)) (a.eval y).cells.toList):=by
   unfold execOp;rw[cu];simp only[Instr.storeAt,hv,Instr.sureAddr,Y7,Sem.run_pure,Result.andThen_ok,storeVar,(pB hk w).2,Sem.run_ite]
   rw[if_neg (by simp_all)]
   simp only[Result.andThen_ok,vh]
  unfold Oper.wp;rw[hrun,Oper.upon_skip]
  have hinv:=h.writes ho rfl q (x':=.rows (p&&cs.all gY) (rs.set i (setAt row c cs))) rfl (l'.base+(i*l'.bo+c)) (a.eval y).cells.toList (fun hw=>
   L3 q hcnt hm hat hrep hr hvs (uA hvs eg) (by omega) hw)
  exact Inv.goes hn hinv (fun x hx=>hx.1) (.bI _ _ (.undef _)) hd
theorem RY{op:Op}{v:AV}{U:List (Nat×Option AO)}{RO:List Nat}(cu:o.op=op)(h:Inv C S ι un f a w)
 (hst:cA P C.G (gD C.G f.g) f.os id op v U RO) (hcall:∀c,op=.call c→∃b,c.callee=.builtin b)
 (hid:∀x,id≤x→x<id+W→un x) (hd:∀d,o.dst=some d→C.N.lo≤d∧d<C.N.n) (hn:fP C un id o f v U next):o.wp P a w next Q:=by
 have lift:∀{s:Sem Value} {v':Value} {w':World},(execOp a.eval o)=(do pure (Next.value (←s)):Sem Next)→s.run P w=.ok v' w'→(execOp a.eval o).run P w=.ok (.value v') w':=by
  intro s v' w' e h1;rw[e];simp only[Y7,h1,Result.andThen_ok,Sem.run_pure]
 cases hst with
 |pure op v hp=>
  subst cu
  obtain⟨v',h1,h2⟩:=P5 h.ev o hp
  exact gJ hn h hd h1 h2
 |more op v U RO hb=>exact Rr cu h hb hid hd hn
 |files op v U RO hb=>exact Q1 cu h hb hid hd hn
 |jr op v U RO hb=>exact Td cu h hb hid hd hn
 |nil z=>
  have hrun:(execOp a.eval o).run P w=.ok (.value (.slice none 0 0)) w:=by unfold execOp;rw[cu];rfl
  unfold Oper.wp;rw[hrun,Oper.upon_value]
  have fD:=h.un id (hid id (Yg _) (by simp[W]))
  have hι:ι.le (fun o=>if o=id then some none else ι o):=by
   intro o y hy
   by_cases e:o=id
   ·simp_all
   ·grind
  have hw:fz S w w:=fun _ _=>rfl
  have hinv:Inv C S (fun o=>if o=id then some none else ι o) (fun o=>un o∧o≠id) {f with os:=ay f.os [(id,some (.rows true []))]} a w:=by
   refine h.hP (fun _ x=>x) hw hι ?_ ?_ ?_ h.sb h.sn (fun o ho=>?_) h.fr
   ·intro o y hy
    simp only[ay]at hy
    by_cases e:o=id
    ·subst e
     simp only[Yi,Y2]at hy;subst hy
     exact .inl ⟨by simp,rfl⟩
    ·simp only[e,Yc]at hy
     exact(h.ob o y hy).mono (fun _ x=>x) hw hι (fun _ _ _ _ _=>rfl)
   ·intro o y hy hly l' hl' b hb
    simp only[ay]at hy
    by_cases e:o=id
    ·simp_all
    ·simp only[e,Yc]at hy hl'
     exact h.own o y hy hly l' hl' b hb
   ·intro o1 o2 y1 y2 hy1 hy2 hl1 dJ l1 l2 e1 e2 b hb hb2
    simp only[ay]at hy1 hy2
    by_cases e:o1=id
    ·simp_all
    ·by_cases e':o2=id
     ·simp_all
     ·simp only[e,e',Yc]at hy1 hy2 e1 e2
      exact h.inj o1 o2 y1 y2 hy1 hy2 hl1 dJ l1 l2 e1 e2 b hb hb2
   ·simp only[ho.2,Yc];exact h.un o ho.1
  exact Inv.goes hn hinv (fun x hx=>⟨hx.1,fun e=>hx.2 ⟨by omega,by subst e;simp[W]⟩⟩) (.fk id z none (by simp)) hd
 |pick c x y t hc=>
  have hcv:=h.ev c
  rw[hc]at hcv
  have hrun:(execOp a.eval o).run P w=.ok (.value (if t then a.eval x else a.eval y)) w:=by
   unfold execOp;rw[cu];simp only[hcv.dp,asBool,Y7,Sem.run_pure,Result.andThen_ok]
  refine gJ hn h hd hrun ?_
  cases t
  ·simpa using h.ev y
  ·simpa using h.ev x
 |alloc t cs hz=>
  obtain⟨z,h1,h2,h3⟩:=LL (w:=w) (S:=S) (ι:=ι) hz
  refine JS hn h hd hid rfl h2 h3 (t:=t) ?_
  refine lift (by unfold execOp;rw[cu]) ?_
  simp only[Instr.alloc,Y7,h1,Result.andThen_ok,newVar,newRow,run_newObj,Sem.run_pure,World.alloc]
 |box t x cs hc=>
  obtain⟨h2,h3⟩:=yf hc (h.ev x)
  refine JS hn h hd hid rfl h2 (uA h2 h3) (t:=t) ?_
  refine lift (by unfold execOp;rw[cu]) ?_
  rfl
 |load t x ob i c p rs row v hev ho hr hl=>
  have hx:=h.ev x
  rw[hev]at hx
  obtain⟨l,hl1,hv⟩:=hx.cZ
  rcases h.ob ob _ ho with ⟨q,_⟩|⟨l',vals,q,hcnt,hm,hat,hrep⟩
  ·simp_all
  ·rw[q]at hl1;injection hl1 with hl1;injection hl1 with hl1;subst hl1
   have hi:=eZ hr
   obtain⟨v',h1,h2⟩:=DL (P:=P) (b0:=l'.base+i*l'.bo) (hrep.get hr) (fun j v hv=>by
    have:=hat.2.2 i j v hi hv
    rw[←WB]at this;exact this) hl
   refine gJ hn h hd (lift (by unfold execOp;rw[cu]) ?_) h2
   unfold Instr.loadAt;rw[hv];simp only[Instr.sureAddr,Y7,Sem.run_pure,Result.andThen_ok]
   grind
 |nN t x ob i c rs row v hev ho hr hl=>
  have hx:=h.ev x
  rw[hev]at hx
  obtain⟨l,hl1,hv⟩:=hx.cZ
  rcases h.ob ob _ ho with ⟨q,_⟩|⟨l',vals,q,hcnt,hm,hat,hrep⟩
  ·simp_all
  ·rw[q]at hl1;injection hl1 with hl1;injection hl1 with hl1;subst hl1
   have hi:=eZ hr
   obtain⟨v',h1,h2⟩:=DL (P:=P) (b0:=l'.base+i*l'.bo) (hrep.get hr) (fun j v hv=>by
    have:=hat.2.2 i j v hi hv
    rw[←WB]at this;exact this) hl
   refine gJ hn h hd (lift (by unfold execOp;rw[cu]) ?_) h2
   unfold Instr.loadAt;rw[hv];simp only[Instr.sureAddr,Y7,Sem.run_pure,Result.andThen_ok]
   grind
 |nM t x row c v hev hl=>
  have hx:=h.ev x
  rw[hev]at hx
  obtain⟨bd,base,vals,hv,hS,hL,hcell⟩:=JJ hx
  obtain⟨v',h1,h2⟩:=DL (P:=P) (ι:=ι) hL.rep hcell hl
  refine gJ hn h hd (lift (by unfold execOp;rw[cu]) ?_) h2
  unfold Instr.loadAt;rw[hv];simp only[Instr.sureAddr,Y7,Sem.run_pure,Result.andThen_ok];exact h1
 |store t x y ob i c p rs row cs b n hev ho hr hc hk hlen hb=>
  have hx:=h.ev x
  rw[hev]at hx;exact HK cu h hx ho hr (h.ev y) hc hk hlen hb hd hn
 |lp t x y ob i c p rs row b q z xs hev ho hr pw hq hne hk hb=>
  have hU:frozen [q] f.os 8=some [(q,some (.cT xs))]:=by simp[frozen,ko,hq,oX]
  have h':=h.freeze hU
  have hv:=wk (V:=[q]) h.ob 8 (.an q z) (a.eval y) (.sl xs) (by rw[←pw];exact h.ev y) (by simp[ft,hq,oX])
  have hx:=h'.ev x
  rw[hev]at hx
  refine HK (id:=id) cu h' hx (p:=p) (rs:=rs) (row:=row) (cs:=[.sl xs]) ?_ hr (.bI _ _ hv) (by rfl) hk rfl hb hd ?_
  ·show ay f.os [(q,some (.cT xs))] ob=_
   simp only[ay,if_neg hne];exact ho
  ·intro S' ι' a' w' hi
   refine hn S' ι' a' w' ?_
   have e:FS.eO {f with os:=ay f.os [(q,some (.cT xs))]} o.dst .undef [(ob,some (.rows (p&&[AV.sl xs].all gY) (rs.set i (setAt row c [.sl xs]))))]=
    f.eO o.dst .undef [(ob,some (.rows (p&&[AV.sl xs].all gY) (rs.set i (setAt row c [.sl xs])))),(q,some (.cT xs))]:=by
    unfold FS.eO FS.put
    cases o.dst<;>rfl
   simp_all
 |lr t x y ob i c p rs row b z hev ho hr pw hk hb=>
  obtain⟨ι',hle,hι',h'⟩:=h.void (iy hid) true
  have hne:ob≠id:=h.pQ (iy hid) ho
  have hx:=h.ev x
  rw[hev]at hx
  have hx':=hx.mono (fun _ x=>x) (fun _ _=>rfl) hle
  have hv:bP S w ι' (.an id z) (a.eval y):=by
   have hy:=h.ev y
   rw[pw]at hy;generalize a.eval y=v at hy
   cases hy with
   |bI _ _ hh=>cases hh with|dq ad=>exact .fk id z ad hι'
  refine HK (id:=id) cu h' hx' (p:=p) (rs:=rs) (row:=row) (cs:=[.an id z]) ?_ hr hv (by rfl) hk rfl hb hd ?_
  ·show ay f.os [(id,some (.rows true []))] ob=_
   simp only[ay,if_neg hne];exact ho
  ·intro S' ι2 a' w' hi
   refine hn S' ι2 a' w' ?_
   have e:FS.eO {f with os:=ay f.os [(id,some (.rows true []))]} o.dst .undef [(ob,some (.rows (p&&[AV.an id z].all gY) (rs.set i (setAt row c [.an id z]))))]=
    f.eO o.dst .undef [(ob,some (.rows (p&&[AV.an id z].all gY) (rs.set i (setAt row c [.an id z])))),(id,some (.rows true []))]:=by
    unfold FS.eO FS.put
    cases o.dst<;>rfl
   rw[←e];exact hi.less (fun x hx=>⟨⟨hx.1,fun e=>hx.2 ⟨by omega,by subst e;simp[W]⟩⟩,hx.2⟩)
 |nR t e x ix xs k n row b hev hix h0 hr ht hk=>
  have hx:=h.ev x
  have hi:=h.ev ix
  rw[hev]at hx;rw[hix]at hi
  obtain⟨ab,cap,sz,vals,hv,hsp,hS,hsz,hL,hcell⟩:=PR hx hr
  have hlt:=eZ hr
  refine gJ hn h hd (lift (by unfold execOp;rw[cu]) (by
   rw[hv,hi.bu];exact HC ht hk h0 (by omega) hsp)) ?_
  have:=bR.rp row 0 ab.block (ab.off+n.toNat*sz) vals hS hL.1 (fun j v hv=>hcell j v hv) hL.2
  rw[hsz];exact .bI _ _ this
 |lA t e x ix ob z k n y rs row b hev hix h0 ho hy hr ht hk=>
  have hx:=h.ev x
  have hi:=h.ev ix
  rw[hev]at hx;rw[hix]at hi
  have hlt:=eZ hr
  rcases xF (h.ob ob _ ho) hy with ⟨q,rfl⟩|⟨l,vals,q,hcnt,hat,hrep⟩
  ·simp at hr
  ·rcases kp hx with ⟨l',ab,cap,q',hv,hc1,hc2,z8,_,ha⟩|⟨q',_⟩
   ·rw[q]at q';injection q' with q';injection q' with q';subst q'
    have gr:=ha (by omega)
    have zA:=(hrep _ _ hr).1
    have I2:=hat.2.1 _ hlt
    refine gJ hn h hd (lift (by unfold execOp;rw[cu]) (by
     rw[hv,hi.bu];exact HC ht hk h0 (by omega) (by rw[gr]))) ?_
    rw[gr]
    have:=bP.ptr (S:=S) (w:=w) (ι:=ι) ob n.toNat 0 l q
    simp_all
   simp_all
 |lB t e x ix ob off len room k n y rs row b hev hix h0 h1 ho hy hr ht hk=>
  have hx:=h.ev x
  have hi:=h.ev ix
  rw[hev]at hx;rw[hix]at hi
  have hlt:=eZ hr
  rcases xF (h.ob ob _ ho) hy with ⟨q,rfl⟩|⟨l,vals,q,hcnt,hat,hrep⟩
  ·simp at hr
  ·rcases vY hx with ⟨l',ab,cap,q',hv,hc1,hc2,z8,Zk,Zj,ha⟩|⟨q',_⟩
   ·rw[q]at q';injection q' with q';injection q' with q';subst q'
    have gr:=ha (by omega)
    have zA:=(hrep _ _ hr).1
    have I2:=hat.2.1 _ hlt
    refine gJ hn h hd (lift (by unfold execOp;rw[cu]) (by
     rw[hv,hi.bu];exact HC ht hk h0 (by omega) (by rw[gr]))) ?_
    rw[gr]
    have:=bP.ptr (S:=S) (w:=w) (ι:=ι) ob (off+n.toNat) 0 l q
    grind
   omega
 |lC t e x ix ob r c len sz k n b hev hix h0 h1 ht hk=>
  have hx:=h.ev x
  have hi:=h.ev ix
  rw[hev]at hx;rw[hix]at hi
  obtain⟨l,hl1,hv⟩:=hx.cZ
  refine gJ hn h hd (lift (by unfold execOp;rw[cu]) (by
   rw[hv,hi.bu];exact LY ht hk h0 h1)) ?_
  have:=bP.ptr (S:=S) (w:=w) (ι:=ι) ob r (c+n.toNat*sz) l hl1
  grind
 |jC t e x ix row c len sz k n b hev hix h0 h1 ht hk=>
  have hx:=h.ev x
  have hi:=h.ev ix
  rw[hev]at hx;rw[hix]at hi
  obtain⟨bd,base,vals,hv,hS,hL,hcell⟩:=JJ hx
  refine gJ hn h hd (lift (by unfold execOp;rw[cu]) (by
   rw[hv,hi.bu];exact LY ht hk h0 h1)) ?_
  rw[WB];exact .bI _ _ (.rp row _ bd base vals hS hL.1 hcell hL.2)
 |nA t x ix l k n c hev hix h0 hr ht=>
  have hx:=h.ev x
  have hi:=h.ev ix
  rw[hev]at hx;rw[hix]at hi
  refine gJ hn h hd (lift (by unfold execOp;rw[cu]) ?_) (.bI _ _ (.int _ _))
  rw[hx.cx,hi.bu];unfold Instr.index
  have hb:(⟨l.toArray⟩:ByteArray)[n.toNat]? =some c:=by
   have hlt:=eZ hr
   have hs:n.toNat<(⟨l.toArray⟩:ByteArray).size:=by show n.toNat<l.toArray.size;simpa using hlt
   rw[ByteArray.getElem?_lt' _ _ hs]
   rw[Y3 hlt]at hr
   rw[←hr];rfl
  simp only[asIntOf,Y7,Sem.run_pure,Result.andThen_ok,Y6 ht,h0,Yi,hb]
 |od t e x ix cs len sz k n b v hev hix h0 h1 ht hk hl=>
  have hx:=h.ev x
  have hi:=h.ev ix
  rw[hev]at hx;rw[hix]at hi
  obtain⟨vs,hv,hL⟩:=hx.dG
  obtain⟨v',hp1,hp2⟩:=J9 hL hl
  refine gJ hn h hd (lift (by unfold execOp;rw[cu]) ?_) hp2
  rw[hv,hi.bu];unfold Instr.index;simp only[asIntOf,Y7,Sem.run_pure,Result.andThen_ok,Y6 ht,(pB hk w).2,Sem.run_ite];simp_all
 |quo t t' x y k m n hx hy h0=>
  have h1:=h.ev x;have h2:=h.ev y
  rw[hx]at h1;rw[hy]at h2
  refine gJ hn h hd (lift (by unfold execOp;rw[cu]) ?_) (.bI _ _ (.int _ _))
  rw[h1.bu,h2.bu];simp only[eqGuard_quo,Y7,Sem.run_pure,Result.andThen_ok,binOp_quo,Op.intDiv,h0,Yc]
 |rem t t' x y k m n hx hy h0=>
  have h1:=h.ev x;have h2:=h.ev y
  rw[hx]at h1;rw[hy]at h2
  refine gJ hn h hd (lift (by unfold execOp;rw[cu]) ?_) (.bI _ _ (.int _ _))
  rw[h1.bu,h2.bu];simp only[eqGuard_rem,Y7,Sem.run_pure,Result.andThen_ok,binOp_rem,Op.intDiv,h0,Yc]
 |shl t t' x y k k' m n hx hy h0=>
  have h1:=h.ev x;have h2:=h.ev y
  rw[hx]at h1;rw[hy]at h2
  refine gJ hn h hd (lift (by unfold execOp;rw[cu]) ?_) (.bI _ _ (.int _ _))
  rw[h1.bu,h2.bu];simp only[eqGuard_shl,Y7,Sem.run_pure,Result.andThen_ok,binOp_shl,Op.shift]
  rw[if_neg (by omega)]
  rfl
 |shr t t' x y k k' m n hx hy h0=>
  have h1:=h.ev x;have h2:=h.ev y
  rw[hx]at h1;rw[hy]at h2
  refine gJ hn h hd (lift (by unfold execOp;rw[cu]) ?_) (.bI _ _ (.int _ _))
  rw[h1.bu,h2.bu];simp only[eqGuard_shr,Y7,Sem.run_pure,Result.andThen_ok,binOp_shr,Op.shift]
  rw[if_neg (by omega)]
  rfl
 |cat t t' x y l1 l2 hx hy hlen=>
  have h1:=h.ev x;have h2:=h.ev y
  rw[hx]at h1;rw[hy]at h2
  refine gJ hn h hd (lift (by unfold execOp;rw[cu]) ?_) (.bI _ _ (bR.jm (l1++l2)))
  rw[h1.cx,h2.cx]
  have e1:(⟨l1.toArray⟩:ByteArray).size=l1.length:=by show l1.toArray.size=_;simp
  have e2:(⟨l2.toArray⟩:ByteArray).size=l2.length:=by show l2.toArray.size=_;simp
  simp only[eqGuard_add,Y7,Sem.run_pure,Result.andThen_ok,binOp_string_add,Op.stringOp,e1,e2]
  rw[if_neg (by simp only[IntKind.max_i64];omega)]
  rfl
 |si t t' e x xs hx ht=>
  have h1:=h.ev x
  rw[hx]at h1
  cases h1 with
  |bI _ _ h1=>
   generalize hv:a.eval x=u at h1
   cases h1 with
   |fI=>
    refine gJ hn h hd (v':=.bool true) (lift (by unfold execOp;rw[cu]) ?_) (.bI _ _ (.eh _ true fun _=>rfl))
    rw[hv]
    simp only[show a.eval (.const (.slice none 0 0))=.slice none 0 0 from rfl,eqGuard_at_slice,Y7,Sem.run_pure,Result.andThen_ok]
    exact run_eql_slice_nil w t e none 0 0 ht
   |sl xs a' cap sz vals h2 h3 h4 h5 h6 h7=>
    refine gJ hn h hd (v':=.bool false) (lift (by unfold execOp;rw[cu]) ?_) (.bI _ _ (.eh _ false fun e=>by cases e))
    rw[hv]
    simp only[show a.eval (.const (.slice none 0 0))=.slice none 0 0 from rfl,eqGuard_at_slice,Y7,Sem.run_pure,Result.andThen_ok]
    exact run_eql_slice_nil w t e (some a') xs.length cap ht
 |nY t t' x y cs ds r hx hy hp hg hst hc1 hc2 he=>
  have h1:=h.ev x;have h2:=h.ev y
  rw[hx]at h1;rw[hy]at h2
  obtain⟨us,hu,vL⟩:=h1.dG
  obtain⟨vs,hv,sI⟩:=h2.dG
  refine gJ hn h hd (lift (by unfold execOp;rw[cu]) ?_) (.bI _ _ (.bool r))
  rw[hu,hv]
  have:=Gy vL sI hp hc1 hc2 he hst
  simp only[Y7,run_eqGuard_agg w _ t _ _ _ _ hg,Result.andThen_ok,run_eql_struct,this]
 |nI t t' x y cs ds r hx hy hp hg hst hc1 hc2 he=>
  have h1:=h.ev x;have h2:=h.ev y
  rw[hx]at h1;rw[hy]at h2
  obtain⟨us,hu,vL⟩:=h1.dG
  obtain⟨vs,hv,sI⟩:=h2.dG
  refine gJ hn h hd (lift (by unfold execOp;rw[cu]) ?_) (.bI _ _ (.bool (!r)))
  rw[hu,hv]
  have:=Gy vL sI hp hc1 hc2 he hst
  simp only[Y7,run_eqGuard_agg w _ t _ _ _ _ hg,Result.andThen_ok,run_neq_struct,this]
 |jX x ts args t e ob z y rs ha mI ht hev ho hy=>
  have hx:=h.ev x
  rw[hev]at hx
  have hrun:∀base cap,a.eval x=.slice base rs.length cap→(execOp a.eval o).run P w=.ok (.value (.int .i64 rs.length)) w:=by
   intro base cap hv;unfold execOp;rw[cu]
   have lS:(args.map a.eval)[0]? =some (.slice base rs.length cap):=by simp[ha,hv]
   simp[resolve,invoke,builtin,Builtin.len_,mI,lS,Y6 ht,goInt]
  rcases xF (h.ob ob _ ho) hy with ⟨q,rfl⟩|⟨l,vals,q,hcnt,hat,hrep⟩
  ·rcases kp hx with ⟨l',ab,cap,q',_⟩|⟨q',ab,hv⟩
   ·simp_all
   ·exact gJ hn h hd (hrun _ _ hv) (.bI _ _ (.int _ _))
  ·rcases kp hx with ⟨l',ab,cap,q',hv,_⟩|⟨q',ab,hv⟩
   ·rw[q]at q';injection q' with q';injection q' with q';subst q'
    exact gJ hn h hd (hrun (some ab) cap (by simp_all)) (.bI _ _ (.int _ _))
   simp_all
 |call fn args ts f' cap V n bD rv hev=>simp_all
 |mB fn args ts f' cap V n bD rv os' U hev=>simp_all
 |k9 fn args ts f' cap V oin bD rv os' hev=>simp_all
end
theorem Qt{σ:Nat→Nat}:∀(os':List (Nat×AO)) (base:Nat→Option AO) (T:List (Nat×Option AO)),
 (∀e e',e∈os'→e'∈os'→σ e.1=σ e'.1→e.1=e'.1)→
 (∀j x,lk os' j=some x→ay base (os'.map (fun e=>(σ e.1,some (cC σ e.2)))++T) (σ j)=some (cC σ x))∧
 (∀o,(∀e,e∈os'→σ e.1≠o)→ay base (os'.map (fun e=>(σ e.1,some (cC σ e.2)))++T) o=ay base T o):=by
 intro os'
 induction os' with
 |nil=>intro base T _;exact⟨fun j x h=>by simp[lk]at h,fun o _=>rfl⟩
 |cons e r ih=>
  intro base T p9
  obtain⟨h1,h2⟩:=ih base T (fun a b ha hb=>p9 a b (Yk _ ha) (Yk _ hb))
  constructor
  ·intro j x h
   simp only[lk]at h;simp only[Yp,YJ,ay]
   by_cases hj:j=e.1
   ·simp_all
   ·rw[if_neg hj]at h
    have hm:∃x',(j,x')∈r:=by
     clear h1 h2 ih p9
     induction r with
     |nil=>simp[lk]at h
     |cons q r ih=>
      simp only[lk]at h
      grind
    obtain⟨x',hx'⟩:=hm
    have:σ j≠σ e.1:=fun q=>hj (p9 (j,x') e (Yk _ hx') Yl q)
    grind
  ·intro o ho
   simp only[Yp,YJ,ay]
   grind
theorem Le:∀{os:List (Nat×AO)} {e:Nat×AO},e∈os→∃x,lk os e.1=some x:=by
 intro os
 induction os with
 |nil=>simp
 |cons q r ih=>
  intro e h
  by_cases hq:e.1=q.1
  ·exact⟨q.2,by simp[lk,hq]⟩
  ·rcases Yh.1 h with rfl|h
   ·omega
   ·obtain⟨x,hx⟩:=ih h
    exact⟨x,by simp[lk,hq,hx]⟩
theorem TJ(base:Nat→Option AO):∀(V:List Nat) (o:Nat),ay base (V.map fun o=>(o,none)) o=if o∈V then none else base o:=by
 intro V
 induction V with
 |nil=>intro o;rfl
 |cons k r ih=>
  intro o;simp only[Yp,ay,ih,Yh]
  grind
section
variable {C:Cx}{S:Nat→Prop}{w:World}{ι:ax}{P:Program}{un:Nat→Prop}{f:FS}{a:Act}{id:Nat}{o:Oper}
 {next:Act→World→Prop} {Q:Exit→Act→World→Prop}
theorem G9{fn:Operand}{args:Array Operand}{ts:Array TypeId}(cu:o.op=.call {callee:=.value fn,args:=args,argTypes:=ts}){sO:Nat}{vs:Array Value}
 (hfn:a.eval fn=.func (.func sO) #[] vs) (hc:eF P sO=true):(execOp a.eval o).run P w=.ok (.enter sO (args.map a.eval++vs)) w:=by
 unfold execOp;rw[cu];simp only[resolve,hfn,Deferred.ofValue,Y7,Sem.run_pure,Result.andThen_ok,invoke,Hn hc,Array.empty_append]
theorem Fr.then{Ow:Nat→Prop}{w0 w w':World}(h:Fr Ow w0 w)(h':Fr (dx w (fun _=>none) []) w w'):Fr Ow w0 w':=by
 have hold:∀b,b<w.heap.size→w'.heap[b]? =w.heap[b]? :=fun b hb=>h'.old b hb (by
  rintro(q|⟨o,x,l,q,_⟩)
  all_goals grind)
 exact⟨h'.os.trans h.os,h'.output.trans h.output,YZ h.size h'.size,fun b hb hn=>by
  rw[hold b (by have:=h.size;omega)];exact h.old b hb hn⟩
theorem Kq{op:Op}{v:AV}{U:List (Nat×Option AO)}{RO:List Nat}(cu:o.op=op)(h:Inv C S ι un f a w)
 (hst:cA P C.G (gD C.G f.g) f.os id op v U RO) (hid:∀x,id≤x→x<id+W→un x) (hd:∀d,o.dst=some d→C.N.lo≤d∧d<C.N.n) (hn:fP C un id o f v U next):
 o.wp P a w next Q:=by
 by_cases hcall:∀c,op=.call c→∃b,c.callee=.builtin b
 ·exact RY cu h hst hcall hid hd hn
 cases hst with
 |call fn args ts sO cap _ n bD _ hev hv hf hfl=>
  have hx:=h.ev fn
  rw[hev]at hx
  obtain⟨vs,tR,hL⟩:=hx.gC
  rw[vQ (A6 hf.1)]at tR
  have iZ:az S w ι (args.toList.map (gD C.G f.g)++cap) (args.map a.eval++vs).toList:=by
   rw[Array.toList_append,WY];exact(az.map h.ev _).append hL
  have hcl:=Ls (V:=RO) h.ob iZ hv
  have CJ:=mH h RO
  unfold Oper.wp;rw[G9 cu tR hf.1,Oper.upon_enter]
  have ka:=hf.2.2 (SV S ι f.os RO) (fun _=>none) w (args.map a.eval++vs) CJ (fun g row hg=>(h.gv g row hg).mono (fun b hb=>.inl hb) (fun _ _=>rfl))
   ⟨fun o x hx=>by simp[lk]at hx,fun o x hx=>by simp,fun o o' x x' hx=>by simp⟩ (fun _ _=>rfl) hcl.rep
  refine ka.mono ?_
  rintro e w' ⟨v',S',ι',rfl,hfr,hS1,hS2,hle,hιW,hrep,hob'⟩
  have hold:∀b,b<w.heap.size→w'.heap[b]? =w.heap[b]? :=fun b hb=>hfr.old b hb (by
   rintro(q|⟨o,x,l,q,_⟩)
   all_goals grind)
  have hw:fz S w w':=fun b hb=>hold b (h.sb b hb)
  have hinv:Inv C S ι un {f with os:=ay f.os []} a w':=by
   refine h.hP (fun _ x=>x) hw (ax.le_refl _) (fun o' x hx=>(h.ob o' x hx).mono (fun _ x=>x) hw (ax.le_refl _) (fun l hl hlv b hb=>hold _ (h.own o' x hx hlv l hl b hb).2.2))
    (fun o' x hx hlv l hl b hb=>?_) (fun o o' x x' hx hx' h1 h2 l l' e1 e2 b b1 b2=>h.inj o o' x x' hx hx' h1 h2 l l' e1 e2 b (eP (fun b hb=>hold b (h.own o x hx h1 l e1 b hb).2.2) b1) (eP (fun b hb=>hold b (h.own o' x' hx' h2 l' e2 b hb).2.2) b2)) (fun b hb=>?_) h.sn h.un (h.fr.then hfr)
   ·have:=h.own o' x hx hlv l hl b (eP (fun b hb=>hold b (h.own o' x hx hlv l hl b hb).2.2) hb)
    grind
   ·have:=h.sb b hb;grind
  exact Inv.goes hn hinv (fun x hx=>hx.1) (.bI _ _ (hrep.flat hfl)) hd
 |mB fn args ts sO cap _ n bD rv os' U hev hv hf hU=>
  have hx:=h.ev fn
  rw[hev]at hx
  obtain⟨vs,tR,hL⟩:=hx.gC
  rw[vQ (A6 hf.1)]at tR
  have iZ:az S w ι (args.toList.map (gD C.G f.g)++cap) (args.map a.eval++vs).toList:=by
   rw[Array.toList_append,WY];exact(az.map h.ev _).append hL
  have hcl:=Ls (V:=RO) h.ob iZ hv
  have CJ:=mH h RO
  unfold Oper.wp;rw[G9 cu tR hf.1,Oper.upon_enter]
  have ka:=hf.2.2 (SV S ι f.os RO) (fun _=>none) w (args.map a.eval++vs) CJ (fun g row hg=>(h.gv g row hg).mono (fun b hb=>.inl hb) (fun _ _=>rfl))
   ⟨fun o x hx=>by simp[lk]at hx,fun o x hx=>by simp,fun o o' x x' hx=>by simp⟩ (fun _ _=>rfl) hcl.rep
  refine ka.mono ?_
  rintro e w' ⟨v',S',ι',rfl,hfr,Ag,hS2,hle,hιW,hrep,hob'⟩
  have hS1:∀b,S' b→(SV S ι f.os RO b∨w.heap.size≤b)∧b<w'.heap.size:=fun b hb=>⟨(Ag b hb).1.imp (fun q=>q) (by
   rintro(q|⟨o,x,l,q,_⟩)
   all_goals simp_all),(Ag b hb).2⟩
  have hold:∀b,b<w.heap.size→w'.heap[b]? =w.heap[b]? :=fun b hb=>hfr.old b hb (by
   rintro(q|⟨o,x,l,q,_⟩)
   all_goals grind)
  have Jm:∀b,S b→S' b:=fun b hb=>hS2 b (.inl hb)
  have hw:fz S w w':=fun b hb=>hold b (h.sb b hb)
  have I0:fz (SV S ι f.os RO) w w':=fun b hb=>hold b (CJ b hb)
  have sB:=hf.2.1
  let ι2:ax:=fun x=>if id≤x∧x<id+W then ι' (x-id)else ι x
  have hι2:ι.le ι2:=by
   intro x y hxy
   by_cases hc:id≤x∧x<id+W
   ·rw[h.un x (hid x hc.1 hc.2)]at hxy;cases hxy
   ·grind
  have hσ:∀x y,ι' x=some y→ι2 (id+x)=some y:=by
   intro x y hxy
   have hx:x<W:=by
    rcases YY x W with q|q
    ·exact q
    ·simp_all
   simp only[ι2]
   rw[if_pos ⟨by omega,by omega⟩]
   rw[show id+x-id=x by omega];exact hxy
  have jn:∀o,id≤o→∀x,lk os' (o-id)=some x→ca S' w' ι2 o (cC (id+ ·) x):=by
   intro o ho x hx
   have:=(hob'.ob _ x hx).pr (σ:=(id+ ·)) hσ
   rw[show id+(o-id)=o by omega]at this;exact this
  have gh:∀o,id≤o→∀x,lk os' (o-id)=some x→x.live=true→∀l,ι2 o=some (some l)→∀b,cj w' x l b→w.heap.size≤b∧¬S' b∧b<w'.heap.size∧ι' (o-id)=some (some l):=by
   intro o ho x hx hlv l hl b hb
   have hlt:=sB _ _ hx
   simp only[ι2]at hl
   rw[if_pos ⟨ho,by omega⟩]at hl
   have:=hob'.own _ x hx hlv l hl b hb
   refine⟨?_,this.2.1,this.2.2,hl⟩
   rcases this.1 with q|⟨o,x,l,q,_⟩
   ·exact q
   ·simp_all
  have j7:∀o x,f.os o=some x→¬(id≤o∧o<id+W):=by
   intro o x hx hc
   have fD:=h.un o (hid o hc.1 hc.2)
   have:=h.ob o x hx
   cases x with
   |rows p rs=>rcases this with ⟨q,_⟩|⟨l,vals,q,_⟩<;>(simp_all)
   |cT rs=>rcases this with ⟨q,_⟩|⟨l,vals,q,_⟩<;>(simp_all)
   |aw p es=>obtain⟨l,xs,c,q,_⟩:=this;simp_all
   |bL z fs hh=>obtain⟨l,xs,c,q,_⟩:=this;simp_all
   |bK es hh=>obtain⟨l,xs,c,q,_⟩:=this;simp_all
   |lit rs=>obtain⟨l,vals,q,_⟩:=this;simp_all
  have fZ:∀o x,f.os o=some x→∀l,ι2 o=some (some l)→ι o=some (some l):=by
   intro o x hx l hl;simp only[ι2]at hl;rw[if_neg (j7 o x hx)]at hl;exact hl
  have ed:∀o x,ay f.os (U++oW id os') o=some x→
   (o∈RO∧∃y rs,f.os o=some y∧oX (ft RO f.os n) y=some rs∧x=.cT rs)∨
   (o∉RO∧id≤o∧∃x',lk os' (o-id)=some x'∧x=cC (id+ ·) x')∨(o∉RO∧f.os o=some x):=by
   intro o x hx;rw[Mt]at hx
   rcases Lc hU (ay f.os (oW id os')) o with ⟨h1,y,rs,h2,h3,h4⟩|⟨h1,h2⟩
   ·simp_all
   ·rw[h2,Lp]at hx
    split at hx
    ·rename_i hc
     obtain⟨x',hx'⟩:=YW.1 hc.2
     simp_all
    simp_all
  have hinv:Inv C S' ι2 (fun x=>un x∧¬(id≤x∧x<id+W)) {f with os:=ay f.os (U++oW id os')} a w':=by
   refine h.hP Jm hw hι2 ?_ ?_ ?_ (fun b hb=>(hS1 b hb).2) (fun b hb=>?_) (fun o ho=>?_) (h.fr.then hfr)
   ·intro o x hx
    rcases ed o x hx with ⟨h1,y,rs,h2,h3,rfl⟩|⟨h1,h2,x',h3,rfl⟩|⟨h1,h2⟩
    ·rcases Be (wk h.ob n) (h.ob o y h2) h3 with ⟨q,rfl⟩|⟨l,vals,q,hcnt,hat,xm⟩
     ·exact .inl ⟨hι2 _ _ q,rfl⟩
     ·have hb:SV S ι f.os RO l.bd:=.inr ⟨o,y,l,h1,h2,q,rfl⟩
      refine .inr ⟨l,vals,hι2 _ _ q,hcnt,hS2 _ hb,⟨hat.1,hat.2.1,fun i j v hi hv=>?_⟩,fun i r hr=>?_⟩
      ·rw[lh (I0 _ hb)];exact hat.2.2 i j v hi hv
      ·simp only[Yi];exact(xm i r hr).mono hS2 I0
    ·simp_all
    ·exact(h.ob o x h2).mono Jm hw hι2 (fun l hl hlv b hb=>hold _ (h.own o x h2 hlv l hl b hb).2.2)
   ·intro o x hx hlv l hl b hb
    rcases ed o x hx with ⟨h1,y,rs,h2,h3,rfl⟩|⟨h1,h2,x',h3,rfl⟩|⟨h1,h2⟩
    ·cases hlv
    ·rw[mE]at hlv
     have:=gh o h2 x' h3 hlv l hl b (pz hb)
     exact⟨h.fo _ (YZ h.fr.size this.1),this.2.1,this.2.2.1⟩
    ·have hl':=fZ o x h2 l hl
     have hb:=eP (fun b hb=>hold b (h.own o x h2 hlv l hl' b hb).2.2) hb
     have:=h.own o x h2 hlv l hl' b hb
     refine⟨this.1,fun hs=>?_,by grind⟩
     rcases(hS1 _ hs).1 with (q|⟨o2,x2,l2,q1,q2,q3,q4⟩)|q
     ·simp_all
     ·by_cases cS:x2.live=true
      ·have:=h.inj o o2 x x2 h2 q2 hlv cS l l2 hl' q3 b hb (.inl q4)
       simp_all
      ·have hob2:=h.ob o2 x2 q2
       cases x2 with
       |cT rs=>
        rcases hob2 with ⟨q,_⟩|⟨l',vals,q,_,hS,_⟩
        all_goals simp_all
       |rows p rs=>exact absurd rfl cS
       |aw p es=>exact absurd rfl cS
       |bL z fs hh=>exact absurd rfl cS
       |bK es hh=>exact absurd rfl cS
       |lit rs=>exact absurd rfl cS
     ·omega
   ·intro o1 o2 x1 x2 hx1 iP gb cS l1 l2 e1 e2 b hb hb2
    rcases ed o1 x1 hx1 with ⟨h1,y,rs,h2,h3,rfl⟩|⟨h1,h2,II,h3,rfl⟩|⟨h1,h2⟩
    ·cases gb
    ·rw[mE]at gb
     have b1:=gh o1 h2 II h3 gb l1 e1 b (pz hb)
     rcases ed o2 x2 iP with ⟨g1,y,rs,g2,g3,rfl⟩|⟨g1,g2,Cm,g3,rfl⟩|⟨g1,g2⟩
     ·cases cS
     ·rw[mE]at cS
      have b2:=gh o2 g2 Cm g3 cS l2 e2 b (pz hb2)
      have:=hob'.inj _ _ II Cm h3 g3 gb cS l1 l2 b1.2.2.2 b2.2.2.2 b (pz hb) (pz hb2)
      omega
     ·have:=h.own o2 x2 g2 cS l2 (fZ o2 x2 g2 l2 e2) b (eP (fun b hb=>hold b (h.own o2 x2 g2 cS l2 (fZ o2 x2 g2 l2 e2) b hb).2.2) hb2)
      omega
    ·have hb:=eP (fun b hb=>hold b (h.own o1 x1 h2 gb l1 (fZ o1 x1 h2 l1 e1) b hb).2.2) hb
     have b1:=h.own o1 x1 h2 gb l1 (fZ o1 x1 h2 l1 e1) b hb
     rcases ed o2 x2 iP with ⟨g1,y,rs,g2,g3,rfl⟩|⟨g1,g2,Cm,g3,rfl⟩|⟨g1,g2⟩
     ·cases cS
     ·rw[mE]at cS
      have b2:=gh o2 g2 Cm g3 cS l2 e2 b (pz hb2)
      omega
     ·exact h.inj o1 o2 x1 x2 h2 g2 gb cS l1 l2 (fZ o1 x1 h2 l1 e1) (fZ o2 x2 g2 l2 e2) b hb (eP (fun b hb=>hold b (h.own o2 x2 g2 cS l2 (fZ o2 x2 g2 l2 e2) b hb).2.2) hb2)
   ·rcases(hS1 b hb).1 with (q|⟨o2,x2,l2,q1,q2,q3,q4⟩)|q
    ·exact h.sn b q
    ·subst q4
     by_cases cS:x2.live=true
     ·right;exact(h.own o2 x2 q2 cS l2 q3 _ (.inl rfl)).1
     ·have hob2:=h.ob o2 x2 q2
      cases x2 with
      |cT rs=>
       rcases hob2 with ⟨q,_⟩|⟨l',vals,q,_,hS,_⟩
       ·simp_all
       ·rw[q]at q3;injection q3 with q3;injection q3 with q3;subst q3
        exact h.sn _ hS
      |rows p rs=>exact absurd rfl cS
      |aw p es=>exact absurd rfl cS
      |bL z fs hh=>exact absurd rfl cS
      |bK es hh=>exact absurd rfl cS
      |lit rs=>exact absurd rfl cS
    ·right;exact h.fo _ (YZ h.fr.size q)
   ·simp only[ι2]
    rw[if_neg ho.2];exact h.un o ho.1
  exact Inv.goes hn hinv (fun x hx=>hx) (hrep.pr hσ) hd
 |k9 fn args ts sO cap _ oin bD rv os' hev hh hf=>
  have hx:=h.ev fn
  rw[hev]at hx
  obtain⟨vs,tR,hL⟩:=hx.gC
  rw[vQ (A6 hf.1)]at tR
  have iZ:az S w ι (args.toList.map (gD C.G f.g)++cap) (args.map a.eval++vs).toList:=by
   rw[Array.toList_append,WY];exact(az.map h.ev _).append hL
  obtain⟨hok,j6,nV,qf⟩:=hh
  generalize RO=V at hok j6 nV qf hn;simp only[Y9,Yx]at hok
  obtain⟨⟨pZ,hb1⟩,hb2⟩:=hok
  have hlen:oin.length=V.length:=by
   have:=YF List.length j6
   simpa using this
  let σ:=bk V id
  let ι0:=ιback ι σ V.length
  have FR:∀j (hj:j<V.length),σ j=V[j]:=fun j hj=>by simp[σ,bk,hj]
  have hin:∀j x,lk oin j=some x→∃(hj:j<V.length),(∃y,f.os V[j]=some y∧fT y (cC σ x))∧cE V.length x=true:=by
   intro j x lV
   have hm:(j,x)∈oin:=by
    clear j6 nV hlen hf hb2
    induction oin with
    |nil=>simp[lk]at lV
    |cons e r ih=>
     simp only[lk]at lV
     grind
   obtain⟨i,hi,Jb⟩:=Wg hm
   have ji:(oin.map (·.1))[i]? =some j:=by rw[Yn,Y3 hi,Jb];rfl
   rw[j6,List.getElem?_range (by omega)]at ji
   injection ji with ji
   subst ji
   have hj:i<V.length:=by omega
   refine⟨hj,?_,YG.1 hb2 _ hm⟩
   have ho:(oin.map fun e=>some (cC σ e.2))[i]? =some (some (cC σ x)):=by rw[Yn,Y3 hi,Jb];rfl
   have hv:(V.map f.os)[i]? =some (f.os V[i]):=by rw[Yn,Y3 hj];rfl
   obtain⟨y,h1,h2⟩:=nV.get i _ _ hv ho
   exact⟨y,h1,h2⟩
  have j7:∀o x,f.os o=some x→¬(id≤o∧o<id+W)∧∃L,ι o=some L:=by
   intro o x hx
   have hob:=h.ob o x hx
   have hL:∃L,ι o=some L:=by
    cases x with
    |rows p rs=>rcases hob with ⟨q,_⟩|⟨l,vals,q,_⟩<;>exact⟨_,q⟩
    |cT rs=>rcases hob with ⟨q,_⟩|⟨l,vals,q,_⟩<;>exact⟨_,q⟩
    |aw p es=>obtain⟨l,xs,c,q,_⟩:=hob;simp_all
    |bL z fs hh=>obtain⟨l,xs,c,q,_⟩:=hob;simp_all
    |bK es hh=>obtain⟨l,xs,c,q,_⟩:=hob;simp_all
    |lit rs=>obtain⟨l,vals,q,_⟩:=hob;simp_all
   refine⟨fun hc=>?_,hL⟩
   obtain⟨L,hL⟩:=hL
   rw[h.un o (hid o hc.1 hc.2)]at hL;cases hL
  have Ae:∀j (hj:j<V.length),∃x,f.os V[j]=some x:=by
   intro j hj
   have ho:(V.map f.os)[j]? =some (f.os V[j]):=by rw[Yn,Y3 hj];rfl
   have hv:(oin.map fun e=>some (cC σ e.2))[j]? =some (some (cC σ (oin[j]'(by omega)).2)):=by rw[Yn,Y3 (by omega)];rfl
   obtain⟨y,h1,h2⟩:=nV.get j _ _ ho hv
   exact⟨y,h1⟩
  have hι0:∀j (hj:j<V.length),ι0 j=ι V[j]:=fun j hj=>by simp only[ι0,ιback];simp_all
  have hι0n:∀j,V.length≤j→ι0 j=none:=fun j hj=>by simp only[ι0,ιback];grind
  have Af:∀j j' (hj:j<V.length) (hj':j'<V.length),V[j]=V[j']→j=j':=fun j j' hj hj' e=>by
   rcases Nat.lt_trichotomy j j' with q|q|q
   ·exact absurd e (List.pairwise_iff_getElem.1 pZ j j' hj hj' q)
   ·exact q
   ·exact absurd e.symm (List.pairwise_iff_getElem.1 pZ j' j hj' hj q)
  have hob0:jG (dx w ι0 oin) S w ι0 (lk oin):=by
   refine⟨fun j x lV=>?_,fun j x lV hlv l hl b hbb=>?_,fun j j' x x' lV Fz hlv vw l l' hl hl' b hbl vE=>?_⟩
   ·obtain⟨hj,⟨y,ho,jg⟩,hb⟩:=hin j x lV
    refine ca.eM hj hb ?_
    rw[FR j hj];exact jg.ok (h.ob _ _ ho)
   ·obtain⟨hj,⟨y,ho,jg⟩,hb⟩:=hin j x lV
    have dJ:=hl
    rw[hι0 j hj]at dJ
    have:=h.own _ _ ho (by rw[←jg.live,mE];exact hlv) l dJ b (sY jg hbb)
    exact⟨.inr ⟨j,x,l,lV,hlv,hl,hbb⟩,this.2⟩
   ·obtain⟨hj,⟨y,ho,jg⟩,hb⟩:=hin j x lV
    obtain⟨hj',⟨y',ru,zo⟩,mJ⟩:=hin j' x' Fz
    rw[hι0 j hj]at hl;rw[hι0 j' hj']at hl'
    exact Af j j' hj hj' (h.inj _ _ _ _ ho ru (by rw[←jg.live,mE];exact hlv) (by rw[←zo.live,mE];exact vw) l l' hl hl' b (sY jg hbl) (sY zo vE))
  have vH:az S w ι0 bD (args.map a.eval++vs).toList:=az.eM bD _ hb1 (qf.u5 iZ)
  unfold Oper.wp;rw[G9 cu tR hf.1,Oper.upon_enter]
  have ka:=hf.2.2 S ι0 w (args.map a.eval++vs) h.sb h.gv hob0 (fun o ho=>hι0n o (by omega)) vH
  refine ka.mono ?_
  rintro e w' ⟨v',S',ι',rfl,hfr,hS1,hS2,hle,hιW,hrep,hob'⟩
  have hOw:∀b,dx w ι0 oin b→b<w.heap.size→∃o x l,o∈V∧f.os o=some x∧x.live=true∧ι o=some (some l)∧cj w x l b:=by
   rintro b (hb|⟨j,x,l,lV,hlv,hl,zO⟩) hlt
   ·omega
   ·obtain⟨hj,⟨y,ho,jg⟩,hb⟩:=hin j x lV
    rw[hι0 j hj]at hl
    exact⟨V[j],_,l,Wb hj,ho,by rw[←jg.live,mE];exact hlv,hl,sY jg zO⟩
  have F3:∀b,dx w ι0 oin b→C.Ow b:=by
   rintro b (hb|⟨j,x,l,lV,hlv,hl,zO⟩)
   ·exact h.fo _ (YZ h.fr.size hb)
   ·obtain⟨hj,⟨y,ho,jg⟩,hb⟩:=hin j x lV
    rw[hι0 j hj]at hl
    exact(h.own _ _ ho (by rw[←jg.live,mE];exact hlv) l hl b (sY jg zO)).1
  have O1:∀b,S b→¬dx w ι0 oin b:=by
   intro b hb hO
   obtain⟨o,x,l,_,hx,hlv,hl,zO⟩:=hOw b hO (h.sb b hb)
   exact(h.own o x hx hlv l hl b zO).2.1 hb
  have hw:fz S w w':=fun b hb=>hfr.old b (h.sb b hb) (O1 b hb)
  have kU:∀o x,f.os o=some x→x.live=true→o∉V→∀l,ι o=some (some l)→∀b,cj w x l b→¬dx w ι0 oin b:=by
   intro o x hx hlv vp l hl b hbb hO
   obtain⟨o2,x2,l2,OX,iP,cS,dJ,hb2⟩:=hOw _ hO (h.own o x hx hlv l hl b hbb).2.2
   have:=h.inj o o2 x x2 hx iP hlv cS l l2 hl dJ b hbb hb2
   subst this;exact vp OX
  have sB:=hf.2.1
  let ι2:ax:=fun x=>if id≤x∧x<id+W then ι' (x-id)else ι x
  have hι2:ι.le ι2:=by
   intro x y hxy
   by_cases hc:id≤x∧x<id+W
   ·rw[h.un x (hid x hc.1 hc.2)]at hxy;cases hxy
   ·grind
  have hι2V:∀j (hj:j<V.length),ι2 V[j]=ι' j:=by
   intro j hj
   obtain⟨x,hx⟩:=Ae j hj
   obtain⟨Fu,L,hL⟩:=j7 _ _ hx
   simp only[ι2];rw[if_neg Fu,hL]
   refine(hle j L ?_).symm
   rw[hι0 j hj];exact hL
  have hσ:∀x y,ι' x=some y→ι2 (σ x)=some y:=by
   intro x y hxy
   by_cases hx:x<V.length
   ·grind
   ·have X2:x<W:=by
     rcases YY x W with q|q
     ·exact q
     ·grind
    have e:σ x=id+x:=by simp[σ,bk,hx]
    grind
  have Jj:∀j (hj:j<V.length) k,k<W→V[j]≠id+k:=by
   intro j hj k hk e
   obtain⟨x,hx⟩:=Ae j hj
   exact(j7 _ _ hx).1 ⟨by omega,by omega⟩
  have hσinj:∀j j',j<W→j'<W→σ j=σ j'→j=j':=by
   intro j j' hj hj' e
   by_cases h1:j<V.length<;>by_cases h2:j'<V.length
   ·grind
   ·have e2:σ j'=id+j':=by simp[σ,bk,h2]
    grind
   ·have e1:σ j=id+j:=by simp[σ,bk,h1]
    grind
   ·have e1:σ j=id+j:=by simp[σ,bk,h1]
    have e2:σ j'=id+j':=by simp[σ,bk,h2]
    omega
  have Fy:∀q,q∈os'→q.1<W:=fun q hq=>by obtain⟨x,hx⟩:=Le hq;grind
  obtain⟨FU,FT⟩:=Qt (σ:=σ) os' f.os (V.map fun o=>(o,none)) (fun p q hp hq e=>hσinj _ _ (Fy p hp) (Fy q hq) e)
  have ed:∀o x,ay f.os (gm V id os') o=some x→(∃j x',j<W∧o=σ j∧lk os' j=some x'∧x=cC σ x')∨(o∉V∧f.os o=some x):=by
   intro o x hx
   by_cases hq:∃q,q∈os'∧σ q.1=o
   ·obtain⟨q,hq1,hq2⟩:=hq
    obtain⟨x',hx'⟩:=Le hq1
    have:=FU q.1 x' hx'
    rw[hq2]at this
    rw[show ay f.os (gm V id os') o=_ from this]at hx
    grind
   ·have:=FT o (fun q hq1 hq2=>hq ⟨q,hq1,hq2⟩)
    rw[show ay f.os (gm V id os') o=_ from this,TJ]at hx
    grind
  have eK:∀j x',lk os' j=some x'→x'.live=true→∀l,ι2 (σ j)=some (some l)→ι' j=some (some l):=by
   intro j x' hj hlv l hl
   by_cases OE:j<V.length
   ·grind
   ·have e:σ j=id+j:=by simp[σ,bk,OE]
    have:=sB _ _ hj
    rw[e]at hl;simp only[ι2]at hl
    rw[if_pos ⟨by omega,by omega⟩,show id+j-id=j by omega]at hl
    exact hl
  have fZ:∀o x,f.os o=some x→∀l,ι2 o=some (some l)→ι o=some (some l):=by
   intro o x hx l hl;simp only[ι2]at hl;rw[if_neg (j7 o x hx).1]at hl;exact hl
  have hinv:Inv C S' ι2 (fun x=>un x∧¬(id≤x∧x<id+W)) {f with os:=ay f.os (gm V id os')} a w':=by
   refine h.hP hS2 hw hι2 ?_ ?_ ?_ (fun b hb=>(hS1 b hb).2) (fun b hb=>?_) (fun o ho=>?_) ?_
   ·intro o x hx
    rcases ed o x hx with ⟨j,x',hj,rfl,lV,rfl⟩|⟨vp,hx⟩
    ·exact(hob'.ob j x' lV).pr hσ
    ·exact(h.ob o x hx).mono hS2 hw hι2 (fun l hl hlv b hb=>hfr.old _ (h.own o x hx hlv l hl b hb).2.2 (kU o x hx hlv vp l hl b hb))
   ·intro o x hx hlv l hl b hb
    rcases ed o x hx with ⟨j,x',hj,rfl,lV,rfl⟩|⟨vp,hx⟩
    ·rw[mE]at hlv
     have:=hob'.own j x' lV hlv l (eK j x' lV hlv l hl) b (pz hb)
     grind
    ·have hl':=fZ o x hx l hl
     have hb:=eP (fun b hb=>hfr.old b (h.own o x hx hlv l hl' b hb).2.2 (kU o x hx hlv vp l hl' b hb)) hb
     have:=h.own o x hx hlv l hl' b hb
     refine⟨this.1,fun hs=>?_,by have:=hfr.size;omega⟩
     grind
   ·intro o1 o2 x1 x2 hx1 iP gb cS l1 l2 e1 e2 b hb hb2
    rcases ed o1 x1 hx1 with ⟨j1,y1,hj1,rfl,vy,rfl⟩|⟨zF,hx1⟩
    ·rw[mE]at gb
     have p1:=eK j1 y1 vy gb l1 e1
     rcases ed o2 x2 iP with ⟨j2,y2,vA,rfl,p7,rfl⟩|⟨vn,iP⟩
     ·rw[mE]at cS
      have p2:=eK j2 y2 p7 cS l2 e2
      rw[hob'.inj j1 j2 y1 y2 vy p7 gb cS l1 l2 p1 p2 b (pz hb) (pz hb2)]
     ·have dJ:=fZ o2 x2 iP l2 e2
      have:=(hob'.own j1 y1 vy gb l1 p1 b (pz hb)).1
      have hb2:=eP (fun b hb=>hfr.old b (h.own o2 x2 iP cS l2 dJ b hb).2.2 (kU o2 x2 iP cS vn l2 dJ b hb)) hb2
      grind
    ·have hl1:=fZ o1 x1 hx1 l1 e1
     rcases ed o2 x2 iP with ⟨j2,y2,vA,rfl,p7,rfl⟩|⟨vn,iP⟩
     ·rw[mE]at cS
      have p2:=eK j2 y2 p7 cS l2 e2
      have:=(hob'.own j2 y2 p7 cS l2 p2 b (pz hb2)).1
      have hb:=eP (fun b hb=>hfr.old b (h.own o1 x1 hx1 gb l1 hl1 b hb).2.2 (kU o1 x1 hx1 gb zF l1 hl1 b hb)) hb
      grind
     ·have dJ:=fZ o2 x2 iP l2 e2
      have hb:=eP (fun b hb=>hfr.old b (h.own o1 x1 hx1 gb l1 hl1 b hb).2.2 (kU o1 x1 hx1 gb zF l1 hl1 b hb)) hb
      have hb2:=eP (fun b hb=>hfr.old b (h.own o2 x2 iP cS l2 dJ b hb).2.2 (kU o2 x2 iP cS vn l2 dJ b hb)) hb2
      exact h.inj o1 o2 x1 x2 hx1 iP gb cS l1 l2 hl1 dJ b hb hb2
   ·rcases(hS1 b hb).1 with q|q
    ·exact h.sn b q
    grind
   ·simp only[ι2]
    rw[if_neg ho.2];exact h.un o ho.1
   ·exact⟨hfr.os.trans h.fr.os,hfr.output.trans h.fr.output,YZ h.fr.size hfr.size,fun b hb hn=>by
     rw[hfr.old b (by have:=h.fr.size;omega) (fun q=>hn (F3 _ q))];exact h.fr.old b hb hn⟩
  exact Inv.goes hn hinv (fun x hx=>hx) (hrep.pr hσ) hd
 |pure op v hp=>
  refine absurd (fun c e=>?_) hcall
  subst e
  by_cases hb:∃b,c.callee=Callee.builtin b
  ·exact hb
  ·exfalso
   unfold eB at hp
   grind
 |jX=>simp_all
 |files _ _ _ _ hb=>
  refine absurd (fun c e=>?_) hcall
  cases hb with
  |del=>grind
  |qv=>grind
  |copy=>grind
  |len=>grind
  |Av=>grind
  |eO _ t kt m k x cu=>simp_all
  |_=>cases e
 |jr _ _ _ _ hb=>
  refine absurd (fun c e=>?_) hcall
  cases hb with
  |put _ t kt m k x cu=>simp_all
  |_=>cases e
 |more _ _ _ _ hb=>
  refine absurd (fun c e=>?_) hcall
  cases hb with
  |qC=>grind
  |qB=>grind
  |ik _ t kt m k x cu=>simp_all
  |_=>cases e
 |_=>simp_all
end
end Go.Ab
