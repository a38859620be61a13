import Derived.Test.YtjpmdkgonlmddaaGreatDoorAbE
import Derived.Lib.LazyBuf
set_option linter.unusedVariables false
open Go.MapKept (Stamped)
namespace Go.Ab
theorem ZrI:∀(gs:Gr) (k j:Nat),lk (grO k gs) j=if k≤j then(gs[j-k]?).map (fun e=>e.2.ao)else none
 | [],k,j=>by simp[grO,lk]
 |e::r,k,j=>by
  simp only[grO,lk,ZrI r (k+1) j]
  grind
theorem Ztc(gs:Gr)(j:Nat):lk (grO 0 gs) j=(gs[j]?).map (fun e=>e.2.ao):=by simp[ZrI]
theorem GO.live(g:GO):g.ao.live=true:=by cases g<;>rfl
section
variable {C:Cx}{S:Nat→Prop}{w:World}{ι:Imap}{P:Program}{un:Nat→Prop}{f:FS}{a:Act}{id:Nat}{o:Oper}
 {next:Act→World→Prop} {Q:Exit→Act→World→Prop}
theorem Zdm.ofG{es:List (AV×Gr)}{h:Option (Nat×Nat)}{xs:Array MapEntry}{B:Nat}(hF:GRep S w ι es h xs B):Zdm false S w ι (keysG es) xs.toList:=by
 refine⟨by simp[keysG,hF.len],fun i e x he hx=>?_⟩
 simp only[keysG,Yl,Ye]at he
 obtain⟨e0,he0,rfl⟩:=he
 exact⟨(hF.at_ i e0 x he0 (by simp_all)).1,.imm _ _ (.undef _),fun hp=>by cases hp⟩
theorem Inv.noObj(h:Inv C S ι un f a w){k:Nat}(hk:un k){x:AO}(hx:f.os k=some x):False:=by
 have hnone:=h.un k hk
 have:=h.ob k x hx
 cases x with
 |rows p rs=>rcases this with ⟨q,_⟩|⟨l,vals,q,_⟩<;>(simp_all)
 |froz rs=>rcases this with ⟨q,_⟩|⟨l,vals,q,_⟩<;>(simp_all)
 |mapo p es=>obtain⟨l,xs,c,q,_⟩:=this;simp_all
 |fmap z fs hh=>obtain⟨l,xs,c,q,_⟩:=this;simp_all
 |gmap es hh=>obtain⟨l,xs,c,q,_⟩:=this;simp_all
 |lit rs=>obtain⟨l,vals,q,_⟩:=this;simp_all
theorem Zjf{es:List (AV×Gr)}{h:Option (Nat×Nat)}{l:Loc}{b:Nat}(hb:foot w (.gmap es h) l b):foot w (.gmap es none) l b:=by
 rcases hb with hb|⟨xs,c,i,e,x,h1,h2,h3,_,h5⟩
 ·exact .inl hb
 ·exact .inr ⟨xs,c,i,e,x,h1,h2,h3,by simp,h5⟩
theorem Inv.glend(h:Inv C S ι un f a w)(hid:∀x,id≤x→x<id+W→un x){o:Nat}{es:List (AV×Gr)}{i:Nat}{e:AV×Gr}(ho:f.os o=some (.gmap es none))(he:es[i]? =some e)(hW:e.2.length≤W)
 {l:Loc} {xs:Array MapEntry} {clock:Nat} {x:MapEntry} (hl:ι o=some (some l)) (hheap:w.heap[l.blk]? =some (.map xs clock)) (hx:xs[i]? =some x):
 ∃ι',ι.le ι'∧Rep S w ι' (.ptr id 0 0) x.val∧Inv C S ι' (fun y=>un y∧¬(id≤y∧y<id+W)) {f with os:=updO f.os (ZgN id (grO 0 e.2)++[(o,some (.gmap es (some (i,id))))])} a w:=by
 obtain⟨l',xs',clock',hl',hheap',hlim,hF⟩:=h.ob o _ ho
 rw[hl]at hl';injection hl' with hl';injection hl' with hl';subst hl'
 rw[hheap]at hheap';injection hheap' with hheap';injection hheap' with e1 e2;subst e1;subst e2
 have hoid:¬(id≤o∧o<id+W):=fun hc=>h.noObj (hid o hc.1 hc.2) ho
 obtain⟨hkey,hg,_⟩:=hF.at_ i e x he hx
 obtain⟨⟨ιg,hG⟩,hgB⟩:=hg (by simp)
 let ι':Imap:=fun k=>if id≤k∧k<id+W then ιg (k-id)else ι k
 have hι:ι.le ι':=by
  intro k y hy
  by_cases hc:id≤k∧k<id+W
  ·rw[h.un k (hid k hc.1 hc.2)]at hy;cases hy
  ·grind
 have hWp:0<W:=by simp[W]
 have hσ:∀k y,(fun k=>if k<W then ιg k else none) k=some y→ι' (id+k)=some y:=by
  intro k y hy;simp only at hy;split at hy
  ·grind
  ·cases hy
 have hroot:Rep S w ι' (.ptr id 0 0) x.val:=by
  obtain⟨l0,h1,h2⟩:=hG.root.ptr_inv
  rw[h2]
  refine Rep.ptr id 0 0 l0 ?_
  simp only[ι'];rw[if_pos ⟨Yg _,by omega⟩,WJ];exact h1
 have hblk:∀b,gfoot w e.2 x.val b→foot w (.gmap es none) l b:=fun b hb=>.inr ⟨xs,clock,i,e,x,hheap,he,hx,by simp,hb⟩
 refine⟨ι',hι,hroot,?_⟩
 have hosU:∀k y,updO f.os (ZgN id (grO 0 e.2)++[(o,some (.gmap es (some (i,id))))]) k=some y→
  (∃p g,id≤k∧k<id+W∧e.2[k-id]? =some (p,g)∧y=renO (id+ ·) g.ao)∨(k=o∧y=.gmap es (some (i,id)))∨(¬(id≤k∧k<id+W)∧k≠o∧f.os k=some y):=by
  intro k y hy;rw[ZjP,ZmH]at hy;split at hy
  ·rename_i hc
   rw[Ztc]at hy
   grind
  ·rename_i hc
   simp only[updO]at hy
   by_cases h1:k=o
   ·simp_all
   ·rw[if_neg h1]at hy
    exact .inr (.inr ⟨fun hk=>h.noObj (hid k hk.1 hk.2) hy,h1,hy⟩)
 have hold:∀k,¬(id≤k∧k<id+W)→∀l2,ι' k=some (some l2)→ι k=some (some l2):=fun k hk l2 e=>by grind
 have hnew:∀k,id≤k→k<id+W→∀l2,ι' k=some (some l2)→ιg (k-id)=some (some l2):=fun k h1 h2 l2 e=>by grind
 have hfootN:∀k p g,id≤k→k<id+W→e.2[k-id]? =some (p,g)→∀l2,ι' k=some (some l2)→∀b,foot w (renO (id+ ·) g.ao) l2 b→footG w l2.blk g b∧gfoot w e.2 x.val b:=by
  intro k p g h1 h2 hg l2 hl2 b hb
  have hb2:=Zlz.2 (ZeS hb)
  exact⟨hb2,hG.blk hg (hnew k h1 h2 l2 hl2) hb2⟩
 have hw:ZbH S w w:=fun _ _=>rfl
 refine h.turn (fun _ x=>x) hw hι ?_ ?_ ?_ h.sb h.sn (fun k hk=>by simp only[ι'];rw[if_neg hk.2];exact h.un k hk.1) h.fr
 ·intro k y hy
  rcases hosU k y hy with ⟨p,g,h1,h2,hg,rfl⟩|⟨rfl,rfl⟩|⟨h1,h2,h3⟩
  ·have h9:=Zks.1 (hG.ob (k-id) p g hg).1
   have h8:ObjOk S w ι' (id+(k-id)) (renO (id+ ·) g.ao):=h9.ren (σ:=(id+ ·)) (fun j y hy=>?_)
   ·simp_all
   ·by_cases hj:j<W
    ·simp_all
    ·rw[hG.top j (by omega)]at hy;cases hy
  ·refine⟨l,xs,clock,hι _ _ hl,hheap,hlim,hF.len,fun j e' x' he' hx'=>?_,fun j j' e1 e2 x1 x2 b g1 g2 g3 g4 g5 g6=>hF.inj j j' e1 e2 x1 x2 b g1 g2 g3 g4 (by simp) (by simp)⟩
   obtain⟨g1,g2,g3⟩:=hF.at_ j e' x' he' hx'
   grind
  ·exact(h.ob k y h3).mono (fun _ x=>x) hw hι (fun _ _ _ _ _=>rfl)
 ·intro k y hy hly l2 hl2 b hb
  rcases hosU k y hy with ⟨p,g,h1,h2,hg,rfl⟩|⟨rfl,rfl⟩|⟨h1,h2,h3⟩
  ·exact h.own o _ ho rfl l hl _ (hblk b (hfootN k p g h1 h2 hg l2 hl2 b hb).2)
  ·exact h.own k _ ho rfl l2 (hold k hoid l2 hl2) b (Zjf hb)
  ·exact h.own k y h3 hly l2 (hold k h1 l2 hl2) b hb
 ·have cross:∀k p g,id≤k→k<id+W→e.2[k-id]? =some (p,g)→∀l2,ι' k=some (some l2)→∀b,foot w (renO (id+ ·) g.ao) l2 b→∀l3,ι o=some (some l3)→foot w (.gmap es (some (i,id))) l3 b→False:=by
   intro k p g h1 h2 hg l2 hl2 b hb l3 hl3 hf
   rw[hl]at hl3;injection hl3 with hl3;injection hl3 with hl3;subst hl3
   have hb2:=(hfootN k p g h1 h2 hg l2 hl2 b hb).2
   rcases hf with hf|⟨xs2,c2,j,e2,x2,g1,g2,g3,g4,g5⟩
   ·grind
   ·rw[hheap]at g1;injection g1 with g1;injection g1 with q1 q2;subst q1
    have:=hF.inj i j e e2 x x2 b he g2 hx g3 (by simp) (by simp) hb2 g5
    simp_all
  intro k1 k2 y1 y2 hy1 hy2 hv1 hv2 l1 l2 e1 e2 b hb1 hb2
  rcases hosU k1 y1 hy1 with ⟨p1,g1,h1,h1',hg1,rfl⟩|⟨rfl,rfl⟩|⟨h1,h1',h3⟩<;>rcases hosU k2 y2 hy2 with ⟨p2,g2,j1,j1',hg2,rfl⟩|⟨q0,q⟩|⟨j1,j1',j3⟩
  ·have:=hG.inj _ _ p1 p2 g1 g2 hg1 hg2 l1 l2 (hnew k1 h1 h1' l1 e1) (hnew k2 j1 j1' l2 e2) b (hfootN k1 p1 g1 h1 h1' hg1 l1 e1 b hb1).1 (hfootN k2 p2 g2 j1 j1' hg2 l2 e2 b hb2).1
   omega
  ·grind
  ·have hb:=hblk b (hfootN k1 p1 g1 h1 h1' hg1 l1 e1 b hb1).2
   exact absurd (h.inj o k2 _ y2 ho j3 rfl hv2 l l2 hl (hold k2 j1 l2 e2) b hb hb2) (fun e=>j1' e.symm)
  ·grind
  ·omega
  ·exact absurd (h.inj k1 k2 _ y2 ho j3 rfl hv2 l1 l2 (hold k1 hoid l1 e1) (hold k2 j1 l2 e2) b (Zjf hb1) hb2) (fun e=>j1' e.symm)
  ·have hb:=hblk b (hfootN k2 p2 g2 j1 j1' hg2 l2 e2 b hb2).2
   exact absurd (h.inj k1 o y1 _ h3 ho hv1 rfl l1 l (hold k1 h1 l1 e1) hl b hb1 hb) h1'
  ·subst q0;subst q
   exact h.inj k1 k2 y1 _ h3 ho hv1 rfl l1 l2 (hold k1 h1 l1 e1) (hold k2 hoid l2 e2) b hb1 (Zjf hb2)
  ·exact h.inj k1 k2 y1 y2 h3 j3 hv1 hv2 l1 l2 (hold k1 h1 l1 e1) (hold k2 j1 l2 e2) b hb1 hb2
theorem Inv.gput(h:Inv C S ι un f a w){o q:Nat}{es:List (AV×Gr)}(ho:f.os o=some (.gmap es none)){l:Loc}{xs:Array MapEntry}{clock:Nat}(hl:ι o=some (some l))
 (hheap:w.heap[l.blk]? =some (.map xs clock)) {k:AV} {kv u:Value} (hk:IRep S w k kv) (hu:Rep S w ι (.ptr q 0 0) u) (hfresh:∀x,x∈xs.toList→x.key≠kv) (hlim:es.length+1≤LIM) (g0:Gr):
 Inv C S ι un {f with os:=updO f.os [(o,some (.gmap (es++[(k,g0)]) (some (es.length,q))))]} a {w with heap:=w.heap.setIfInBounds l.blk (.map (xs.push {key:=kv,val:=u,born:=clock}) (clock+1))}:=by
 obtain⟨l',xs2,clock2,hl',hheap',hlim2,hF⟩:=h.ob o _ ho
 rw[hl]at hl';injection hl' with hl';injection hl' with hl';subst hl'
 rw[hheap]at hheap';injection hheap' with hheap';injection hheap' with e1 e2;subst e1;subst e2
 have hlt:l.blk<w.heap.size:=(Wm.1 hheap).1
 obtain⟨hO,hS,_⟩:=h.own o _ ho rfl l hl _ (.inl rfl)
 let w':World:={w with heap:=w.heap.setIfInBounds l.blk (.map (xs.push {key:=kv,val:=u,born:=clock}) (clock+1))}
 have hother:∀b,b≠l.blk→w'.heap[b]? =w.heap[b]? :=fun b hb=>Ww (fun e=>hb e.symm)
 have hw:ZbH S w w':=fun b hb=>hother b (fun e=>hS (e▸hb))
 have hself:w'.heap[l.blk]? =some (.map (xs.push {key:=kv,val:=u,born:=clock}) (clock+1)):=by simp[w',hlt]
 have hgo:∀(i:Nat) e x,es[i]? =some e→xs[i]? =some x→∀b,gfoot w e.2 x.val b→w'.heap[b]? =w.heap[b]? :=fun i e x he hx b hb=>hother b (((hF.at_ i e x he hx).2.1 (by simp)).2 b hb)
 have hgs:∀(i:Nat) e x,es[i]? =some e→xs[i]? =some x→∀b,gfoot w' e.2 x.val b↔gfoot w e.2 x.val b:=fun i e x he hx b=>ZgJ (hgo i e x he hx)
 have hent:∀(i:Nat) e x,(es++[(k,g0)])[i]? =some e→(xs.push {key:=kv,val:=u,born:=clock})[i]? =some x→(some (es.length,q):Option (Nat×Nat)).map (·.1)≠some i→es[i]? =some e∧xs[i]? =some x:=by
  intro i e x he hx hn
  have hne:i≠es.length:=fun e=>hn (by grind)
  have hil:i<es.length:=by have:=Zap he;simp at this;omega
  refine⟨by grind,?_⟩
  rw[V2,if_neg (by rw[←hF.len];exact hne)]at hx;exact hx
 have hfoot:∀l2:Loc,l2.blk=l.blk→∀b,foot w' (.gmap (es++[(k,g0)]) (some (es.length,q))) l2 b→foot w (.gmap es none) l b:=by
  rintro l2 e2 b (hb|⟨xs3,c3,i,e,x,h1,h2,h3,h4,h5⟩)
  ·exact .inl (hb.trans e2)
  ·rw[e2,hself]at h1;injection h1 with h1;injection h1 with h1 _;subst h1
   obtain⟨g1,g2⟩:=hent i e x h2 h3 h4
   exact .inr ⟨xs,clock,i,e,x,hheap,g1,g2,by simp,(hgs i e x g1 g2 b).1 h5⟩
 have hoth:∀o' y,f.os o'=some y→y.live=true→o'≠o→∀l',ι o'=some (some l')→∀b,foot w y l' b→w'.heap[b]? =w.heap[b]? :=fun o' y hy hly e l' hl' b hb=>
  hother b (fun eb=>e (h.inj o' o y _ hy ho hly rfl l' l hl' hl b hb (.inl eb)))
 have hosU:∀k' y,updO f.os [(o,some (.gmap (es++[(k,g0)]) (some (es.length,q))))] k'=some y→(k'=o∧y=.gmap (es++[(k,g0)]) (some (es.length,q)))∨(k'≠o∧f.os k'=some y):=by
  intro k' y hy;simp only[updO]at hy
  by_cases e2:k'=o
  ·grind
  ·grind
 have hsz:w'.heap.size=w.heap.size:=by simp[w']
 refine h.turn (fun _ x=>x) hw (Imap.le_refl _) ?_ ?_ ?_ (fun b hb=>by rw[hsz];exact h.sb b hb) h.sn h.un ?_
 ·intro k' y hy
  rcases hosU k' y hy with ⟨rfl,rfl⟩|⟨h1,h3⟩
  ·refine⟨l,_,_,hl,hself,⟨by rw[Array.size_push,←hF.len];exact hlim,Zjj hlim2.2 hfresh⟩,by simp[hF.len],fun i e x he hx=>?_,fun i j e e' x x' b he he' hx hx' hn hn' h1 h2=>?_⟩
   ·by_cases hi:i=es.length
    ·subst hi
     rw[Yc (Yg _),WJ]at he
     simp only[List.getElem?_cons_zero,Y1]at he
     subst he
     rw[V2,if_pos hF.len]at hx
     injection hx with hx;subst hx
     refine⟨hk.mono (fun _ h=>h) hw,fun hn=>absurd rfl hn,fun q' hq'=>?_⟩
     injection hq' with hq';injection hq' with _ hq';subst hq'
     exact hu.mono (fun _ h=>h) hw (Imap.le_refl _)
    ·have hn:(some (es.length,q):Option (Nat×Nat)).map (·.1)≠some i:=by simp only[Yq,ne_eq,Y1];exact fun e=>hi e.symm
     obtain⟨g1,g2⟩:=hent i e x he hx hn
     obtain⟨j1,j2,_⟩:=hF.at_ i e x g1 g2
     obtain⟨⟨ιg,hg⟩,hB⟩:=j2 (by simp)
     exact⟨j1.mono (fun _ h=>h) hw,fun _=>⟨⟨ιg,hg.mono (fun _ h=>h) hw (hgo i e x g1 g2)⟩,fun b hb=>hB b ((hgs i e x g1 g2 b).1 hb)⟩,fun q' hq'=>by grind⟩
   ·obtain⟨g1,g2⟩:=hent i e x he hx hn
    obtain⟨g1',g2'⟩:=hent j e' x' he' hx' hn'
    exact hF.inj i j e e' x x' b g1 g1' g2 g2' (by simp) (by simp) ((hgs i e x g1 g2 b).1 h1) ((hgs j e' x' g1' g2' b).1 h2)
  ·exact(h.ob k' y h3).mono (fun _ x=>x) hw (Imap.le_refl _) (fun l' hl' hy' b hb=>hoth k' y h3 hy' h1 l' hl' b hb)
 ·intro k' y hy hly l2 hl2 b hb
  rw[hsz]
  rcases hosU k' y hy with ⟨rfl,rfl⟩|⟨h1,h3⟩
  ·rw[hl]at hl2;injection hl2 with hl2;injection hl2 with hl2;subst hl2
   exact h.own k' _ ho rfl l hl b (hfoot l rfl b hb)
  ·exact h.own k' y h3 hly l2 hl2 b (Zao (hoth k' y h3 hly h1 l2 hl2) hb)
 ·intro k1 k2 y1 y2 hy1 hy2 hv1 hv2 l1 l2 e1 e2 b hb1 hb2
  rcases hosU k1 y1 hy1 with ⟨rfl,rfl⟩|⟨h1,h3⟩<;>rcases hosU k2 y2 hy2 with ⟨g0,g⟩|⟨g0,g3⟩
  ·omega
  ·rw[hl]at e1;injection e1 with e1;injection e1 with e1;subst e1
   exact h.inj k1 k2 _ y2 ho g3 rfl hv2 l l2 hl e2 b (hfoot l rfl b hb1) (Zao (hoth k2 y2 g3 hv2 g0 l2 e2) hb2)
  ·subst g0;subst g
   rw[hl]at e2;injection e2 with e2;injection e2 with e2;subst e2
   exact h.inj k1 k2 y1 _ h3 ho hv1 rfl l1 l e1 hl b (Zao (hoth k1 y1 h3 hv1 h1 l1 e1) hb1) (hfoot l rfl b hb2)
  ·exact h.inj k1 k2 y1 y2 h3 g3 hv1 hv2 l1 l2 e1 e2 b (Zao (hoth k1 y1 h3 hv1 h1 l1 e1) hb1) (Zao (hoth k2 y2 g3 hv2 g0 l2 e2) hb2)
 ·refine⟨h.fr.os,h.fr.output,by rw[hsz];exact h.fr.size,fun b hb hn=>?_⟩
  exact(hother b (fun e=>hn (by grind))).trans (h.fr.old b hb hn)
def wayAV(gs:Gr):List Nat→Option AV
 | []=>some (.ptr 0 0 0)
 |c::q=>match wayAV gs q with
  |some (.ptr j 0 0)=>match gs[j]? with
   |some (_,.rows false (row::_))=>row[c]?
   |_=>none
  |_=>none
def nmAV:AV→Option Nat
 |.ptr o 0 0=>some o
 |.osw o _=>some o
 |.mapo o=>some o
 |_=>none
def cellB(gs:Gr)(q:List Nat)(c:Nat):AV→Bool
 |.ptr k _ _=>match gs[k]? with|some (_,.rows _ (_::_))=>true|_=>false
 |.mapo k=>match gs[k]? with|some (_,.fmap ..)=>true|_=>false
 |.osw k _=>match gs[k]? with|some (c'::q',.rows ..)=>Nat.beq c c'&&q'.beq q|_=>false
 |x=>idsB 0 x
def rowB(gs:Gr)(q:List Nat):Nat→List AV→Bool
 |_,[]=>true
 |c,x::r=>cellB gs q c x&&rowB gs q (c+1) r
def Zjp(gs:Gr):Nat→Gr→Bool
 |_,[]=>true
 |k,(p,g)::r=>(match (wayAV gs p).bind nmAV with|some j=>Nat.beq j k|none=>false)&&
  (match p with| []=>true|_::q=>gs.any fun e=>e.1.beq q)&&
  (match g with|.rows false [row]=>rowB gs p 0 row|.rows false _=>false|_=>true)&&Zjp gs (k+1) r
theorem Zlj{gs:Gr}{q:List Nat}:∀{row:List AV} {c0:Nat},rowB gs q c0 row=true→∀(c:Nat) x,row[c]? =some x→cellB gs q (c0+c) x=true
 | [],_,_,c,x,h=>by simp at h
 |y::r,c0,h,c,x,hx=>by
  simp only[rowB,Y8]at h
  cases c with
  |zero=>simp_all
  |succ c=>rw[show c0+(c+1)=(c0+1)+c by omega];exact Zlj h.2 c x (by simp_all)
theorem beqL{p q:List Nat}(h:p.beq q=true):p=q:=by
 have:(p==q)=true:=h
 simp_all
theorem ZkW{gs:Gr}:∀{r:Gr} {k:Nat},Zjp gs k r=true→∀(j:Nat) p g,r[j]? =some (p,g)→(∃av,wayAV gs p=some av∧nmAV av=some (k+j))∧(∀c q,p=c::q→∃g',(q,g')∈gs)∧
 (∀rs,g=.rows false rs→∃row,rs=[row]∧rowB gs p 0 row=true)
 | [],_,_,j,p,g,h=>by simp at h
 |(p0,g0)::r,k,h,j,p,g,hj=>by
  simp only[Zjp,Y8]at h
  cases j with
  |zero=>
   simp only[List.getElem?_cons_zero,Y1,Ws]at hj
   obtain⟨rfl,rfl⟩:=hj
   refine⟨?_,fun c q e=>?_,fun rs e=>?_⟩
   ·have h1:=h.1.1.1
    cases hw:wayAV gs p0 with
    |none=>simp_all
    |some av=>
     rw[hw]at h1;simp only[Y0]at h1
     cases hn:nmAV av with
     |none=>simp_all
     |some j=>simp_all
   ·subst e
    have h1:=h.1.1.2
    obtain⟨e,he,hq⟩:=List.any_eq_true.1 h1
    exact⟨e.2,by rw[←beqL hq];exact he⟩
   grind
  |succ j=>
   have:=ZkW h.2 j p g (by simp_all)
   grind
def Vd(w:World)(v:Value)(gs:Gr)(k:Nat):Prop:=∃p pp,gs[k]? =some (p,.rows pp [])∧pat w v p=none
theorem nm_vb{ι:Imap}{av:AV}{u:Value}{j:Nat}(hr:Rep S w ι av u)(hn:nmAV av=some j):(∃l,ι j=some (some l)∧(vb u=some l.blk∨(vb u=none∧l.cnt=0)))∨(ι j=some none∧vb u=none):=by
 unfold nmAV at hn;split at hn
 ·injection hn with hn;subst hn
  obtain⟨l,h1,rfl⟩:=hr.ptr_inv
  exact .inl ⟨l,h1,.inl rfl⟩
 ·injection hn with hn;subst hn
  rcases ZcP hr with ⟨l,a,cap,q,rfl,h2,h3,h4,hz,ha⟩|⟨q,a,rfl⟩
  ·left
   refine⟨l,q,?_⟩
   by_cases hc:cap=0
   ·subst hc
    exact .inr ⟨by rfl,by omega⟩
   ·left;simp[vb,hc,ha hc]
  ·right;refine⟨q,?_⟩;cases a<;>simp[vb]
 ·injection hn with hn;subst hn
  obtain⟨l,h1,rfl⟩:=hr.mapo_inv
  exact .inl ⟨l,h1,.inl rfl⟩
 grind
mutual
theorem Rep.nil{ι ι':Imap}:∀(v:AV) (x:Value),idsB 0 v=true→Rep S w ι v x→Rep S w ι' v x
 |.ptr o r c,x,hb,h=>absurd (YD (show decide (o<0)=true from hb)) (W9 _)
 |.osl o off len room,x,hb,h=>absurd (YD (show decide (o<0)=true from hb)) (W9 _)
 |.osw o z,x,hb,h=>absurd (YD (show decide (o<0)=true from hb)) (W9 _)
 |.mapo o,x,hb,h=>absurd (YD (show decide (o<0)=true from hb)) (W9 _)
 |.agg cs,x,hb,h=>by
  obtain⟨vs,rfl,hL⟩:=h.agg_inv
  exact RepL.agg (RepL.nil' cs vs.toList hb hL)
 |.tup cs,x,hb,h=>by
  obtain⟨vs,rfl,hL⟩:=h.tup_inv
  exact RepL.tupr (RepL.nil' cs vs.toList hb hL)
 |.fn f cs,x,hb,h=>by
  obtain⟨vs,rfl,hL⟩:=h.fn_inv
  exact RepL.fnr (RepL.nil' cs vs.toList hb hL)
 |.int k m,x,_,h=>.imm _ _ (h.free rfl)
 |.bool b,x,_,h=>.imm _ _ (h.free rfl)
 |.str s,x,_,h=>.imm _ _ (h.free rfl)
 |.esl,x,_,h=>.imm _ _ (h.free rfl)
 |.sl xs,x,_,h=>.imm _ _ (h.free rfl)
 |.rp row c,x,_,h=>.imm _ _ (h.free rfl)
 |.con v,x,_,h=>.imm _ _ (h.free rfl)
 |.undef,x,_,h=>.imm _ _ (.undef _)
 |.anyb p,x,_,h=>by
  cases h with
  |imm _ _ h=>cases h with|anyb _ b h=>exact .imm _ _ (.anyb p b h)
theorem RepL.nil'{ι ι':Imap}:∀(cs:List AV) (vs:List Value),idsBL 0 cs=true→RepL S w ι cs vs→RepL S w ι' cs vs
 | [],vs,_,h=>by
  have:=h.1
  cases vs with
  |nil=>exact .nil
  |cons v r=>grind
 |c::cs,vs,hb,h=>by
  simp only[idsBL,Y8]at hb
  cases vs with
  |nil=>have:=h.1;grind
  |cons v r=>
   have h1:Rep S w ι c v:=h.2 0 _ _ rfl rfl
   have h2:RepL S w ι cs r:=⟨by simpa using h.1,fun j x v hx hv=>h.2 (j+1) x v (by simp_all) (by simp_all)⟩
   exact RepL.cons (Rep.nil c v hb.1 h1) (RepL.nil' cs r hb.2 h2)
end
theorem Zs0{ι:Imap}{k:Nat}{row:List AV}{rest:List (List AV)}{l:Loc}(h:ObjOk S w ι k (.rows false (row::rest)))(hl:ι k=some (some l)){c:Nat}{x:AV}(hx:row[c]? =some x):
 ∃v,Zbo w l.blk (l.base+c)=some v∧Rep S w ι x v:=by
 rcases h with ⟨q,_⟩|⟨l',vals,q,hcnt,hm,hat,hrep⟩
 ·simp_all
 ·rw[hl]at q;injection q with q;injection q with q;subst q
  have hR:RepL S w ι row (vals 0):=hrep.get rfl
  have hc:c<(vals 0).length:=by rw[←hR.1];exact Zap hx
  have hv:(vals 0)[c]? =some (vals 0)[c]:=Y3 hc
  have:=(hat.2.2 0 c _ (by simp) hv).1
  rw[V6,YR]at this;exact⟨_,this,hR.2 c x _ hx hv⟩
theorem ZmK{ι:Imap}{gs:Gr}{v:Value}(hroot:Rep S w ι (.ptr 0 0 0) v)(hob:∀(j:Nat) p g,gs[j]? =some (p,g)→ObjOk S w ι j g.ao):∀(p:List Nat) (av:AV),wayAV gs p=some av→
 ∃u,pvl w v p=some u∧Rep S w ι av u
 | [],av,h=>by
  simp only[wayAV,Y1]at h;subst h;exact⟨v,rfl,hroot⟩
 |c::q,av,h=>by
  simp only[wayAV]at h;split at h
  ·rename_i j hq
   split at h
   ·rename_i p' row rest hj
    obtain⟨u,h1,h2⟩:=ZmK hroot hob q _ hq
    obtain⟨l,h3,rfl⟩:=h2.ptr_inv
    obtain⟨x,h4,h5⟩:=Zs0 (hob j p' _ hj) h3 h
    refine⟨x,?_,h5⟩
    simp only[pvl,h1];simp_all
   ·cases h
  ·cases h
def rootB(gs:Gr):Bool:=match gs with
 |([],.rows false [_])::_=>true
 |_=>false
def idsG(n:Nat):Gr→Bool
 | []=>true
 |(_,g)::r=>idsBO n g.ao&&idsG n r
theorem ZnM{n:Nat}:∀{gs:Gr},idsG n gs=true→∀(j:Nat) p g,gs[j]? =some (p,g)→idsBO n g.ao=true
 | [],_,j,p,g,h=>by simp at h
 |(p0,g0)::r,h,j,p,g,hj=>by
  simp only[idsG,Y8]at h
  cases j with
  |zero=>
   simp_all
  |succ j=>exact ZnM h.2 j p g (by simp_all)
open Classical in
theorem Zrf{ι:Imap}{gs:Gr}{v:Value}(hroot:Rep S w ι (.ptr 0 0 0) v)(hob:∀(j:Nat) p g,gs[j]? =some (p,g)→ObjOk S w ι j g.ao)(htop:∀k,gs.length≤k→ι k=none)
 (hinj:∀(k k':Nat) p p' g g',gs[k]? =some (p,g)→gs[k']? =some (p',g')→∀l l',ι k=some (some l)→ι k'=some (some l')→∀b,footG w l.blk g b→footG w l'.blk g' b→k=k')
 (hB:(rootB gs&&Zjp gs 0 gs)=true):∃ιg,Zhg S w gs v ιg∧∀k l,ιg k=some (some l)→ι k=some (some l):=by
 rw[Y8]at hB
 have hG:∀(j:Nat) p g,gs[j]? =some (p,g)→(∃av,wayAV gs p=some av∧nmAV av=some j)∧(∀c q,p=c::q→∃g',(q,g')∈gs)∧(∀rs,g=.rows false rs→∃row,rs=[row]∧rowB gs p 0 row=true):=fun j p g hj=>by
  have:=ZkW hB.2 j p g hj
  simp_all
 let ιg:Imap:=fun k=>if Vd w v gs k then some none else ι k
 have hvd:∀k,Vd w v gs k→ιg k=some none:=fun k h=>if_pos h
 have hnv:∀k,¬Vd w v gs k→ιg k=ι k:=fun k h=>if_neg h
 have hback:∀k l,ιg k=some (some l)→¬Vd w v gs k∧ι k=some (some l):=fun k l h=>by
  grind
 have hone:∀k p p0 row rest,gs[k]? =some (p,.rows p0 (row::rest))→¬Vd w v gs k:=by
  rintro k p p0 row rest hk ⟨p',pp,h1,_⟩
  rw[hk]at h1;injection h1 with h1;injection h1 with _ h1;injection h1 with _ h1;cases h1
 have hfm:∀k p z fs,gs[k]? =some (p,.fmap z fs)→¬Vd w v gs k:=by
  rintro k p z fs hk ⟨p',pp,h1,_⟩
  rw[hk]at h1;injection h1 with h1;injection h1 with _ h1;cases h1
 have hcell:∀(j:Nat) p row,gs[j]? =some (p,.rows false [row])→rowB gs p 0 row=true→∀l,ι j=some (some l)→∀(c:Nat) x u,row[c]? =some x→Zbo w l.blk (l.base+c)=some u→Rep S w ι x u→Rep S w ιg x u:=by
  intro j p row hj hrb l hl c x u hx hu hr
  have hcb:=Zlj hrb c x hx
  rw[YR]at hcb;unfold cellB at hcb;split at hcb
  ·rename_i k r0 c0
   split at hcb
   ·rename_i p' p0 row' rest hk
    obtain⟨l2,h1,rfl⟩:=hr.ptr_inv
    exact .ptr k r0 c0 l2 (by grind)
   grind
  ·rename_i k
   split at hcb
   ·rename_i p' z fs hk
    obtain⟨l2,h1,rfl⟩:=hr.mapo_inv
    exact .mapo k l2 (by grind)
   grind
  ·rename_i k z
   split at hcb
   ·rename_i c' q' p0 rs hk
    rw[Y8]at hcb
    have ec:=Vm hcb.1
    have eq:=beqL hcb.2
    subst ec;subst eq
    by_cases hv:Vd w v gs k
    ·have hv0:=hv
     obtain⟨p'',pp,h1,h2⟩:=hv
     rw[hk]at h1;injection h1 with h1;injection h1 with h1 _;subst h1
     obtain⟨⟨av,g1,g2⟩,_,_⟩:=hG k _ _ hk
     simp only[wayAV]at g1;split at g1
     ·rename_i j' hq
      obtain⟨⟨av',g3,g4⟩,_,_⟩:=hG j _ _ hj
      rw[hq]at g3;injection g3 with g3;subst g3
      simp only[nmAV,Y1]at g4;subst g4
      obtain⟨u0,k1,k2⟩:=ZmK hroot hob _ _ hq
      obtain⟨l0,k3,rfl⟩:=k2.ptr_inv
      rw[hl]at k3;injection k3 with k3;injection k3 with k3;subst k3
      have hpv:pvl w v (c::q')=some u:=by
       simp only[pvl,k1];simpa using hu
      simp only[pat,hpv,Y0]at h2
      rcases ZcP hr with ⟨l2,a,cap,q,rfl,b2,b3,b4,bz,ba⟩|⟨q,a,rfl⟩
      ·have hc0:cap=0:=by
        rcases V7 cap with h|h
        ·exact h
        ·simp only[vb]at h2
         grind
       subst hc0
       have:l2.cnt=0:=by omega
       rw[this];exact .oswv k z _ (hvd k hv0)
      ·exact .oswv k z _ (hvd k hv0)
     grind
    ·rcases ZcP hr with ⟨l2,a,cap,q,rfl,b2,b3,b4,bz,ba⟩|⟨q,a,rfl⟩
     ·exact .osw k z cap a l2 (by grind) b2 b3 b4 bz ba
     ·exact .oswv k z a (by grind)
   grind
  ·exact Rep.nil x u hcb hr
 refine⟨ιg,⟨?_,fun k p g hk=>⟨?_,?_⟩,fun k k' p p' g g' hk hk' l l' hl hl' b b1 b2=>hinj k k' p p' g g' hk hk' l l' (hback k l hl).2 (hback k' l' hl').2 b b1 b2,?_,fun k hk=>?_⟩,fun k l h=>(hback k l h).2⟩
 ·obtain⟨l,h1,rfl⟩:=hroot.ptr_inv
  refine .ptr 0 0 0 l ?_
  have hr0:=hB.1
  unfold rootB at hr0
  grind
 ·by_cases hv:Vd w v gs k
  ·have hv0:=hv
   obtain⟨p',pp,h1,h2⟩:=hv
   rw[hk]at h1;injection h1 with h1;injection h1 with _ h1;subst h1
   exact .inl ⟨hvd k hv0,rfl⟩
  ·have ho:=hob k p g hk
   cases g with
   |fmap z fs=>
    obtain⟨l,xs,clock,h1,h2,h3,h4⟩:=ho
    exact⟨l,xs,clock,by grind,h2,h3,h4.1,fun i e x he hx=>⟨(h4.2.1 i e x he hx).1,(h4.2.1 i e x he hx).2.1,fun q hq=>by cases hq⟩,h4.2.2⟩
   |rows p0 rs=>
    rcases ho with ⟨h1,h2⟩|⟨l,vals,h1,h2,h3,h4,h5⟩
    ·exact .inl ⟨by grind,h2⟩
    ·refine .inr ⟨l,vals,by grind,h2,h3,h4,?_⟩
     cases p0 with
     |true=>exact fun i r hr=>by have:=h5 i r hr;grind
     |false=>
      obtain⟨row,rfl,hrb⟩:=(hG k p _ hk).2.2 rs rfl
      intro i r hr
      have hi:i=0:=by have:=Zap hr;simp at this;exact this
      subst hi
      simp only[List.getElem?_cons_zero,Y1]at hr
      subst hr
      have hR:RepL S w ι row (vals 0):=h5.get rfl
      simp only[Yr,Y9]
      refine⟨hR.1,fun c x u hx hu=>?_⟩
      have hcl:=(h4.2.2 0 c u (by simp) hu).1
      rw[V6,YR]at hcl;exact hcell k p row hk hrb l h1 c x u hx hcl (hR.2 c x u hx hu)
 ·obtain⟨⟨av,h1,h2⟩,_,_⟩:=hG k p g hk
  obtain⟨u,h3,h4⟩:=ZmK hroot hob p av h1
  have hp:pat w v p=vb u:=by simp[pat,h3]
  by_cases hv:Vd w v gs k
  ·rw[hvd k hv]
   obtain⟨p',pp,g1,g2⟩:=hv
   rw[hk]at g1;injection g1 with g1;injection g1 with g1 _;subst g1
   rw[g2];rfl
  ·rw[hnv k hv,hp]
   rcases nm_vb h4 h2 with ⟨l,g1,g2|⟨g2,g3⟩⟩|⟨g1,g2⟩
   ·rw[g1,g2];rfl
   ·exfalso
    have ho:=hob k p g hk
    cases g with
    |rows p0 rs=>
     rcases ho with ⟨q,_⟩|⟨l',vals,q,hcnt,_⟩
     ·grind
     ·rw[g1]at q;injection q with q;injection q with q;subst q
      obtain rfl:rs=[]:=Yt.1 (by omega)
      exact hv ⟨p,p0,hk,by grind⟩
    |fmap z fs=>
     cases av with
     |ptr o r c=>
      obtain⟨l2,_,rfl⟩:=h4.ptr_inv
      cases g2
     |mapo o=>
      obtain⟨l2,_,rfl⟩:=h4.mapo_inv
      cases g2
     |osw o z'=>
      simp only[nmAV,Y1]at h2;subst h2
      cases p with
      |nil=>simp[wayAV]at h1
      |cons c q=>
       simp only[wayAV]at h1;split at h1
       ·rename_i j' hq
        split at h1
        ·rename_i p' row rest hj
         obtain⟨row',e,hrb⟩:=(hG j' p' _ hj).2.2 _ rfl
         injection e with e1 e2;subst e1
         have:=Zlj hrb c _ h1
         simp only[cellB,hk]at this;cases this
        grind
       grind
     |_=>cases h2
   ·rw[g1,g2];rfl
 ·exact fun c q g hm=>by
   obtain⟨j,hj⟩:=Wj hm
   grind
 ·rw[hnv k (fun hv=>by
   obtain⟨p,pp,h1,_⟩:=hv
   grind)]
  grind
theorem Inv.gfill(h:Inv C S ι un f a w){o i q:Nat}{es:List (AV×Gr)}{k:AV}{old gs:Gr}{V:List Nat}(ho:f.os o=some (.gmap es (some (i,q))))(hi:es[i]? =some (k,old))
 (hVl:V.length=gs.length) (hnd:V.Nodup) (hoV:o∉V) (hq:V.getD 0 0=q) (hob:∀(j:Nat) p g,gs[j]? =some (p,g)→∃x,f.os (V.getD j 0)=some x∧WkO x (renO (fun n=>V.getD n 0) g.ao))
 (hB:(rootB gs&&Zjp gs 0 gs&&idsG gs.length gs)=true):
 Inv C S ι un {f with os:=updO f.os ((o,some (.gmap (es.set i (k,gs)) none))::V.map fun q=>(q,none))} a w:=by
 rw[Y8]at hB
 obtain⟨hB1,hids⟩:=hB
 obtain⟨l,xs,clock,hlo,hheap,hlim,hF⟩:=h.ob o _ ho
 have hil:i<xs.size:=by rw[←hF.len];exact Zap hi
 obtain⟨x0,hx0⟩:∃x0,xs[i]? =some x0:=⟨_,YJ hil⟩
 let σ:Nat→Nat:=fun n=>V.getD n 0
 have hVg:∀j,j<gs.length→V[j]? =some (σ j):=fun j hj=>by
  grind
 have hmem:∀j,j<gs.length→σ j∈V:=fun j hj=>YA (hVg j hj)
 have hσinj:∀j j',j<gs.length→j'<gs.length→σ j=σ j'→j=j':=fun j j' hj hj' e=>by
  have h1:=hVg j hj;have h2:=hVg j' hj'
  rw[←e]at h2
  have hj1:j<V.length:=by omega
  have hj2:j'<V.length:=by omega
  exact(List.getElem?_inj hj1 hnd).1 (h1.trans h2.symm)
 have h0:0<gs.length:=by
  have hr0:rootB gs=true:=by rw[Y8]at hB1;exact hB1.1
  cases gs with
  |nil=>cases hr0
  |cons _ _=>simp
 let ι0:Imap:=ιback ι σ gs.length
 have hobj:∀(j:Nat) p g,gs[j]? =some (p,g)→ObjOk S w ι0 j g.ao:=fun j p g hj=>
  ObjOk.unren (Zap hj) (ZnM hids j p g hj) (by
   obtain⟨x,hx,hwk⟩:=hob j p g hj
   exact hwk.ok (h.ob _ x hx))
 have hroot:Rep S w ι0 (.ptr 0 0 0) x0.val:=by
  have:=(hF.at_ i _ x0 hi hx0).2.2 q rfl
  refine Rep.unren (.ptr 0 0 0) x0.val (Y2 h0) ?_
  show Rep S w ι (.ptr (σ 0) 0 0) x0.val
  rw[show σ 0=q from hq];exact this
 have hplace:∀k l,ι0 k=some (some l)→k<gs.length∧ι (σ k)=some (some l):=fun k l e=>by
  simp only[ι0,ιback]at e;simp_all
 have hfo:∀(j:Nat) p g,gs[j]? =some (p,g)→∃x,f.os (σ j)=some x∧x.live=true∧∀l2 b,footG w l2.blk g b→foot w x l2 b:=fun j p g hj=>by
  obtain⟨x,hx,hwk⟩:=hob j p g hj
  exact⟨x,hx,by rw[←hwk.live,Zcq];exact g.live,fun l2 b hb=>Zg3 hwk (Zlz.1 hb)⟩
 obtain⟨ιg,hG,hGι⟩:=Zrf hroot hobj (fun k hk=>by simp only[ι0,ιback];grind) (fun j j' p p' g g' hj hj' l1 l2 e1 e2 b b1 b2=>by
  obtain⟨k1,p1⟩:=hplace j l1 e1
  obtain⟨k2,p2⟩:=hplace j' l2 e2
  obtain⟨x1,hx1,hv1,hf1⟩:=hfo j p g hj
  obtain⟨x2,hx2,hv2,hf2⟩:=hfo j' p' g' hj'
  exact hσinj j j' k1 k2 (h.inj _ _ _ _ hx1 hx2 hv1 hv2 l1 l2 p1 p2 b (hf1 l1 b b1) (hf2 l2 b b2))) hB1
 have hown:∀b,gfoot w gs x0.val b→∃(j:Nat) (x:AO) (l2:Loc),j<gs.length∧f.os (σ j)=some x∧x.live=true∧ι (σ j)=some (some l2)∧foot w x l2 b:=by
  intro b hb
  obtain⟨j,p,g,l2,h1,h2,h3⟩:=hG.of_foot hb
  obtain⟨x,hx,hv,hf⟩:=hfo j p g h1
  exact⟨j,x,l2,Zap h1,hx,hv,(hplace j l2 (hGι j l2 h2)).2,hf l2 b h3⟩
 have hnot:∀b,gfoot w gs x0.val b→∀l3,ι o=some (some l3)→foot w (.gmap es (some (i,q))) l3 b→False:=by
  intro b hb l3 hl3 hf
  obtain⟨j,x,l2,hj,hx,hv,h2,h3⟩:=hown b hb
  have:=h.inj _ _ _ _ hx ho hv rfl l2 l3 h2 hl3 b h3 hf
  exact hoV (this▸hmem j hj)
 have hhole:∀j,j≠i→(some (i,q):Option (Nat×Nat)).map (·.1)≠some j:=fun j hj=>by
  grind
 have hset:∀(j:Nat) e,(es.set i (k,gs))[j]? =some e→(j=i∧e=(k,gs))∨(j≠i∧es[j]? =some e):=by
  intro j e he
  by_cases hj:j=i
  ·grind
  ·grind
 have hfoot:∀l3,ι o=some (some l3)→∀b,foot w (.gmap (es.set i (k,gs)) none) l3 b→foot w (.gmap es (some (i,q))) l3 b∨gfoot w gs x0.val b:=by
  rintro l3 hl3 b (hb|⟨xs3,c3,j,e,x,h1,h2,h3,h4,h5⟩)
  ·exact .inl (.inl hb)
  ·rw[hlo]at hl3;injection hl3 with hl3;injection hl3 with hl3;subst hl3
   rw[hheap]at h1;injection h1 with h1;injection h1 with q1 q2;subst q1
   rcases hset j e h2 with ⟨rfl,rfl⟩|⟨hj,h2⟩
   ·grind
   ·exact .inl (.inr ⟨xs,clock,j,e,x,hheap,h2,h3,hhole j hj,h5⟩)
 have hosU:∀k' y,updO f.os ((o,some (.gmap (es.set i (k,gs)) none))::V.map fun q=>(q,none)) k'=some y→(k'=o∧y=.gmap (es.set i (k,gs)) none)∨(k'≠o∧k'∉V∧f.os k'=some y):=by
  intro k' y hy
  have hn:∀(V:List Nat) (k:Nat),updO f.os (V.map fun q=>(q,none)) k=if k∈V then none else f.os k:=by
   intro V
   induction V with
   |nil=>intro k;rfl
   |cons q r ih=>
    intro k;simp only[Yp,updO,ih,Yj]
    grind
  simp only[updO]at hy
  by_cases e2:k'=o
  ·grind
  ·grind
 have hw:ZbH S w w:=fun _ _=>rfl
 have cross:∀k' y,k'≠o→k'∉V→f.os k'=some y→y.live=true→∀l',ι k'=some (some l')→∀b,foot w y l' b→∀l3,ι o=some (some l3)→foot w (.gmap (es.set i (k,gs)) none) l3 b→False:=by
  intro k' y hne hkV hy hly l' hl' b hb l3 hl3 hf
  rcases hfoot l3 hl3 b hf with hf|hf
  ·exact hne (h.inj k' o y _ hy ho hly rfl l' l3 hl' hl3 b hb hf)
  ·obtain⟨j,x,l2,hj,hx,hv,h2,h3⟩:=hown b hf
   have:=h.inj k' _ y _ hy hx hly hv l' l2 hl' h2 b hb h3
   grind
 refine h.turn (fun _ x=>x) hw (Imap.le_refl _) ?_ ?_ ?_ h.sb h.sn h.un h.fr
 ·intro k' y hy
  rcases hosU k' y hy with ⟨rfl,rfl⟩|⟨h1,h2,h3⟩
  ·refine⟨l,xs,clock,hlo,hheap,hlim,by simpa using hF.len,fun j e x he hx=>?_,fun j j' e e' x x' b he he' hx hx' _ _ h1 h2=>?_⟩
   ·rcases hset j e he with ⟨rfl,rfl⟩|⟨hj,he⟩
    ·rw[hx0]at hx;injection hx with hx;subst hx
     exact⟨(hF.at_ j _ x0 hi hx0).1,fun _=>⟨⟨ιg,hG⟩,fun b hb e=>hnot b hb l hlo (.inl e)⟩,fun q hq=>by cases hq⟩
    ·obtain⟨j1,j2,_⟩:=hF.at_ j e x he hx
     grind
   ·rcases hset j e he with ⟨hj,rfl⟩|⟨hj,he2⟩<;>rcases hset j' e' he' with ⟨hj',rfl⟩|⟨hj',he2'⟩
    ·omega
    ·subst hj
     rw[hx0]at hx;injection hx with hx;subst hx
     exact(hnot b h1 l hlo (.inr ⟨xs,clock,j',e',x',hheap,he2',hx',hhole j' hj',h2⟩)).elim
    ·subst hj'
     rw[hx0]at hx';injection hx' with hx';subst hx'
     exact(hnot b h2 l hlo (.inr ⟨xs,clock,j,e,x,hheap,he2,hx,hhole j hj,h1⟩)).elim
    ·exact hF.inj j j' e e' x x' b he2 he2' hx hx' (hhole j hj) (hhole j' hj') h1 h2
  ·exact(h.ob k' y h3).mono (fun _ x=>x) hw (Imap.le_refl _) (fun _ _ _ _ _=>rfl)
 ·intro k' y hy hly l' hl' b hb
  rcases hosU k' y hy with ⟨rfl,rfl⟩|⟨h1,h2,h3⟩
  ·rcases hfoot l' hl' b hb with hb|hb
   ·exact h.own k' _ ho rfl l' hl' b hb
   ·obtain⟨j,x,l2,hj,hx,hv,h2,h3⟩:=hown b hb
    exact h.own _ _ hx hv l2 h2 b h3
  ·exact h.own k' y h3 hly l' hl' b hb
 ·intro k1 k2 y1 y2 hy1 hy2 hv1 hv2 l1 l2 e1 e2 b hb1 hb2
  rcases hosU k1 y1 hy1 with ⟨rfl,rfl⟩|⟨h1,h2,h3⟩<;>rcases hosU k2 y2 hy2 with ⟨g0,g⟩|⟨g1,g2,g3⟩
  ·omega
  ·grind
  ·grind
  ·exact h.inj k1 k2 y1 y2 h3 g3 hv1 hv2 l1 l2 e1 e2 b hb1 hb2
theorem ZpR{op:Op}{v:AV}{U:List (Nat×Option AO)}{RO:List Nat}(hop:o.op=op)(h:Inv C S ι un f a w)
 (hst:GStep P (evA C.G f.g) f.os id op v U RO) (hid:∀x,id≤x→x<id+W→un x) (hd:∀d,o.dst=some d→C.N.lo≤d∧d<C.N.n) (hn:Goes C un id o f v U next):o.wp P a w next Q:=by
 have unw:∀x,un x∧¬(id≤x∧x<id+W)→un x∧x≠id:=fun x hx=>unW hx
 cases hst with
 |look t kt m k ok ob es i e hm ho ht hk hr he hW=>
  have hmv:=h.ev m;have hkv:=h.ev k
  rw[hm]at hmv
  obtain⟨l,hl,hmm⟩:=hmv.mapo_inv
  obtain⟨l',xs,clock,hl',hheap,hxl,hF⟩:=h.ob ob _ ho
  rw[hl]at hl';injection hl' with hl';injection hl' with hl';subst hl'
  obtain⟨hki,hck,⟨d,hd'⟩,hsb⟩:=Zdv hk hkv
  obtain⟨e',hfe,her,hey⟩:=Zc5 hd' hk hkv (Zdm.ofG hF) hr
  unfold keyT at ht;split at ht
  ·rename_i kk ee hut
   injection ht with ht;subst ht
   have hfk:(Instr.findKey kk (a.eval k) xs.toList).run P w=.ok e' w:=hfe
   obtain⟨⟨j',y⟩,rfl⟩:∃p,e'=some p:=by cases e' with|none=>grind|some p=>simp
   simp only[Yq,Y1]at her;subst her
   obtain⟨x0,hx0,hy0⟩:=hey j' y rfl
   obtain⟨ι',hle,hrep,hinv⟩:=h.glend hid ho he hW hl hheap (x:=x0) (by simp_all)
   have hrun:(execOp a.eval o).run P w=.ok (.value (if ok then .tuple #[y,.bool true]else y)) w:=by
    unfold execOp;rw[hop];simp only[hmm,Instr.lookup,Y6,Y5 hut,Result.andThen_ok,ZbB hheap,Sem.run_pure,hck,hfk]
   unfold Oper.wp;rw[hrun,Oper.upon_value];rw[hy0]at hrep
   refine Inv.goes hn hinv (fun x hx=>hx) ?_ hd
   cases ok
   ·exact hrep
   ·exact RepL.tupr (RepL.cons hrep (RepL.cons (.imm _ _ (.bool _)) .nil))
  grind
 |same t kt m k ok ob q es i hm ho ht hk hr=>
  have hmv:=h.ev m;have hkv:=h.ev k
  rw[hm]at hmv
  obtain⟨l,hl,hmm⟩:=hmv.mapo_inv
  obtain⟨l',xs,clock,hl',hheap,hxl,hF⟩:=h.ob ob _ ho
  rw[hl]at hl';injection hl' with hl';injection hl' with hl';subst hl'
  obtain⟨hki,hck,⟨d,hd'⟩,hsb⟩:=Zdv hk hkv
  obtain⟨e',hfe,her,hey⟩:=Zc5 hd' hk hkv (Zdm.ofG hF) hr
  unfold keyT at ht;split at ht
  ·rename_i kk ee hut
   injection ht with ht;subst ht
   have hfk:(Instr.findKey kk (a.eval k) xs.toList).run P w=.ok e' w:=hfe
   obtain⟨⟨j',y⟩,rfl⟩:∃p,e'=some p:=by cases e' with|none=>grind|some p=>simp
   simp only[Yq,Y1]at her;subst her
   obtain⟨x0,hx0,hy0⟩:=hey j' y rfl
   have hx0':xs[j']? =some x0:=by rw[←Wg];exact hx0
   have hil:j'<es.length:=by rw[hF.len];exact(Wm.1 hx0').1
   have hrep:=(hF.at_ j' _ x0 (Y3 hil) hx0').2.2 q rfl
   have hrun:(execOp a.eval o).run P w=.ok (.value (if ok then .tuple #[y,.bool true]else y)) w:=by
    unfold execOp;rw[hop];simp only[hmm,Instr.lookup,Y6,Y5 hut,Result.andThen_ok,ZbB hheap,Sem.run_pure,hck,hfk]
   refine ZaK hn h hd hrun ?_
   rw[hy0]at hrep;cases ok
   ·exact hrep
   ·exact RepL.tupr (RepL.cons hrep (RepL.cons (.imm _ _ (.bool _)) .nil))
  grind
 |lookNo t kt m k ok ob es hh v hm ho ht hk hr hv=>
  have hmv:=h.ev m;have hkv:=h.ev k
  rw[hm]at hmv
  obtain⟨l,hl,hmm⟩:=hmv.mapo_inv
  obtain⟨l',xs,clock,hl',hheap,hxl,hF⟩:=h.ob ob _ ho
  rw[hl]at hl';injection hl' with hl';injection hl' with hl';subst hl'
  obtain⟨hki,hck,⟨d,hd'⟩,hsb⟩:=Zdv hk hkv
  obtain⟨e',hfe,her,hey⟩:=Zc5 hd' hk hkv (Zdm.ofG hF) hr
  unfold keyT at ht;split at ht
  ·rename_i kk ee hut
   injection ht with ht;subst ht
   have hfk:(Instr.findKey kk (a.eval k) xs.toList).run P w=.ok e' w:=hfe
   cases e' with
   |some p=>grind
   |none=>
    obtain⟨vt,zv,hvt,hz,hwk⟩:=hv
    have hvt':ee=vt:=by unfold valT at hvt;rw[hut]at hvt;simpa using hvt
    subst hvt';unfold zeroV at hz;split at hz
    ·cases hz
    ·rename_i i hi
     split at hz
     ·rename_i zv' hzv
      injection hz with hz;subst hz
      have hzr:(zeroValue ee).run P w=.ok zv' w:=by simp[zeroValue,typeInfo,hi,hzv]
      have hrun:(execOp a.eval o).run P w=.ok (.value (if ok then .tuple #[zv',.bool false]else zv')) w:=by
       unfold execOp;rw[hop];simp only[hmm,Instr.lookup,Y6,Y5 hut,Result.andThen_ok,ZbB hheap,Sem.run_pure,hck,hfk,hzr]
      refine ZaK hn h hd hrun ?_
      have:=hwk.rep _ (Rep.imm (S:=S) (w:=w) (ι:=ι) _ _ (Zfd zv'))
      cases ok
      ·exact this
      ·exact RepL.tupr (RepL.cons this (RepL.cons (.imm _ _ (.bool _)) .nil))
     grind
  grind
 |mk t hk=>
  have hrun:(execOp a.eval o).run P w=.ok (.value (.map (some w.heap.size))) (w.alloc (.map #[] 0)):=by
   unfold execOp;rw[hop];simp only[Instr.makeMap,Option.map_none,Y6,Sem.run_pure,run_newObj,Result.andThen_ok];rfl
  unfold Oper.wp;rw[hrun,Oper.upon_value]
  have hh:(w.alloc (.map #[] 0)).heap[w.heap.size]? =some (.map #[] 0):=by show(w.heap.push _)[w.heap.size]? =_;simp
  obtain⟨ι',hle,hι',hinv⟩:=h.alloc (hidW hid) (.map #[] 0) ⟨w.heap.size,0,0,0,0⟩ rfl (.gmap [] none) rfl (fun b hb=>by
   rcases hb with hb|⟨xs,c,i,e,x,h1,h2,_⟩
   all_goals simp_all) (fun ι' hle hι'=>
   ⟨_,#[],0,hι',hh,⟨by simp,Zjk⟩,rfl,fun i e x h=>by simp at h,fun i j e e' x x' b h=>by simp at h⟩)
  exact Inv.goes hn hinv unw (.mapo id _ hι') hd
 |put _ t kt m k x hop' ob q es hm ho ht hk hr hlim hx g0=>
  have hmv:=h.ev m;have hkv:=h.ev k;have hxv:=h.ev x
  rw[hm]at hmv;rw[hx]at hxv
  obtain⟨l,hl,hmm⟩:=hmv.mapo_inv
  obtain⟨l',xs,clock,hl',hheap,hxl,hF⟩:=h.ob ob _ ho
  rw[hl]at hl';injection hl' with hl';injection hl' with hl';subst hl'
  obtain⟨hki,hck,⟨d,hd'⟩,hsb⟩:=Zdv hk hkv
  obtain⟨e',hfe,her,hey⟩:=Zc5 hd' hk hkv (Zdm.ofG hF) hr
  unfold keyT at ht;split at ht
  ·rename_i kk ee hut
   injection ht with ht;subst ht
   have hfk:(Instr.findKey kk (a.eval k) xs.toList).run P w=.ok e' w:=hfe
   have hex:(execOp a.eval o)=(do Instr.mapUpdate t (a.eval m) (a.eval k) (a.eval x);pure .skip:Sem Next):=by
    unfold execOp;rw[hop];rcases hop' with rfl|rfl<;>rfl
   have he:e'=none:=by cases e' with|none=>rfl|some p=>grind
   subst he
   have hrun:(execOp a.eval o).run P w=.ok .skip {w with heap:=w.heap.setIfInBounds l.blk (.map (xs.push {key:=a.eval k,val:=a.eval x,born:=clock}) (clock+1))}:=by
    rw[hex,hmm];simp only[Instr.mapUpdate,Y6,Y5 hut,Result.andThen_ok,ZbB hheap,hck,hfk,Zex _ hheap,Sem.run_pure]
   unfold Oper.wp;rw[hrun,Oper.upon_skip]
   have hinv:=h.gput ho hl hheap (k:=evA C.G f.g k) (kv:=a.eval k) (hki) hxv (Zk0 hr (Zdm.ofG hF) hkv) hlim g0
   exact Inv.goes hn hinv (fun x hx=>hx.1) (.imm _ _ (.undef _)) hd
  grind
end
theorem ZiB{α β:Type}{f:α→Option β}:∀{l:List α} {l':List β},Zel f l=some l'→
 l.length=l'.length∧∀(i:Nat) x y,l[i]? =some x→l'[i]? =some y→f x=some y:=by
 intro l
 induction l with
 |nil=>intro l' h;simp only[Zel,Y1]at h;simp_all
 |cons a r ih=>
  intro l' h;simp only[Zel]at h
  grind
section
variable {S:Nat→Prop}{w:World}{ι:Imap}{ol:Nat→Option AO}
def SV(S:Nat→Prop)(ι:Imap)(ol:Nat→Option AO)(V:List Nat)(b:Nat):Prop:=
 S b∨∃o x l,o∈V∧ol o=some x∧ι o=some (some l)∧b=l.blk
theorem ZhD{V:List Nat}{cl:AV→Option AV}(hcl:∀x v x',Rep S w ι x v→cl x=some x'→IRep (SV S ι ol V) w x' v)
 {o:Nat} {y:AO} {rs:List (List AV)} (hy:ObjOk S w ι o y) (h:ZgC cl y=some rs):
 (ι o=some none∧rs=[])∨∃l vals,ι o=some (some l)∧rs.length=l.cnt∧ZgS w l rs.length vals∧
  ∀(i:Nat) row,rs[i]? =some row→IRepL (SV S ι ol V) w row (vals i):=by
 have up:∀{row:List AV} {vs:List Value},IRepL S w row vs→IRepL (SV S ι ol V) w row vs:=fun h=>h.mono (fun b hb=>.inl hb) (fun _ _=>rfl)
 unfold ZgC at h;split at h
 ·injection h with h;subst h
  rcases hy with h|⟨l,vals,h1,h2,h3,h4,h5⟩
  ·grind
  ·exact .inr ⟨l,vals,h1,h2,h4,fun i row hr=>up (by have:=h5 i row hr;simp_all)⟩
 ·rename_i rs0
  obtain⟨hlen,hpt⟩:=ZiB h
  rcases hy with ⟨q,rfl⟩|⟨l,vals,h1,h2,h3,h4,h5⟩
  ·grind
  ·refine .inr ⟨l,vals,h1,by omega,by simp_all,fun i row hr=>?_⟩
   have hi:i<rs0.length:=by rw[hlen];exact Zap hr
   have hr0:=Y3 hi
   have:=hpt i _ _ hr0 hr
   obtain⟨hl2,hp2⟩:=ZiB this
   have hrep:=h5.get hr0
   refine⟨by rw[←hl2];exact hrep.1,fun j x v hx hv=>?_⟩
   have hj:j<rs0[i].length:=by rw[hl2];exact Zap hx
   have hx0:=Y3 hj
   exact hcl _ _ _ (hrep.2 j _ v hx0 hv) (hp2 j _ _ hx0 hx)
 ·injection h with h;subst h
  rcases hy with h|⟨l,vals,h1,h2,h3,h4,h5⟩
  ·grind
  ·exact .inr ⟨l,vals,h1,h2,h4,fun i row hr=>up (by have:=h5 i row hr;simp_all)⟩
 all_goals simp_all
theorem IRep.empty{S:Nat→Prop}{w:World}(a:Option Addr)(cap:Nat):(a=none→cap=0)→IRep S w (.sl []) (.slice a 0 cap):=by
 intro h
 cases a with
 |none=>rw[h rfl];exact .snil
 |some a=>
  exact IRep.sl [] a cap 0 (fun _=>[]) (by simp) (by simp) (fun h=>absurd rfl h) (fun i r h=>by simp at h) (fun i j v h=>by simp at h) (fun i j r x v h=>by simp at h)
theorem Zfw{V:List Nat}(hob:∀o x,ol o=some x→ObjOk S w ι o x):∀(n:Nat) (x:AV) (v:Value) (x':AV),Rep S w ι x v→
 ZaT V ol n x=some x'→IRep (SV S ι ol V) w x' v:=by
 intro n
 induction n with
 |zero=>intro x v x' _ h;simp[ZaT]at h
 |succ n ih=>
  intro x v x' hr h
  have up:∀{x:AV} {v:Value},IRep S w x v→IRep (SV S ι ol V) w x v:=fun h=>h.mono (fun b hb=>.inl hb) (fun _ _=>rfl)
  have lists:∀{cs cs':List AV} {vs:List Value},RepL S w ι cs vs→Zel (ZaT V ol n) cs=some cs'→IRepL (SV S ι ol V) w cs' vs:=by
   intro cs cs' vs hL hm
   obtain⟨hl,hp⟩:=ZiB hm
   refine⟨by rw[←hl];exact hL.1,fun j x v hx hv=>?_⟩
   have hj:j<cs.length:=by rw[hl];exact Zap hx
   have hx0:=Y3 hj
   exact ih _ _ _ (hL.2 j _ v hx0 hv) (hp j _ _ hx0 hx)
  cases x with
  |osw o z=>
   simp only[ZaT]at h;split at h
   ·rename_i hV
    split at h
    ·rename_i y hy
     simp only[Ye]at h
     obtain⟨rs,hrs,rfl⟩:=h
     rcases ZhD ih (hob o y hy) hrs with ⟨q,rfl⟩|⟨l,vals,q,hcnt,hat,hrep⟩
     ·rcases ZcP hr with ⟨l',ab,cap,q',_⟩|⟨q',ab,rfl⟩
      ·simp_all
      ·exact IRep.empty ab 0 (fun _=>rfl)
     ·rcases ZcP hr with ⟨l',ab,cap,q',rfl,h2,h3,h4,hz,ha⟩|⟨q',ab,rfl⟩
      ·rw[q]at q';injection q' with q';injection q' with q';subst q'
       rw[←hcnt]
       refine IRep.sl rs ab cap l.esz vals (by omega) (by omega) (fun hne=>?_) (fun i r hri=>?_) (fun i j v hi hv=>?_) (fun i j r x v h1 h2 h3=>?_)
       ·have:0<rs.length:=WN.2 hne
        rw[ha (by omega)]
        exact⟨.inr ⟨o,y,l,by simp_all,hy,q,rfl⟩,rfl⟩
       ·have:=(hrep i r hri).1
        have h5:=hat.2.1 i (Zap hri)
        omega
       ·have:0<rs.length:=by omega
        rw[ha (by omega)]
        exact hat.2.2 i j v hi hv
       ·exact(hrep i r h1).2 j x v h2 h3
      simp_all
    ·cases h
   ·cases h
  |osl o off len room=>
   simp only[ZaT]at h;split at h
   ·rename_i hV
    split at h
    ·rename_i y hy
     simp only[Ye]at h
     obtain⟨rs,hrs,rfl⟩:=h
     rcases ZhD ih (hob o y hy) hrs with ⟨q,rfl⟩|⟨l,vals,q,hcnt,hat,hrep⟩
     ·rcases Zil hr with ⟨l',ab,cap,q',_⟩|⟨q',rfl,rfl,rfl,ab,rfl⟩
      ·simp_all
      ·simpa using IRep.empty ab 0 (fun _=>rfl)
     ·rcases Zil hr with ⟨l',ab,cap,q',rfl,h1,h2,h3,h4,h5,ha⟩|⟨q',_⟩
      ·rw[q]at q';injection q' with q';injection q' with q';subst q'
       have hlen:((rs.drop off).take len).length=len:=by simp;omega
       have hget:∀(i:Nat) r,((rs.drop off).take len)[i]? =some r→i<len∧rs[off+i]? =some r:=by
        intro i r hri
        rw[W7]at hri
        split at hri
        ·simp_all
        ·cases hri
       have:=IRep.sl (S:=SV S ι ol V) (w:=w) ((rs.drop off).take len) ab cap l.esz (fun i=>vals (off+i)) (by omega) (by omega) (fun hne=>by
        have:0<((rs.drop off).take len).length:=WN.2 hne
        rw[ha (by omega)]
        exact⟨.inr ⟨o,y,l,by simp_all,hy,q,rfl⟩,rfl⟩) (fun i r hri=>by
         obtain⟨hi,hg⟩:=hget i r hri
         have:=(hrep _ r hg).1
         have h5:=hat.2.1 _ (Zap hg)
         omega) (fun i j v hi hv=>by
         rw[hlen]at hi
         rw[ha (by omega)]
         have:=hat.2.2 (off+i) j v (by omega) hv
         grind) (fun i j r x v h1 h2 h3=>by
         obtain⟨hi,hg⟩:=hget i r h1
         exact(hrep _ r hg).2 j x v h2 h3)
       simp_all
      simp_all
    ·cases h
   ·cases h
  |ptr o r c=>
   simp only[ZaT]at h;split at h
   ·rename_i hV
    split at h
    ·rename_i y hy
     split at h
     ·rename_i rs hrs
      split at h
      ·rename_i row hrow
       injection h with h;subst h
       obtain⟨l,hl,rfl⟩:=hr.ptr_inv
       rcases ZhD ih (hob o y hy) hrs with ⟨q,rfl⟩|⟨l',vals,q,hcnt,hat,hrep⟩
       ·simp_all
       ·rw[q]at hl;injection hl with hl;injection hl with hl;subst hl
        have hi:=Zap hrow
        have hL:=hrep r row hrow
        have:=IRep.rp (S:=SV S ι ol V) (w:=w) row c l'.blk (l'.base+r*l'.esz) (vals r) (.inr ⟨o,y,l',by simp_all,hy,q,rfl⟩) hL.1 (fun j v hv=>by
         have:=hat.2.2 r j v hi hv
         grind) hL.2
        grind
      ·cases h
     ·cases h
    ·cases h
   ·cases h
  |agg cs=>
   simp only[ZaT,Ye]at h
   obtain⟨cs',hc,rfl⟩:=h
   obtain⟨vs,rfl,hL⟩:=hr.agg_inv
   have:=lists hL hc
   exact .agg _ _ (by simpa using this.1) (fun j x v hx hv=>this.2 j x v hx (by simp_all))
  |tup cs=>
   simp only[ZaT,Ye]at h
   obtain⟨cs',hc,rfl⟩:=h
   obtain⟨vs,rfl,hL⟩:=hr.tup_inv
   have:=lists hL hc
   exact .tup _ _ (by simpa using this.1) (fun j x v hx hv=>this.2 j x v hx (by simp_all))
  |fn f cs=>
   simp only[ZaT,Ye]at h
   obtain⟨cs',hc,rfl⟩:=h
   obtain⟨vs,rfl,hL⟩:=hr.fn_inv
   have:=lists hL hc
   exact .fn _ _ _ (by simpa using this.1) (fun j x v hx hv=>this.2 j x v hx (by simp_all))
  |esl=>simp only[ZaT,Y1]at h;subst h;exact up (hr.free rfl)
  |mapo o=>simp[ZaT]at h
  |int k m=>simp only[ZaT,Y1]at h;subst h;exact up (hr.free rfl)
  |bool b=>simp only[ZaT,Y1]at h;subst h;exact up (hr.free rfl)
  |str s=>simp only[ZaT,Y1]at h;subst h;exact up (hr.free rfl)
  |sl xs=>simp only[ZaT,Y1]at h;subst h;exact up (hr.free rfl)
  |rp row c=>simp only[ZaT,Y1]at h;subst h;exact up (hr.free rfl)
  |con u=>simp only[ZaT,Y1]at h;subst h;exact up (hr.free rfl)
  |undef=>simp only[ZaT,Y1]at h;subst h;exact up (hr.free rfl)
  |anyb p=>simp only[ZaT,Y1]at h;subst h;exact up (hr.free rfl)
theorem ZmD{V:List Nat}(hob:∀o x,ol o=some x→ObjOk S w ι o x){n:Nat}{cs cs':List AV}{vs:List Value}(hL:RepL S w ι cs vs)
 (hm:Zel (ZaT V ol n) cs=some cs'):IRepL (SV S ι ol V) w cs' vs:=by
 obtain⟨hl,hp⟩:=ZiB hm
 refine⟨by rw[←hl];exact hL.1,fun j x v hx hv=>?_⟩
 have hj:j<cs.length:=by rw[hl];exact Zap hx
 have hx0:=Y3 hj
 exact Zfw hob n _ _ _ (hL.2 j _ v hx0 hv) (hp j _ _ hx0 hx)
end
theorem ZiR:∀{cs:List AV} {x:AV},flatL cs=true→x∈cs→flat x=true:=by
 intro cs
 induction cs with
 |nil=>simp
 |cons a r ih=>
  intro x h hm;simp only[flatL,Y8]at h
  grind
theorem IRep.flat{S S':Nat→Prop}{w w':World}{x:AV}{v:Value}(h:IRep S w x v)(hf:flat x=true):IRep S' w' x v:=by
 induction h with
 |int k n=>exact .int k n
 |bool b=>exact .bool b
 |str s=>exact .str s
 |con v h=>exact .con v h
 |agg cs vs hl _ ih=>
  refine .agg cs vs hl (fun j x v hx hv=>ih j x v hx hv ?_)
  simp only[Ab.flat]at hf;exact ZiR hf (YA hx)
 |tup cs vs hl _ ih=>
  refine .tup cs vs hl (fun j x v hx hv=>ih j x v hx hv ?_)
  simp only[Ab.flat]at hf;exact ZiR hf (YA hx)
 |_=>simp[Ab.flat]at hf
theorem Rep.flat{S S':Nat→Prop}{w w':World}{ι:Imap}{x:AV}{v:Value}(h:Rep S w ι x v)(hf:flat x=true):IRep S' w' x v:=by
 induction h with
 |imm x v h=>exact h.flat hf
 |agg cs vs hl _ ih=>
  refine .agg cs vs hl (fun j x v hx hv=>ih j x v hx hv ?_)
  simp only[Ab.flat]at hf;exact ZiR hf (YA hx)
 |tup cs vs hl _ ih=>
  refine .tup cs vs hl (fun j x v hx hv=>ih j x v hx hv ?_)
  simp only[Ab.flat]at hf;exact ZiR hf (YA hx)
 |_=>simp[Ab.flat]at hf
theorem Zmn{V:List Nat}{ol:Nat→Option AO}{n:Nat}{U:List (Nat×Option AO)}(h:frozen V ol n=some U)(base:Nat→Option AO)(o:Nat):
 (o∈V∧∃y rs,ol o=some y∧ZgC (ZaT V ol n) y=some rs∧updO base U o=some (.froz rs))∨(o∉V∧updO base U o=base o):=by
 unfold frozen at h
 have:∀(V':List Nat) (U:List (Nat×Option AO)),Zel (fun o=>match ol o with|some y=>(ZgC (ZaT V ol n) y).map fun rs=>(o,some (AO.froz rs))|none=>none) V'=some U→
  (o∈V'∧∃y rs,ol o=some y∧ZgC (ZaT V ol n) y=some rs∧updO base U o=some (.froz rs))∨(o∉V'∧updO base U o=base o):=by
  intro V'
  induction V' with
  |nil=>intro U h;simp only[Zel,Y1]at h;subst h;exact .inr ⟨by simp,rfl⟩
  |cons k r ih=>
   intro U h;simp only[Zel]at h;split at h
   ·rename_i y s hy hs
    injection h with h;subst h
    split at hy
    ·rename_i z hz
     simp only[Ye]at hy
     obtain⟨rs,hrs,rfl⟩:=hy
     by_cases e:o=k
     ·subst e
      left;exact⟨by simp,z,rs,hz,hrs,by simp[updO]⟩
     ·rcases ih s hs with ⟨h1,h2⟩|⟨h1,h2⟩
      ·left;refine⟨by simp[h1],?_⟩
       obtain⟨y,rs',q1,q2,q3⟩:=h2
       exact⟨y,rs',q1,q2,by simp[updO,e,q3]⟩
      ·right;exact⟨by grind,by simp[updO,e,h2]⟩
    grind
   ·cases h
 exact this V U h
section
variable {C:Cx}{S:Nat→Prop}{w:World}{ι:Imap}{P:Program}{un:Nat→Prop}{f:FS}{a:Act}{id:Nat}{o:Oper}
 {next:Act→World→Prop} {Q:Exit→Act→World→Prop}
theorem SV_lt(h:Inv C S ι un f a w)(V:List Nat):∀b,SV S ι f.os V b→b<w.heap.size:=by
 rintro b (hb|⟨o',x,l,_,hox,hl,rfl⟩)
 ·exact h.sb b hb
 ·by_cases hlv:x.live=true
  ·exact(h.own o' x hox hlv l hl _ (.inl rfl)).2.2
  ·have:=h.ob o' x hox
   cases x with
   |froz rs=>
    rcases this with ⟨q,_⟩|⟨l',vals,q,_,hS,_⟩
    ·simp_all
    ·rw[q]at hl;injection hl with hl;injection hl with hl;subst hl;exact h.sb _ hS
   |rows p rs=>exact absurd rfl hlv
   |mapo p es=>exact absurd rfl hlv
   |fmap z fs hh=>exact absurd rfl hlv
   |gmap es hh=>exact absurd rfl hlv
   |lit rs=>exact absurd rfl hlv
theorem Inv.freeze(h:Inv C S ι un f a w){V:List Nat}{n:Nat}{U:List (Nat×Option AO)}(hU:frozen V f.os n=some U):
 Inv C (SV S ι f.os V) ι un {f with os:=updO f.os U} a w:=by
 have hcase:∀o x,updO f.os U o=some x→(o∈V∧∃y rs,f.os o=some y∧ZgC (ZaT V f.os n) y=some rs∧x=.froz rs)∨(o∉V∧f.os o=some x):=by
  intro o x hx
  rcases Zmn hU f.os o with ⟨h1,y,rs,h2,h3,h4⟩|⟨h1,h2⟩
  ·simp_all
  ·simp_all
 refine h.turn (fun b hb=>.inl hb) (fun _ _=>rfl) (Imap.le_refl _) ?_ ?_ ?_ (SV_lt h V) (fun b hb=>?_) h.un h.fr
 ·intro o x hx
  rcases hcase o x hx with ⟨h1,y,rs,h2,h3,rfl⟩|⟨h1,h2⟩
  ·rcases ZhD (Zfw h.ob n) (h.ob o y h2) h3 with ⟨q,rfl⟩|⟨l,vals,q,hcnt,hat,hrp⟩
   ·exact .inl ⟨q,rfl⟩
   ·exact .inr ⟨l,vals,q,hcnt,.inr ⟨o,y,l,h1,h2,q,rfl⟩,hat,fun i r hr=>by simp_all⟩
  ·exact(h.ob o x h2).mono (fun b hb=>.inl hb) (fun _ _=>rfl) (Imap.le_refl _) (fun _ _ _ _ _=>rfl)
 ·intro o x hx hlv l hl b hb
  rcases hcase o x hx with ⟨h1,y,rs,h2,h3,rfl⟩|⟨h1,h2⟩
  ·cases hlv
  ·have:=h.own o x h2 hlv l hl b hb
   refine⟨this.1,fun hs=>?_,this.2.2⟩
   rcases hs with q|⟨o2,x2,l2,q1,q2,q3,q4⟩
   ·simp_all
   ·by_cases hlv2:x2.live=true
    ·have:=h.inj o o2 x x2 h2 q2 hlv hlv2 l l2 hl q3 b hb (.inl q4)
     simp_all
    ·have hob2:=h.ob o2 x2 q2
     cases x2 with
     |froz rs=>
      rcases hob2 with ⟨q,_⟩|⟨l',vals,q,_,hS,_⟩
      all_goals simp_all
     |rows p rs=>exact absurd rfl hlv2
     |mapo p es=>exact absurd rfl hlv2
     |fmap z fs hh=>exact absurd rfl hlv2
     |gmap es hh=>exact absurd rfl hlv2
     |lit rs=>exact absurd rfl hlv2
 ·intro o1 o2 x1 x2 hx1 hx2 hlv1 hlv2 l1 l2 e1 e2 b hb hb2
  rcases hcase o1 x1 hx1 with ⟨h1,y,rs,h2,h3,rfl⟩|⟨h1,h2⟩
  ·cases hlv1
  ·rcases hcase o2 x2 hx2 with ⟨g1,y,rs,g2,g3,rfl⟩|⟨g1,g2⟩
   ·cases hlv2
   ·exact h.inj o1 o2 x1 x2 h2 g2 hlv1 hlv2 l1 l2 e1 e2 b hb hb2
 ·rcases hb with q|⟨o2,x2,l2,q1,q2,q3,q4⟩
  ·exact h.sn b q
  ·subst q4
   by_cases hlv2:x2.live=true
   ·right;exact(h.own o2 x2 q2 hlv2 l2 q3 _ (.inl rfl)).1
   ·have hob2:=h.ob o2 x2 q2
    cases x2 with
    |froz rs=>
     rcases hob2 with ⟨q,_⟩|⟨l',vals,q,_,hS,_⟩
     ·simp_all
     ·rw[q]at q3;injection q3 with q3;injection q3 with q3;subst q3
      exact h.sn _ hS
    |rows p rs=>exact absurd rfl hlv2
    |mapo p es=>exact absurd rfl hlv2
    |fmap z fs hh=>exact absurd rfl hlv2
    |gmap es hh=>exact absurd rfl hlv2
    |lit rs=>exact absurd rfl hlv2
end
section
variable {C:Cx}{S:Nat→Prop}{w:World}{ι:Imap}{P:Program}{un:Nat→Prop}{f:FS}{a:Act}{id:Nat}{o:Oper}
 {next:Act→World→Prop} {Q:Exit→Act→World→Prop}
theorem ZjQ{t:TypeId}{x y:Operand}{ob i c:Nat}{p:Bool}{rs:List (List AV)}{row cs:List AV}{b:Bool}{n:Nat}{v:AV}(hop:o.op=.store t x y)(h:Inv C S ι un f a w)
 (hx:Rep S w ι (.ptr ob i c) (a.eval x)) (ho:f.os ob=some (.rows p rs)) (hr:rs[i]? =some row) (hy:Rep S w ι v (a.eval y)) (hc:ZbE v=some cs) (hk:kindT P t=some (b,n)) (hlen:cs.length=n)
 (hb:c+n≤row.length) (hd:∀d,o.dst=some d→C.N.lo≤d∧d<C.N.n) (hn:Goes C un id o f .undef [(ob,some (.rows (p&&cs.all Zb8) (rs.set i (setAt row c cs))))] next):o.wp P a w next Q:=by
 obtain⟨l,hl1,hv⟩:=hx.ptr_inv
 obtain⟨hvs,hall⟩:=ZeD hc hy
 rcases h.ob ob _ ho with ⟨q,_⟩|⟨l',vals,q,hcnt,hm,hat,hrep⟩
 ·simp_all
 ·rw[q]at hl1;injection hl1 with hl1;injection hl1 with hl1;subst hl1
  have hi:=Zap hr
  have hrl:=(hrep.get hr).1
  have hve:=hat.2.1 i hi
  have hsz:l'.base+(i*l'.esz+c)+n≤l'.size:=by
   have:(i+1)*l'.esz≤rs.length*l'.esz:=Yo _ hi
   rw[YT]at this
   have:=hat.1
   omega
  have hvl:(a.eval y).cells.toList.length=n:=by rw[←hvs.1];exact hlen
  have hstore:(storeCells ⟨l'.blk,l'.base+(i*l'.esz+c),none⟩ (a.eval y).cells.toList 0).run P w=
   .ok () (w.setCells l'.blk (l'.base+(i*l'.esz+c)) (a.eval y).cells.toList):=by
   refine WY _ _ _ 0 w (fun j hj=>?_) (fun j hj=>?_) (fun v hv=>?_)
   ·obtain⟨u,hu⟩:=(hm (l'.base+(i*l'.esz+c)+j)).1 (by omega)
    simp_all
   ·simp only[Nat.add_zero]
    exact(hm (l'.base+(i*l'.esz+c)+j)).2 (.inl (by omega))
   ·exact ZfF hvs hall v hv
  have hrun:(execOp a.eval o).run P w=.ok .skip (w.setCells l'.blk (l'.base+(i*l'.esz+c)) (a.eval y).cells.toList):=by
   unfold execOp;rw[hop];simp only[Instr.storeAt,hv,Instr.sureAddr,Y6,Sem.run_pure,Result.andThen_ok,storeVar,(Zd2 hk w).2,Sem.run_ite]
   rw[if_neg (by simp_all)]
   simp only[Result.andThen_ok,hstore]
  unfold Oper.wp;rw[hrun,Oper.upon_skip]
  have hinv:=h.writes ho rfl q (x':=.rows (p&&cs.all Zb8) (rs.set i (setAt row c cs))) rfl (l'.base+(i*l'.esz+c)) (a.eval y).cells.toList (fun hw=>
   ZkK q hcnt hm hat hrep hr hvs (ZfF hvs hall) (by omega) hw)
  exact Inv.goes hn hinv (fun x hx=>hx.1) (.imm _ _ (.undef _)) hd
theorem ZqR{op:Op}{v:AV}{U:List (Nat×Option AO)}{RO:List Nat}(hop:o.op=op)(h:Inv C S ι un f a w)
 (hst:AStep P C.G (evA C.G f.g) f.os id op v U RO) (hcall:∀c,op=.call c→∃b,c.callee=.builtin b)
 (hid:∀x,id≤x→x<id+W→un x) (hd:∀d,o.dst=some d→C.N.lo≤d∧d<C.N.n) (hn:Goes C un id o f v U next):o.wp P a w next Q:=by
 have lift:∀{s:Sem Value} {v':Value} {w':World},(execOp a.eval o)=(do pure (Next.value (←s)):Sem Next)→s.run P w=.ok v' w'→(execOp a.eval o).run P w=.ok (.value v') w':=by
  intro s v' w' e h1;rw[e];simp only[Y6,h1,Result.andThen_ok,Sem.run_pure]
 cases hst with
 |pure op v hp=>
  subst hop
  obtain⟨v',h1,h2⟩:=Zsi h.ev o hp
  exact ZaK hn h hd h1 h2
 |more op v U RO hb=>exact Zrw hop h hb hid hd hn
 |files op v U RO hb=>exact Zrm hop h hb hid hd hn
 |graphs op v U RO hb=>exact ZpR hop h hb hid hd hn
 |nil z=>
  have hrun:(execOp a.eval o).run P w=.ok (.value (.slice none 0 0)) w:=by unfold execOp;rw[hop];rfl
  unfold Oper.wp;rw[hrun,Oper.upon_value]
  have hnone:=h.un id (hid id (Yg _) (by simp[W]))
  have hι:ι.le (fun o=>if o=id then some none else ι o):=by
   intro o y hy
   by_cases e:o=id
   ·simp_all
   ·grind
  have hw:ZbH S w w:=fun _ _=>rfl
  have hinv:Inv C S (fun o=>if o=id then some none else ι o) (fun o=>un o∧o≠id) {f with os:=updO f.os [(id,some (.rows true []))]} a w:=by
   refine h.turn (fun _ x=>x) hw hι ?_ ?_ ?_ h.sb h.sn (fun o ho=>?_) h.fr
   ·intro o y hy
    simp only[updO]at hy
    by_cases e:o=id
    ·subst e
     simp only[Yh,Y1]at hy;subst hy
     exact .inl ⟨by simp,rfl⟩
    ·simp only[e,Y9]at hy
     exact(h.ob o y hy).mono (fun _ x=>x) hw hι (fun _ _ _ _ _=>rfl)
   ·intro o y hy hly l' hl' b hb
    simp only[updO]at hy
    by_cases e:o=id
    ·simp_all
    ·simp only[e,Y9]at hy hl'
     exact h.own o y hy hly l' hl' b hb
   ·intro o1 o2 y1 y2 hy1 hy2 hl1 hl2 l1 l2 e1 e2 b hb hb2
    simp only[updO]at hy1 hy2
    by_cases e:o1=id
    ·simp_all
    ·by_cases e':o2=id
     ·simp_all
     ·simp only[e,e',Y9]at hy1 hy2 e1 e2
      exact h.inj o1 o2 y1 y2 hy1 hy2 hl1 hl2 l1 l2 e1 e2 b hb hb2
   ·simp only[ho.2,Y9];exact h.un o ho.1
  exact Inv.goes hn hinv (fun x hx=>⟨hx.1,fun e=>hx.2 ⟨by omega,by subst e;simp[W]⟩⟩) (.oswv id z none (by simp)) hd
 |pick c x y t hc=>
  have hcv:=h.ev c
  rw[hc]at hcv
  have hrun:(execOp a.eval o).run P w=.ok (.value (if t then a.eval x else a.eval y)) w:=by
   unfold execOp;rw[hop];simp only[hcv.bool_inv,asBool,Y6,Sem.run_pure,Result.andThen_ok]
  refine ZaK hn h hd hrun ?_
  cases t
  ·simpa using h.ev y
  ·simpa using h.ev x
 |alloc t cs hz=>
  obtain⟨z,h1,h2,h3⟩:=ZlO (w:=w) (S:=S) (ι:=ι) hz
  refine ZrQ hn h hd hid rfl h2 h3 (t:=t) ?_
  refine lift (by unfold execOp;rw[hop]) ?_
  simp only[Instr.alloc,Y6,h1,Result.andThen_ok,newVar,newRow,run_newObj,Sem.run_pure,World.alloc]
 |box t x cs hc=>
  obtain⟨h2,h3⟩:=ZeD hc (h.ev x)
  refine ZrQ hn h hd hid rfl h2 (ZfF h2 h3) (t:=t) ?_
  refine lift (by unfold execOp;rw[hop]) ?_
  rfl
 |load t x ob i c p rs row v hev ho hr hl=>
  have hx:=h.ev x
  rw[hev]at hx
  obtain⟨l,hl1,hv⟩:=hx.ptr_inv
  rcases h.ob ob _ ho with ⟨q,_⟩|⟨l',vals,q,hcnt,hm,hat,hrep⟩
  ·simp_all
  ·rw[q]at hl1;injection hl1 with hl1;injection hl1 with hl1;subst hl1
   have hi:=Zap hr
   obtain⟨v',h1,h2⟩:=Zh2 (P:=P) (b0:=l'.base+i*l'.esz) (hrep.get hr) (fun j v hv=>by
    have:=hat.2.2 i j v hi hv
    rw[←Wx]at this;exact this) hl
   refine ZaK hn h hd (lift (by unfold execOp;rw[hop]) ?_) h2
   unfold Instr.loadAt;rw[hv];simp only[Instr.sureAddr,Y6,Sem.run_pure,Result.andThen_ok]
   grind
 |loadf t x ob i c rs row v hev ho hr hl=>
  have hx:=h.ev x
  rw[hev]at hx
  obtain⟨l,hl1,hv⟩:=hx.ptr_inv
  rcases h.ob ob _ ho with ⟨q,_⟩|⟨l',vals,q,hcnt,hm,hat,hrep⟩
  ·simp_all
  ·rw[q]at hl1;injection hl1 with hl1;injection hl1 with hl1;subst hl1
   have hi:=Zap hr
   obtain⟨v',h1,h2⟩:=Zh2 (P:=P) (b0:=l'.base+i*l'.esz) (hrep.get hr) (fun j v hv=>by
    have:=hat.2.2 i j v hi hv
    rw[←Wx]at this;exact this) hl
   refine ZaK hn h hd (lift (by unfold execOp;rw[hop]) ?_) h2
   unfold Instr.loadAt;rw[hv];simp only[Instr.sureAddr,Y6,Sem.run_pure,Result.andThen_ok]
   grind
 |loadr t x row c v hev hl=>
  have hx:=h.ev x
  rw[hev]at hx
  obtain⟨blk,base,vals,hv,hS,hL,hcell⟩:=ZrE hx
  obtain⟨v',h1,h2⟩:=Zh2 (P:=P) (ι:=ι) hL.rep hcell hl
  refine ZaK hn h hd (lift (by unfold execOp;rw[hop]) ?_) h2
  unfold Instr.loadAt;rw[hv];simp only[Instr.sureAddr,Y6,Sem.run_pure,Result.andThen_ok];exact h1
 |store t x y ob i c p rs row cs b n hev ho hr hc hk hlen hb=>
  have hx:=h.ev x
  rw[hev]at hx;exact ZjQ hop h hx ho hr (h.ev y) hc hk hlen hb hd hn
 |storeZ t x y ob i c p rs row b q z xs hev ho hr hxe hq hne hk hb=>
  have hU:frozen [q] f.os 8=some [(q,some (.froz xs))]:=by simp[frozen,Zel,hq,ZgC]
  have h':=h.freeze hU
  have hv:=Zfw (V:=[q]) h.ob 8 (.osw q z) (a.eval y) (.sl xs) (by rw[←hxe];exact h.ev y) (by simp[ZaT,hq,ZgC])
  have hx:=h'.ev x
  rw[hev]at hx
  refine ZjQ (id:=id) hop h' hx (p:=p) (rs:=rs) (row:=row) (cs:=[.sl xs]) ?_ hr (.imm _ _ hv) (by rfl) hk rfl hb hd ?_
  ·show updO f.os [(q,some (.froz xs))] ob=_
   simp only[updO,if_neg hne];exact ho
  ·intro S' ι' a' w' hi
   refine hn S' ι' a' w' ?_
   have e:FS.upd {f with os:=updO f.os [(q,some (.froz xs))]} o.dst .undef [(ob,some (.rows (p&&[AV.sl xs].all Zb8) (rs.set i (setAt row c [.sl xs]))))]=
    f.upd o.dst .undef [(ob,some (.rows (p&&[AV.sl xs].all Zb8) (rs.set i (setAt row c [.sl xs])))),(q,some (.froz xs))]:=by
    unfold FS.upd FS.put
    cases o.dst<;>rfl
   simp_all
 |storeV t x y ob i c p rs row b z hev ho hr hxe hk hb=>
  obtain⟨ι',hle,hι',h'⟩:=h.void (hidW hid) true
  have hne:ob≠id:=h.notId (hidW hid) ho
  have hx:=h.ev x
  rw[hev]at hx
  have hx':=hx.mono (fun _ x=>x) (fun _ _=>rfl) hle
  have hv:Rep S w ι' (.osw id z) (a.eval y):=by
   have hy:=h.ev y
   rw[hxe]at hy;generalize a.eval y=v at hy
   cases hy with
   |imm _ _ hh=>cases hh with|esl ad=>exact .oswv id z ad hι'
  refine ZjQ (id:=id) hop h' hx' (p:=p) (rs:=rs) (row:=row) (cs:=[.osw id z]) ?_ hr hv (by rfl) hk rfl hb hd ?_
  ·show updO f.os [(id,some (.rows true []))] ob=_
   simp only[updO,if_neg hne];exact ho
  ·intro S' ι2 a' w' hi
   refine hn S' ι2 a' w' ?_
   have e:FS.upd {f with os:=updO f.os [(id,some (.rows true []))]} o.dst .undef [(ob,some (.rows (p&&[AV.osw id z].all Zb8) (rs.set i (setAt row c [.osw id z]))))]=
    f.upd o.dst .undef [(ob,some (.rows (p&&[AV.osw id z].all Zb8) (rs.set i (setAt row c [.osw id z])))),(id,some (.rows true []))]:=by
    unfold FS.upd FS.put
    cases o.dst<;>rfl
   rw[←e];exact hi.less (fun x hx=>⟨⟨hx.1,fun e=>hx.2 ⟨by omega,by subst e;simp[W]⟩⟩,hx.2⟩)
 |idxSl t e x ix xs k n row b hev hix h0 hr ht hk=>
  have hx:=h.ev x
  have hi:=h.ev ix
  rw[hev]at hx;rw[hix]at hi
  obtain⟨ab,cap,sz,vals,hv,hsp,hS,hsz,hL,hcell⟩:=ZsY hx hr
  have hlt:=Zap hr
  refine ZaK hn h hd (lift (by unfold execOp;rw[hop]) (by
   rw[hv,hi.int_inv];exact Zjc ht hk h0 (by omega) hsp)) ?_
  have:=IRep.rp row 0 ab.block (ab.off+n.toNat*sz) vals hS hL.1 (fun j v hv=>hcell j v hv) hL.2
  rw[hsz];exact .imm _ _ this
 |idxOsw t e x ix ob z k n y rs row b hev hix h0 ho hy hr ht hk=>
  have hx:=h.ev x
  have hi:=h.ev ix
  rw[hev]at hx;rw[hix]at hi
  have hlt:=Zap hr
  rcases ZhZ (h.ob ob _ ho) hy with ⟨q,rfl⟩|⟨l,vals,q,hcnt,hat,hrep⟩
  ·simp at hr
  ·rcases ZcP hx with ⟨l',ab,cap,q',hv,hc1,hc2,hc3,_,ha⟩|⟨q',_⟩
   ·rw[q]at q';injection q' with q';injection q' with q';subst q'
    have hab:=ha (by omega)
    have hrl:=(hrep _ _ hr).1
    have hve:=hat.2.1 _ hlt
    refine ZaK hn h hd (lift (by unfold execOp;rw[hop]) (by
     rw[hv,hi.int_inv];exact Zjc ht hk h0 (by omega) (by rw[hab]))) ?_
    rw[hab]
    have:=Rep.ptr (S:=S) (w:=w) (ι:=ι) ob n.toNat 0 l q
    simp_all
   simp_all
 |idxOsl t e x ix ob off len room k n y rs row b hev hix h0 h1 ho hy hr ht hk=>
  have hx:=h.ev x
  have hi:=h.ev ix
  rw[hev]at hx;rw[hix]at hi
  have hlt:=Zap hr
  rcases ZhZ (h.ob ob _ ho) hy with ⟨q,rfl⟩|⟨l,vals,q,hcnt,hat,hrep⟩
  ·simp at hr
  ·rcases Zil hx with ⟨l',ab,cap,q',hv,hc1,hc2,hc3,hc4,hc5,ha⟩|⟨q',_⟩
   ·rw[q]at q';injection q' with q';injection q' with q';subst q'
    have hab:=ha (by omega)
    have hrl:=(hrep _ _ hr).1
    have hve:=hat.2.1 _ hlt
    refine ZaK hn h hd (lift (by unfold execOp;rw[hop]) (by
     rw[hv,hi.int_inv];exact Zjc ht hk h0 (by omega) (by rw[hab]))) ?_
    rw[hab]
    have:=Rep.ptr (S:=S) (w:=w) (ι:=ι) ob (off+n.toNat) 0 l q
    grind
   omega
 |idxArr t e x ix ob r c len sz k n b hev hix h0 h1 ht hk=>
  have hx:=h.ev x
  have hi:=h.ev ix
  rw[hev]at hx;rw[hix]at hi
  obtain⟨l,hl1,hv⟩:=hx.ptr_inv
  refine ZaK hn h hd (lift (by unfold execOp;rw[hop]) (by
   rw[hv,hi.int_inv];exact Zka ht hk h0 h1)) ?_
  have:=Rep.ptr (S:=S) (w:=w) (ι:=ι) ob r (c+n.toNat*sz) l hl1
  grind
 |idxArrR t e x ix row c len sz k n b hev hix h0 h1 ht hk=>
  have hx:=h.ev x
  have hi:=h.ev ix
  rw[hev]at hx;rw[hix]at hi
  obtain⟨blk,base,vals,hv,hS,hL,hcell⟩:=ZrE hx
  refine ZaK hn h hd (lift (by unfold execOp;rw[hop]) (by
   rw[hv,hi.int_inv];exact Zka ht hk h0 h1)) ?_
  rw[Wx];exact .imm _ _ (.rp row _ blk base vals hS hL.1 hcell hL.2)
 |strIx t x ix l k n c hev hix h0 hr ht=>
  have hx:=h.ev x
  have hi:=h.ev ix
  rw[hev]at hx;rw[hix]at hi
  refine ZaK hn h hd (lift (by unfold execOp;rw[hop]) ?_) (.imm _ _ (.int _ _))
  rw[hx.str_inv,hi.int_inv];unfold Instr.index
  have hb:(⟨l.toArray⟩:ByteArray)[n.toNat]? =some c:=by
   have hlt:=Zap hr
   have hs:n.toNat<(⟨l.toArray⟩:ByteArray).size:=by show n.toNat<l.toArray.size;simpa using hlt
   rw[ByteArray.getElem?_lt' _ _ hs]
   rw[Y3 hlt]at hr
   rw[←hr];rfl
  simp only[asIntOf,Y6,Sem.run_pure,Result.andThen_ok,Y5 ht,h0,Yh,hb]
 |arrIx t e x ix cs len sz k n b v hev hix h0 h1 ht hk hl=>
  have hx:=h.ev x
  have hi:=h.ev ix
  rw[hev]at hx;rw[hix]at hi
  obtain⟨vs,hv,hL⟩:=hx.agg_inv
  obtain⟨v',hp1,hp2⟩:=Zpi hL hl
  refine ZaK hn h hd (lift (by unfold execOp;rw[hop]) ?_) hp2
  rw[hv,hi.int_inv];unfold Instr.index;simp only[asIntOf,Y6,Sem.run_pure,Result.andThen_ok,Y5 ht,(Zd2 hk w).2,Sem.run_ite];simp_all
 |quo t t' x y k m n hx hy h0=>
  have h1:=h.ev x;have h2:=h.ev y
  rw[hx]at h1;rw[hy]at h2
  refine ZaK hn h hd (lift (by unfold execOp;rw[hop]) ?_) (.imm _ _ (.int _ _))
  rw[h1.int_inv,h2.int_inv];simp only[eqGuard_quo,Y6,Sem.run_pure,Result.andThen_ok,binOp_quo,Op.intDiv,h0,Y9]
 |rem t t' x y k m n hx hy h0=>
  have h1:=h.ev x;have h2:=h.ev y
  rw[hx]at h1;rw[hy]at h2
  refine ZaK hn h hd (lift (by unfold execOp;rw[hop]) ?_) (.imm _ _ (.int _ _))
  rw[h1.int_inv,h2.int_inv];simp only[eqGuard_rem,Y6,Sem.run_pure,Result.andThen_ok,binOp_rem,Op.intDiv,h0,Y9]
 |shl t t' x y k k' m n hx hy h0=>
  have h1:=h.ev x;have h2:=h.ev y
  rw[hx]at h1;rw[hy]at h2
  refine ZaK hn h hd (lift (by unfold execOp;rw[hop]) ?_) (.imm _ _ (.int _ _))
  rw[h1.int_inv,h2.int_inv];simp only[eqGuard_shl,Y6,Sem.run_pure,Result.andThen_ok,binOp_shl,Op.shift]
  rw[if_neg (by omega)]
  rfl
 |shr t t' x y k k' m n hx hy h0=>
  have h1:=h.ev x;have h2:=h.ev y
  rw[hx]at h1;rw[hy]at h2
  refine ZaK hn h hd (lift (by unfold execOp;rw[hop]) ?_) (.imm _ _ (.int _ _))
  rw[h1.int_inv,h2.int_inv];simp only[eqGuard_shr,Y6,Sem.run_pure,Result.andThen_ok,binOp_shr,Op.shift]
  rw[if_neg (by omega)]
  rfl
 |cat t t' x y l1 l2 hx hy hlen=>
  have h1:=h.ev x;have h2:=h.ev y
  rw[hx]at h1;rw[hy]at h2
  refine ZaK hn h hd (lift (by unfold execOp;rw[hop]) ?_) (.imm _ _ (IRep.str_mk (l1++l2)))
  rw[h1.str_inv,h2.str_inv]
  have e1:(⟨l1.toArray⟩:ByteArray).size=l1.length:=by show l1.toArray.size=_;simp
  have e2:(⟨l2.toArray⟩:ByteArray).size=l2.length:=by show l2.toArray.size=_;simp
  simp only[eqGuard_add,Y6,Sem.run_pure,Result.andThen_ok,binOp_string_add,Op.stringOp,e1,e2]
  rw[if_neg (by simp only[IntKind.max_i64];omega)]
  rfl
 |nilq t t' e x xs hx ht=>
  have h1:=h.ev x
  rw[hx]at h1
  cases h1 with
  |imm _ _ h1=>
   generalize hv:a.eval x=u at h1
   cases h1 with
   |snil=>
    refine ZaK hn h hd (v':=.bool true) (lift (by unfold execOp;rw[hop]) ?_) (.imm _ _ (.anyb _ true fun _=>rfl))
    rw[hv]
    simp only[show a.eval (.const (.slice none 0 0))=.slice none 0 0 from rfl,eqGuard_at_slice,Y6,Sem.run_pure,Result.andThen_ok]
    exact run_eql_slice_nil w t e none 0 0 ht
   |sl xs a' cap sz vals h2 h3 h4 h5 h6 h7=>
    refine ZaK hn h hd (v':=.bool false) (lift (by unfold execOp;rw[hop]) ?_) (.imm _ _ (.anyb _ false fun e=>by cases e))
    rw[hv]
    simp only[show a.eval (.const (.slice none 0 0))=.slice none 0 0 from rfl,eqGuard_at_slice,Y6,Sem.run_pure,Result.andThen_ok]
    exact run_eql_slice_nil w t e (some a') xs.length cap ht
 |eqAgg t t' x y cs ds r hx hy hp hg hst hc1 hc2 he=>
  have h1:=h.ev x;have h2:=h.ev y
  rw[hx]at h1;rw[hy]at h2
  obtain⟨us,hu,hL1⟩:=h1.agg_inv
  obtain⟨vs,hv,hL2⟩:=h2.agg_inv
  refine ZaK hn h hd (lift (by unfold execOp;rw[hop]) ?_) (.imm _ _ (.bool r))
  rw[hu,hv]
  have:=Zqr hL1 hL2 hp hc1 hc2 he hst
  simp only[Y6,run_eqGuard_agg w _ t _ _ _ _ hg,Result.andThen_ok,run_eql_struct,this]
 |neAgg t t' x y cs ds r hx hy hp hg hst hc1 hc2 he=>
  have h1:=h.ev x;have h2:=h.ev y
  rw[hx]at h1;rw[hy]at h2
  obtain⟨us,hu,hL1⟩:=h1.agg_inv
  obtain⟨vs,hv,hL2⟩:=h2.agg_inv
  refine ZaK hn h hd (lift (by unfold execOp;rw[hop]) ?_) (.imm _ _ (.bool (!r)))
  rw[hu,hv]
  have:=Zqr hL1 hL2 hp hc1 hc2 he hst
  simp only[Y6,run_eqGuard_agg w _ t _ _ _ _ hg,Result.andThen_ok,run_neq_struct,this]
 |lenOsw x ts args t e ob z y rs ha hts ht hev ho hy=>
  have hx:=h.ev x
  rw[hev]at hx
  have hrun:∀base cap,a.eval x=.slice base rs.length cap→(execOp a.eval o).run P w=.ok (.value (.int .i64 rs.length)) w:=by
   intro base cap hv;unfold execOp;rw[hop]
   have hxs:(args.map a.eval)[0]? =some (.slice base rs.length cap):=by simp[ha,hv]
   simp[resolve,invoke,builtin,Builtin.len_,hts,hxs,Y5 ht,goInt]
  rcases ZhZ (h.ob ob _ ho) hy with ⟨q,rfl⟩|⟨l,vals,q,hcnt,hat,hrep⟩
  ·rcases ZcP hx with ⟨l',ab,cap,q',_⟩|⟨q',ab,hv⟩
   ·simp_all
   ·exact ZaK hn h hd (hrun _ _ hv) (.imm _ _ (.int _ _))
  ·rcases ZcP hx with ⟨l',ab,cap,q',hv,_⟩|⟨q',ab,hv⟩
   ·rw[q]at q';injection q' with q';injection q' with q';subst q'
    exact ZaK hn h hd (hrun (some ab) cap (by simp_all)) (.imm _ _ (.int _ _))
   simp_all
 |call fn args ts f' cap V n argsC rv hev=>simp_all
 |callF fn args ts f' cap V n argsC rv os' U hev=>simp_all
 |callG fn args ts f' cap V oin argsC rv os' hev=>simp_all
end
theorem ZsJ{σ:Nat→Nat}:∀(os':List (Nat×AO)) (base:Nat→Option AO) (T:List (Nat×Option AO)),
 (∀e e',e∈os'→e'∈os'→σ e.1=σ e'.1→e.1=e'.1)→
 (∀j x,lk os' j=some x→updO base (os'.map (fun e=>(σ e.1,some (renO σ e.2)))++T) (σ j)=some (renO σ x))∧
 (∀o,(∀e,e∈os'→σ e.1≠o)→updO base (os'.map (fun e=>(σ e.1,some (renO σ e.2)))++T) o=updO base T o):=by
 intro os'
 induction os' with
 |nil=>intro base T _;exact⟨fun j x h=>by simp[lk]at h,fun o _=>rfl⟩
 |cons e r ih=>
  intro base T hinj
  obtain⟨h1,h2⟩:=ih base T (fun a b ha hb=>hinj a b (Yk _ ha) (Yk _ hb))
  constructor
  ·intro j x h
   simp only[lk]at h;simp only[Yp,YH,updO]
   by_cases hj:j=e.1
   ·simp_all
   ·rw[if_neg hj]at h
    have hm:∃x',(j,x')∈r:=by
     clear h1 h2 ih hinj
     induction r with
     |nil=>simp[lk]at h
     |cons q r ih=>
      simp only[lk]at h
      grind
    obtain⟨x',hx'⟩:=hm
    have:σ j≠σ e.1:=fun q=>hj (hinj (j,x') e (Yk _ hx') Ys q)
    grind
  ·intro o ho
   simp only[Yp,YH,updO]
   grind
theorem Zmk:∀{os:List (Nat×AO)} {e:Nat×AO},e∈os→∃x,lk os e.1=some x:=by
 intro os
 induction os with
 |nil=>simp
 |cons q r ih=>
  intro e h
  by_cases hq:e.1=q.1
  ·exact⟨q.2,by simp[lk,hq]⟩
  ·rcases Yj.1 h with rfl|h
   ·omega
   ·obtain⟨x,hx⟩:=ih h
    exact⟨x,by simp[lk,hq,hx]⟩
theorem ZoM(base:Nat→Option AO):∀(V:List Nat) (o:Nat),updO base (V.map fun o=>(o,none)) o=if o∈V then none else base o:=by
 intro V
 induction V with
 |nil=>intro o;rfl
 |cons k r ih=>
  intro o;simp only[Yp,updO,ih,Yj]
  grind
section
variable {C:Cx}{S:Nat→Prop}{w:World}{ι:Imap}{P:Program}{un:Nat→Prop}{f:FS}{a:Act}{id:Nat}{o:Oper}
 {next:Act→World→Prop} {Q:Exit→Act→World→Prop}
theorem ZlK{fn:Operand}{args:Array Operand}{ts:Array TypeId}(hop:o.op=.call {callee:=.value fn,args:=args,argTypes:=ts}){fid:Nat}{vs:Array Value}
 (hfn:a.eval fn=.func (.func fid) #[] vs) (hc:callB P fid=true):(execOp a.eval o).run P w=.ok (.enter fid (args.map a.eval++vs)) w:=by
 unfold execOp;rw[hop];simp only[resolve,hfn,Deferred.ofValue,Y6,Sem.run_pure,Result.andThen_ok,invoke,Zkn hc,Array.empty_append]
theorem Fr.then{Ow:Nat→Prop}{w0 w w':World}(h:Fr Ow w0 w)(h':Fr (OwOf w (fun _=>none) []) w w'):Fr Ow w0 w':=by
 have hold:∀b,b<w.heap.size→w'.heap[b]? =w.heap[b]? :=fun b hb=>h'.old b hb (by
  rintro(q|⟨o,x,l,q,_⟩)
  all_goals grind)
 exact⟨h'.os.trans h.os,h'.output.trans h.output,YV h.size h'.size,fun b hb hn=>by
  rw[hold b (by have:=h.size;omega)];exact h.old b hb hn⟩
theorem ZoW{op:Op}{v:AV}{U:List (Nat×Option AO)}{RO:List Nat}(hop:o.op=op)(h:Inv C S ι un f a w)
 (hst:AStep P C.G (evA C.G f.g) f.os id op v U RO) (hid:∀x,id≤x→x<id+W→un x) (hd:∀d,o.dst=some d→C.N.lo≤d∧d<C.N.n) (hn:Goes C un id o f v U next):
 o.wp P a w next Q:=by
 by_cases hcall:∀c,op=.call c→∃b,c.callee=.builtin b
 ·exact ZqR hop h hst hcall hid hd hn
 cases hst with
 |call fn args ts fid cap _ n argsC _ hev hv hf hfl=>
  have hx:=h.ev fn
  rw[hev]at hx
  obtain⟨vs,hvf,hL⟩:=hx.fn_inv
  rw[Zkf (ZiY hf.1)]at hvf
  have hargs:RepL S w ι (args.toList.map (evA C.G f.g)++cap) (args.map a.eval++vs).toList:=by
   rw[Array.toList_append,WX];exact(RepL.map h.ev _).append hL
  have hcl:=ZmD (V:=RO) h.ob hargs hv
  have hSV:=SV_lt h RO
  unfold Oper.wp;rw[ZlK hop hvf hf.1,Oper.upon_enter]
  have hcalls:=hf.2.2 (SV S ι f.os RO) (fun _=>none) w (args.map a.eval++vs) hSV (fun g row hg=>(h.gv g row hg).mono (fun b hb=>.inl hb) (fun _ _=>rfl))
   ⟨fun o x hx=>by simp[lk]at hx,fun o x hx=>by simp,fun o o' x x' hx=>by simp⟩ (fun _ _=>rfl) hcl.rep
  refine hcalls.mono ?_
  rintro e w' ⟨v',S',ι',rfl,hfr,hS1,hS2,hle,hιW,hrep,hob'⟩
  have hold:∀b,b<w.heap.size→w'.heap[b]? =w.heap[b]? :=fun b hb=>hfr.old b hb (by
   rintro(q|⟨o,x,l,q,_⟩)
   all_goals grind)
  have hw:ZbH S w w':=fun b hb=>hold b (h.sb b hb)
  have hinv:Inv C S ι un {f with os:=updO f.os []} a w':=by
   refine h.turn (fun _ x=>x) hw (Imap.le_refl _) (fun o' x hx=>(h.ob o' x hx).mono (fun _ x=>x) hw (Imap.le_refl _) (fun l hl hlv b hb=>hold _ (h.own o' x hx hlv l hl b hb).2.2))
    (fun o' x hx hlv l hl b hb=>?_) (fun o o' x x' hx hx' h1 h2 l l' e1 e2 b b1 b2=>h.inj o o' x x' hx hx' h1 h2 l l' e1 e2 b (Zao (fun b hb=>hold b (h.own o x hx h1 l e1 b hb).2.2) b1) (Zao (fun b hb=>hold b (h.own o' x' hx' h2 l' e2 b hb).2.2) b2)) (fun b hb=>?_) h.sn h.un (h.fr.then hfr)
   ·have:=h.own o' x hx hlv l hl b (Zao (fun b hb=>hold b (h.own o' x hx hlv l hl b hb).2.2) hb)
    grind
   ·have:=h.sb b hb;grind
  exact Inv.goes hn hinv (fun x hx=>hx.1) (.imm _ _ (hrep.flat hfl)) hd
 |callF fn args ts fid cap _ n argsC rv os' U hev hv hf hU=>
  have hx:=h.ev fn
  rw[hev]at hx
  obtain⟨vs,hvf,hL⟩:=hx.fn_inv
  rw[Zkf (ZiY hf.1)]at hvf
  have hargs:RepL S w ι (args.toList.map (evA C.G f.g)++cap) (args.map a.eval++vs).toList:=by
   rw[Array.toList_append,WX];exact(RepL.map h.ev _).append hL
  have hcl:=ZmD (V:=RO) h.ob hargs hv
  have hSV:=SV_lt h RO
  unfold Oper.wp;rw[ZlK hop hvf hf.1,Oper.upon_enter]
  have hcalls:=hf.2.2 (SV S ι f.os RO) (fun _=>none) w (args.map a.eval++vs) hSV (fun g row hg=>(h.gv g row hg).mono (fun b hb=>.inl hb) (fun _ _=>rfl))
   ⟨fun o x hx=>by simp[lk]at hx,fun o x hx=>by simp,fun o o' x x' hx=>by simp⟩ (fun _ _=>rfl) hcl.rep
  refine hcalls.mono ?_
  rintro e w' ⟨v',S',ι',rfl,hfr,hS1',hS2,hle,hιW,hrep,hob'⟩
  have hS1:∀b,S' b→(SV S ι f.os RO b∨w.heap.size≤b)∧b<w'.heap.size:=fun b hb=>⟨(hS1' b hb).1.imp (fun q=>q) (by
   rintro(q|⟨o,x,l,q,_⟩)
   all_goals simp_all),(hS1' b hb).2⟩
  have hold:∀b,b<w.heap.size→w'.heap[b]? =w.heap[b]? :=fun b hb=>hfr.old b hb (by
   rintro(q|⟨o,x,l,q,_⟩)
   all_goals grind)
  have hSS:∀b,S b→S' b:=fun b hb=>hS2 b (.inl hb)
  have hw:ZbH S w w':=fun b hb=>hold b (h.sb b hb)
  have hwV:ZbH (SV S ι f.os RO) w w':=fun b hb=>hold b (hSV b hb)
  have hlt':=hf.2.1
  let ι2:Imap:=fun x=>if id≤x∧x<id+W then ι' (x-id)else ι x
  have hι2:ι.le ι2:=by
   intro x y hxy
   by_cases hc:id≤x∧x<id+W
   ·rw[h.un x (hid x hc.1 hc.2)]at hxy;cases hxy
   ·grind
  have hσ:∀x y,ι' x=some y→ι2 (id+x)=some y:=by
   intro x y hxy
   have hx:x<W:=by
    rcases YX x W with q|q
    ·exact q
    ·simp_all
   simp only[ι2]
   rw[if_pos ⟨by omega,by omega⟩]
   rw[show id+x-id=x by omega];exact hxy
  have hnew:∀o,id≤o→∀x,lk os' (o-id)=some x→ObjOk S' w' ι2 o (renO (id+ ·) x):=by
   intro o ho x hx
   have:=(hob'.ob _ x hx).ren (σ:=(id+ ·)) hσ
   rw[show id+(o-id)=o by omega]at this;exact this
  have hblk:∀o,id≤o→∀x,lk os' (o-id)=some x→x.live=true→∀l,ι2 o=some (some l)→∀b,foot w' x l b→w.heap.size≤b∧¬S' b∧b<w'.heap.size∧ι' (o-id)=some (some l):=by
   intro o ho x hx hlv l hl b hb
   have hlt:=hlt' _ _ hx
   simp only[ι2]at hl
   rw[if_pos ⟨ho,by omega⟩]at hl
   have:=hob'.own _ x hx hlv l hl b hb
   refine⟨?_,this.2.1,this.2.2,hl⟩
   rcases this.1 with q|⟨o,x,l,q,_⟩
   ·exact q
   ·simp_all
  have hfree:∀o x,f.os o=some x→¬(id≤o∧o<id+W):=by
   intro o x hx hc
   have hnone:=h.un o (hid o hc.1 hc.2)
   have:=h.ob o x hx
   cases x with
   |rows p rs=>rcases this with ⟨q,_⟩|⟨l,vals,q,_⟩<;>(simp_all)
   |froz rs=>rcases this with ⟨q,_⟩|⟨l,vals,q,_⟩<;>(simp_all)
   |mapo p es=>obtain⟨l,xs,c,q,_⟩:=this;simp_all
   |fmap z fs hh=>obtain⟨l,xs,c,q,_⟩:=this;simp_all
   |gmap es hh=>obtain⟨l,xs,c,q,_⟩:=this;simp_all
   |lit rs=>obtain⟨l,vals,q,_⟩:=this;simp_all
  have hold2:∀o x,f.os o=some x→∀l,ι2 o=some (some l)→ι o=some (some l):=by
   intro o x hx l hl;simp only[ι2]at hl;rw[if_neg (hfree o x hx)]at hl;exact hl
  have hcase:∀o x,updO f.os (U++ZgN id os') o=some x→
   (o∈RO∧∃y rs,f.os o=some y∧ZgC (ZaT RO f.os n) y=some rs∧x=.froz rs)∨
   (o∉RO∧id≤o∧∃x',lk os' (o-id)=some x'∧x=renO (id+ ·) x')∨(o∉RO∧f.os o=some x):=by
   intro o x hx;rw[ZjP]at hx
   rcases Zmn hU (updO f.os (ZgN id os')) o with ⟨h1,y,rs,h2,h3,h4⟩|⟨h1,h2⟩
   ·simp_all
   ·rw[h2,ZmH]at hx
    split at hx
    ·rename_i hc
     obtain⟨x',hx'⟩:=YQ.1 hc.2
     simp_all
    simp_all
  have hinv:Inv C S' ι2 (fun x=>un x∧¬(id≤x∧x<id+W)) {f with os:=updO f.os (U++ZgN id os')} a w':=by
   refine h.turn hSS hw hι2 ?_ ?_ ?_ (fun b hb=>(hS1 b hb).2) (fun b hb=>?_) (fun o ho=>?_) (h.fr.then hfr)
   ·intro o x hx
    rcases hcase o x hx with ⟨h1,y,rs,h2,h3,rfl⟩|⟨h1,h2,x',h3,rfl⟩|⟨h1,h2⟩
    ·rcases ZhD (Zfw h.ob n) (h.ob o y h2) h3 with ⟨q,rfl⟩|⟨l,vals,q,hcnt,hat,hrp⟩
     ·exact .inl ⟨hι2 _ _ q,rfl⟩
     ·have hb:SV S ι f.os RO l.blk:=.inr ⟨o,y,l,h1,h2,q,rfl⟩
      refine .inr ⟨l,vals,hι2 _ _ q,hcnt,hS2 _ hb,⟨hat.1,hat.2.1,fun i j v hi hv=>?_⟩,fun i r hr=>?_⟩
      ·rw[ZbU (hwV _ hb)];exact hat.2.2 i j v hi hv
      ·simp only[Yh];exact(hrp i r hr).mono hS2 hwV
    ·simp_all
    ·exact(h.ob o x h2).mono hSS hw hι2 (fun l hl hlv b hb=>hold _ (h.own o x h2 hlv l hl b hb).2.2)
   ·intro o x hx hlv l hl b hb
    rcases hcase o x hx with ⟨h1,y,rs,h2,h3,rfl⟩|⟨h1,h2,x',h3,rfl⟩|⟨h1,h2⟩
    ·cases hlv
    ·rw[Zcq]at hlv
     have:=hblk o h2 x' h3 hlv l hl b (ZeS hb)
     exact⟨h.fo _ (YV h.fr.size this.1),this.2.1,this.2.2.1⟩
    ·have hl':=hold2 o x h2 l hl
     have hb:=Zao (fun b hb=>hold b (h.own o x h2 hlv l hl' b hb).2.2) hb
     have:=h.own o x h2 hlv l hl' b hb
     refine⟨this.1,fun hs=>?_,by grind⟩
     rcases(hS1 _ hs).1 with (q|⟨o2,x2,l2,q1,q2,q3,q4⟩)|q
     ·simp_all
     ·by_cases hlv2:x2.live=true
      ·have:=h.inj o o2 x x2 h2 q2 hlv hlv2 l l2 hl' q3 b hb (.inl q4)
       simp_all
      ·have hob2:=h.ob o2 x2 q2
       cases x2 with
       |froz rs=>
        rcases hob2 with ⟨q,_⟩|⟨l',vals,q,_,hS,_⟩
        all_goals simp_all
       |rows p rs=>exact absurd rfl hlv2
       |mapo p es=>exact absurd rfl hlv2
       |fmap z fs hh=>exact absurd rfl hlv2
       |gmap es hh=>exact absurd rfl hlv2
       |lit rs=>exact absurd rfl hlv2
     ·omega
   ·intro o1 o2 x1 x2 hx1 hx2 hlv1 hlv2 l1 l2 e1 e2 b hb hb2
    rcases hcase o1 x1 hx1 with ⟨h1,y,rs,h2,h3,rfl⟩|⟨h1,h2,x1',h3,rfl⟩|⟨h1,h2⟩
    ·cases hlv1
    ·rw[Zcq]at hlv1
     have b1:=hblk o1 h2 x1' h3 hlv1 l1 e1 b (ZeS hb)
     rcases hcase o2 x2 hx2 with ⟨g1,y,rs,g2,g3,rfl⟩|⟨g1,g2,x2',g3,rfl⟩|⟨g1,g2⟩
     ·cases hlv2
     ·rw[Zcq]at hlv2
      have b2:=hblk o2 g2 x2' g3 hlv2 l2 e2 b (ZeS hb2)
      have:=hob'.inj _ _ x1' x2' h3 g3 hlv1 hlv2 l1 l2 b1.2.2.2 b2.2.2.2 b (ZeS hb) (ZeS hb2)
      omega
     ·have:=h.own o2 x2 g2 hlv2 l2 (hold2 o2 x2 g2 l2 e2) b (Zao (fun b hb=>hold b (h.own o2 x2 g2 hlv2 l2 (hold2 o2 x2 g2 l2 e2) b hb).2.2) hb2)
      omega
    ·have hb:=Zao (fun b hb=>hold b (h.own o1 x1 h2 hlv1 l1 (hold2 o1 x1 h2 l1 e1) b hb).2.2) hb
     have b1:=h.own o1 x1 h2 hlv1 l1 (hold2 o1 x1 h2 l1 e1) b hb
     rcases hcase o2 x2 hx2 with ⟨g1,y,rs,g2,g3,rfl⟩|⟨g1,g2,x2',g3,rfl⟩|⟨g1,g2⟩
     ·cases hlv2
     ·rw[Zcq]at hlv2
      have b2:=hblk o2 g2 x2' g3 hlv2 l2 e2 b (ZeS hb2)
      omega
     ·exact h.inj o1 o2 x1 x2 h2 g2 hlv1 hlv2 l1 l2 (hold2 o1 x1 h2 l1 e1) (hold2 o2 x2 g2 l2 e2) b hb (Zao (fun b hb=>hold b (h.own o2 x2 g2 hlv2 l2 (hold2 o2 x2 g2 l2 e2) b hb).2.2) hb2)
   ·rcases(hS1 b hb).1 with (q|⟨o2,x2,l2,q1,q2,q3,q4⟩)|q
    ·exact h.sn b q
    ·subst q4
     by_cases hlv2:x2.live=true
     ·right;exact(h.own o2 x2 q2 hlv2 l2 q3 _ (.inl rfl)).1
     ·have hob2:=h.ob o2 x2 q2
      cases x2 with
      |froz rs=>
       rcases hob2 with ⟨q,_⟩|⟨l',vals,q,_,hS,_⟩
       ·simp_all
       ·rw[q]at q3;injection q3 with q3;injection q3 with q3;subst q3
        exact h.sn _ hS
      |rows p rs=>exact absurd rfl hlv2
      |mapo p es=>exact absurd rfl hlv2
      |fmap z fs hh=>exact absurd rfl hlv2
      |gmap es hh=>exact absurd rfl hlv2
      |lit rs=>exact absurd rfl hlv2
    ·right;exact h.fo _ (YV h.fr.size q)
   ·simp only[ι2]
    rw[if_neg ho.2];exact h.un o ho.1
  exact Inv.goes hn hinv (fun x hx=>hx) (hrep.ren hσ) hd
 |callG fn args ts fid cap _ oin argsC rv os' hev hh hf=>
  have hx:=h.ev fn
  rw[hev]at hx
  obtain⟨vs,hvf,hL⟩:=hx.fn_inv
  rw[Zkf (ZiY hf.1)]at hvf
  have hargs:RepL S w ι (args.toList.map (evA C.G f.g)++cap) (args.map a.eval++vs).toList:=by
   rw[Array.toList_append,WX];exact(RepL.map h.ev _).append hL
  obtain⟨hok,hkeys,hobjs,hargs2⟩:=hh
  generalize RO=V at hok hkeys hobjs hargs2 hn;simp only[Y8,Ym]at hok
  obtain⟨⟨hnd,hb1⟩,hb2⟩:=hok
  have hlen:oin.length=V.length:=by
   have:=YI List.length hkeys
   simpa using this
  let σ:=bk V id
  let ι0:=ιback ι σ V.length
  have hbkV:∀j (hj:j<V.length),σ j=V[j]:=fun j hj=>by simp[σ,bk,hj]
  have hin:∀j x,lk oin j=some x→∃(hj:j<V.length),(∃y,f.os V[j]=some y∧WkO y (renO σ x))∧idsBO V.length x=true:=by
   intro j x hjx
   have hm:(j,x)∈oin:=by
    clear hkeys hobjs hlen hf hb2
    induction oin with
    |nil=>simp[lk]at hjx
    |cons e r ih=>
     simp only[lk]at hjx
     grind
   obtain⟨i,hi,hie⟩:=YY hm
   have hki:(oin.map (·.1))[i]? =some j:=by rw[Yl,Y3 hi,hie];rfl
   rw[hkeys,List.getElem?_range (by omega)]at hki
   injection hki with hki
   subst hki
   have hj:i<V.length:=by omega
   refine⟨hj,?_,YF.1 hb2 _ hm⟩
   have ho:(oin.map fun e=>some (renO σ e.2))[i]? =some (some (renO σ x)):=by rw[Yl,Y3 hi,hie];rfl
   have hv:(V.map f.os)[i]? =some (f.os V[i]):=by rw[Yl,Y3 hj];rfl
   obtain⟨y,h1,h2⟩:=hobjs.get i _ _ hv ho
   exact⟨y,h1,h2⟩
  have hfree:∀o x,f.os o=some x→¬(id≤o∧o<id+W)∧∃L,ι o=some L:=by
   intro o x hx
   have hob:=h.ob o x hx
   have hL:∃L,ι o=some L:=by
    cases x with
    |rows p rs=>rcases hob with ⟨q,_⟩|⟨l,vals,q,_⟩<;>exact⟨_,q⟩
    |froz rs=>rcases hob with ⟨q,_⟩|⟨l,vals,q,_⟩<;>exact⟨_,q⟩
    |mapo p es=>obtain⟨l,xs,c,q,_⟩:=hob;simp_all
    |fmap z fs hh=>obtain⟨l,xs,c,q,_⟩:=hob;simp_all
    |gmap es hh=>obtain⟨l,xs,c,q,_⟩:=hob;simp_all
    |lit rs=>obtain⟨l,vals,q,_⟩:=hob;simp_all
   refine⟨fun hc=>?_,hL⟩
   obtain⟨L,hL⟩:=hL
   rw[h.un o (hid o hc.1 hc.2)]at hL;cases hL
  have hVos:∀j (hj:j<V.length),∃x,f.os V[j]=some x:=by
   intro j hj
   have ho:(V.map f.os)[j]? =some (f.os V[j]):=by rw[Yl,Y3 hj];rfl
   have hv:(oin.map fun e=>some (renO σ e.2))[j]? =some (some (renO σ (oin[j]'(by omega)).2)):=by rw[Yl,Y3 (by omega)];rfl
   obtain⟨y,h1,h2⟩:=hobjs.get j _ _ ho hv
   exact⟨y,h1⟩
  have hι0:∀j (hj:j<V.length),ι0 j=ι V[j]:=fun j hj=>by simp only[ι0,ιback];simp_all
  have hι0n:∀j,V.length≤j→ι0 j=none:=fun j hj=>by simp only[ι0,ιback];grind
  have hVidx:∀j j' (hj:j<V.length) (hj':j'<V.length),V[j]=V[j']→j=j':=fun j j' hj hj' e=>by
   rcases WR j j' with q|q|q
   ·exact absurd e (WE.1 hnd j j' hj hj' q)
   ·exact q
   ·exact absurd e.symm (WE.1 hnd j' j hj' hj q)
  have hob0:Zei (OwOf w ι0 oin) S w ι0 (lk oin):=by
   refine⟨fun j x hjx=>?_,fun j x hjx hlv l hl b hbb=>?_,fun j j' x x' hjx hjx' hlv hlv' l l' hl hl' b hbl hbl2=>?_⟩
   ·obtain⟨hj,⟨y,ho,hwk⟩,hb⟩:=hin j x hjx
    refine ObjOk.unren hj hb ?_
    rw[hbkV j hj];exact hwk.ok (h.ob _ _ ho)
   ·obtain⟨hj,⟨y,ho,hwk⟩,hb⟩:=hin j x hjx
    have hl2:=hl
    rw[hι0 j hj]at hl2
    have:=h.own _ _ ho (by rw[←hwk.live,Zcq];exact hlv) l hl2 b (Zg3 hwk hbb)
    exact⟨.inr ⟨j,x,l,hjx,hlv,hl,hbb⟩,this.2⟩
   ·obtain⟨hj,⟨y,ho,hwk⟩,hb⟩:=hin j x hjx
    obtain⟨hj',⟨y',ho',hwk'⟩,hb'⟩:=hin j' x' hjx'
    rw[hι0 j hj]at hl;rw[hι0 j' hj']at hl'
    exact hVidx j j' hj hj' (h.inj _ _ _ _ ho ho' (by rw[←hwk.live,Zcq];exact hlv) (by rw[←hwk'.live,Zcq];exact hlv') l l' hl hl' b (Zg3 hwk hbl) (Zg3 hwk' hbl2))
  have hargs0:RepL S w ι0 argsC (args.map a.eval++vs).toList:=RepL.unren argsC _ hb1 (hargs2.repL hargs)
  unfold Oper.wp;rw[ZlK hop hvf hf.1,Oper.upon_enter]
  have hcalls:=hf.2.2 S ι0 w (args.map a.eval++vs) h.sb h.gv hob0 (fun o ho=>hι0n o (by omega)) hargs0
  refine hcalls.mono ?_
  rintro e w' ⟨v',S',ι',rfl,hfr,hS1,hS2,hle,hιW,hrep,hob'⟩
  have hOw:∀b,OwOf w ι0 oin b→b<w.heap.size→∃o x l,o∈V∧f.os o=some x∧x.live=true∧ι o=some (some l)∧foot w x l b:=by
   rintro b (hb|⟨j,x,l,hjx,hlv,hl,hlb⟩) hlt
   ·omega
   ·obtain⟨hj,⟨y,ho,hwk⟩,hb⟩:=hin j x hjx
    rw[hι0 j hj]at hl
    exact⟨V[j],_,l,We hj,ho,by rw[←hwk.live,Zcq];exact hlv,hl,Zg3 hwk hlb⟩
  have hCOw:∀b,OwOf w ι0 oin b→C.Ow b:=by
   rintro b (hb|⟨j,x,l,hjx,hlv,hl,hlb⟩)
   ·exact h.fo _ (YV h.fr.size hb)
   ·obtain⟨hj,⟨y,ho,hwk⟩,hb⟩:=hin j x hjx
    rw[hι0 j hj]at hl
    exact(h.own _ _ ho (by rw[←hwk.live,Zcq];exact hlv) l hl b (Zg3 hwk hlb)).1
  have hSn:∀b,S b→¬OwOf w ι0 oin b:=by
   intro b hb hO
   obtain⟨o,x,l,_,hx,hlv,hl,hlb⟩:=hOw b hO (h.sb b hb)
   exact(h.own o x hx hlv l hl b hlb).2.1 hb
  have hw:ZbH S w w':=fun b hb=>hfr.old b (h.sb b hb) (hSn b hb)
  have holdn:∀o x,f.os o=some x→x.live=true→o∉V→∀l,ι o=some (some l)→∀b,foot w x l b→¬OwOf w ι0 oin b:=by
   intro o x hx hlv hoV l hl b hbb hO
   obtain⟨o2,x2,l2,hV2,hx2,hlv2,hl2,hb2⟩:=hOw _ hO (h.own o x hx hlv l hl b hbb).2.2
   have:=h.inj o o2 x x2 hx hx2 hlv hlv2 l l2 hl hl2 b hbb hb2
   subst this;exact hoV hV2
  have hlt':=hf.2.1
  let ι2:Imap:=fun x=>if id≤x∧x<id+W then ι' (x-id)else ι x
  have hι2:ι.le ι2:=by
   intro x y hxy
   by_cases hc:id≤x∧x<id+W
   ·rw[h.un x (hid x hc.1 hc.2)]at hxy;cases hxy
   ·grind
  have hι2V:∀j (hj:j<V.length),ι2 V[j]=ι' j:=by
   intro j hj
   obtain⟨x,hx⟩:=hVos j hj
   obtain⟨hn1,L,hL⟩:=hfree _ _ hx
   simp only[ι2];rw[if_neg hn1,hL]
   refine(hle j L ?_).symm
   rw[hι0 j hj];exact hL
  have hσ:∀x y,ι' x=some y→ι2 (σ x)=some y:=by
   intro x y hxy
   by_cases hx:x<V.length
   ·grind
   ·have hxW:x<W:=by
     rcases YX x W with q|q
     ·exact q
     ·grind
    have e:σ x=id+x:=by simp[σ,bk,hx]
    grind
  have hVout:∀j (hj:j<V.length) k,k<W→V[j]≠id+k:=by
   intro j hj k hk e
   obtain⟨x,hx⟩:=hVos j hj
   exact(hfree _ _ hx).1 ⟨by omega,by omega⟩
  have hσinj:∀j j',j<W→j'<W→σ j=σ j'→j=j':=by
   intro j j' hj hj' e
   by_cases h1:j<V.length<;>by_cases h2:j'<V.length
   ·grind
   ·have e2:σ j'=id+j':=by simp[σ,bk,h2]
    grind
   ·have e1:σ j=id+j:=by simp[σ,bk,h1]
    grind
   ·have e1:σ j=id+j:=by simp[σ,bk,h1]
    have e2:σ j'=id+j':=by simp[σ,bk,h2]
    omega
  have hkW:∀q,q∈os'→q.1<W:=fun q hq=>by obtain⟨x,hx⟩:=Zmk hq;grind
  obtain⟨hbk1,hbk2⟩:=ZsJ (σ:=σ) os' f.os (V.map fun o=>(o,none)) (fun p q hp hq e=>hσinj _ _ (hkW p hp) (hkW q hq) e)
  have hcase:∀o x,updO f.os (backU V id os') o=some x→(∃j x',j<W∧o=σ j∧lk os' j=some x'∧x=renO σ x')∨(o∉V∧f.os o=some x):=by
   intro o x hx
   by_cases hq:∃q,q∈os'∧σ q.1=o
   ·obtain⟨q,hq1,hq2⟩:=hq
    obtain⟨x',hx'⟩:=Zmk hq1
    have:=hbk1 q.1 x' hx'
    rw[hq2]at this
    rw[show updO f.os (backU V id os') o=_ from this]at hx
    grind
   ·have:=hbk2 o (fun q hq1 hq2=>hq ⟨q,hq1,hq2⟩)
    rw[show updO f.os (backU V id os') o=_ from this,ZoM]at hx
    grind
  have hplace:∀j x',lk os' j=some x'→x'.live=true→∀l,ι2 (σ j)=some (some l)→ι' j=some (some l):=by
   intro j x' hj hlv l hl
   by_cases hjV:j<V.length
   ·grind
   ·have e:σ j=id+j:=by simp[σ,bk,hjV]
    have:=hlt' _ _ hj
    rw[e]at hl;simp only[ι2]at hl
    rw[if_pos ⟨by omega,by omega⟩,show id+j-id=j by omega]at hl
    exact hl
  have hold2:∀o x,f.os o=some x→∀l,ι2 o=some (some l)→ι o=some (some l):=by
   intro o x hx l hl;simp only[ι2]at hl;rw[if_neg (hfree o x hx).1]at hl;exact hl
  have hinv:Inv C S' ι2 (fun x=>un x∧¬(id≤x∧x<id+W)) {f with os:=updO f.os (backU V id os')} a w':=by
   refine h.turn hS2 hw hι2 ?_ ?_ ?_ (fun b hb=>(hS1 b hb).2) (fun b hb=>?_) (fun o ho=>?_) ?_
   ·intro o x hx
    rcases hcase o x hx with ⟨j,x',hj,rfl,hjx,rfl⟩|⟨hoV,hx⟩
    ·exact(hob'.ob j x' hjx).ren hσ
    ·exact(h.ob o x hx).mono hS2 hw hι2 (fun l hl hlv b hb=>hfr.old _ (h.own o x hx hlv l hl b hb).2.2 (holdn o x hx hlv hoV l hl b hb))
   ·intro o x hx hlv l hl b hb
    rcases hcase o x hx with ⟨j,x',hj,rfl,hjx,rfl⟩|⟨hoV,hx⟩
    ·rw[Zcq]at hlv
     have:=hob'.own j x' hjx hlv l (hplace j x' hjx hlv l hl) b (ZeS hb)
     grind
    ·have hl':=hold2 o x hx l hl
     have hb:=Zao (fun b hb=>hfr.old b (h.own o x hx hlv l hl' b hb).2.2 (holdn o x hx hlv hoV l hl' b hb)) hb
     have:=h.own o x hx hlv l hl' b hb
     refine⟨this.1,fun hs=>?_,by have:=hfr.size;omega⟩
     grind
   ·intro o1 o2 x1 x2 hx1 hx2 hlv1 hlv2 l1 l2 e1 e2 b hb hb2
    rcases hcase o1 x1 hx1 with ⟨j1,y1,hj1,rfl,hjx1,rfl⟩|⟨hoV1,hx1⟩
    ·rw[Zcq]at hlv1
     have p1:=hplace j1 y1 hjx1 hlv1 l1 e1
     rcases hcase o2 x2 hx2 with ⟨j2,y2,hj2,rfl,hjx2,rfl⟩|⟨hoV2,hx2⟩
     ·rw[Zcq]at hlv2
      have p2:=hplace j2 y2 hjx2 hlv2 l2 e2
      rw[hob'.inj j1 j2 y1 y2 hjx1 hjx2 hlv1 hlv2 l1 l2 p1 p2 b (ZeS hb) (ZeS hb2)]
     ·have hl2:=hold2 o2 x2 hx2 l2 e2
      have:=(hob'.own j1 y1 hjx1 hlv1 l1 p1 b (ZeS hb)).1
      have hb2:=Zao (fun b hb=>hfr.old b (h.own o2 x2 hx2 hlv2 l2 hl2 b hb).2.2 (holdn o2 x2 hx2 hlv2 hoV2 l2 hl2 b hb)) hb2
      grind
    ·have hl1:=hold2 o1 x1 hx1 l1 e1
     rcases hcase o2 x2 hx2 with ⟨j2,y2,hj2,rfl,hjx2,rfl⟩|⟨hoV2,hx2⟩
     ·rw[Zcq]at hlv2
      have p2:=hplace j2 y2 hjx2 hlv2 l2 e2
      have:=(hob'.own j2 y2 hjx2 hlv2 l2 p2 b (ZeS hb2)).1
      have hb:=Zao (fun b hb=>hfr.old b (h.own o1 x1 hx1 hlv1 l1 hl1 b hb).2.2 (holdn o1 x1 hx1 hlv1 hoV1 l1 hl1 b hb)) hb
      grind
     ·have hl2:=hold2 o2 x2 hx2 l2 e2
      have hb:=Zao (fun b hb=>hfr.old b (h.own o1 x1 hx1 hlv1 l1 hl1 b hb).2.2 (holdn o1 x1 hx1 hlv1 hoV1 l1 hl1 b hb)) hb
      have hb2:=Zao (fun b hb=>hfr.old b (h.own o2 x2 hx2 hlv2 l2 hl2 b hb).2.2 (holdn o2 x2 hx2 hlv2 hoV2 l2 hl2 b hb)) hb2
      exact h.inj o1 o2 x1 x2 hx1 hx2 hlv1 hlv2 l1 l2 hl1 hl2 b hb hb2
   ·rcases(hS1 b hb).1 with q|q
    ·exact h.sn b q
    grind
   ·simp only[ι2]
    rw[if_neg ho.2];exact h.un o ho.1
   ·exact⟨hfr.os.trans h.fr.os,hfr.output.trans h.fr.output,YV h.fr.size hfr.size,fun b hb hn=>by
     rw[hfr.old b (by have:=h.fr.size;omega) (fun q=>hn (hCOw _ q))];exact h.fr.old b hb hn⟩
  exact Inv.goes hn hinv (fun x hx=>hx) (hrep.ren hσ) hd
 |pure op v hp=>
  refine absurd (fun c e=>?_) hcall
  subst e
  by_cases hb:∃b,c.callee=Callee.builtin b
  ·exact hb
  ·exfalso
   unfold pval at hp
   grind
 |lenOsw=>simp_all
 |files _ _ _ _ hb=>
  refine absurd (fun c e=>?_) hcall
  cases hb with
  |del=>grind
  |delM=>grind
  |copy=>grind
  |len=>grind
  |clr=>grind
  |upd _ t kt m k x hop=>simp_all
  |_=>cases e
 |graphs _ _ _ _ hb=>
  refine absurd (fun c e=>?_) hcall
  cases hb with
  |put _ t kt m k x hop=>simp_all
  |_=>cases e
 |more _ _ _ _ hb=>
  refine absurd (fun c e=>?_) hcall
  cases hb with
  |appE=>grind
  |appW=>grind
  |mapUpd _ t kt m k x hop=>simp_all
  |_=>cases e
 |_=>simp_all
end
end Go.Ab
