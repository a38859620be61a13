import Derived.Test.YtjpmdkgonlmddaaGreatDoorAbD
import Derived.Lib.LazyBuf
set_option linter.unusedVariables false
open Go.MapKept (Stamped)
namespace Go.Ab
theorem Hs{w:World}{z:Nat}{fs fs':List (AV×List (List AV))}{h:Option (Nat×Nat)}{l:Loc}{b:Nat}(hb:cj w (.bL z fs' h) l b):cj w (.bL z fs none) l b:=by
 rcases hb with hb|⟨xs,c,i,e,h1,h2,h3,h4⟩
 ·exact .inl hb
 ·exact .inr ⟨xs,c,i,e,h1,h2,by simp,h4⟩
section
variable {C:Cx}{S:Nat→Prop}{w:World}{ι:ax}{P:Program}{un:Nat→Prop}{f:FS}{a:Act}{id:Nat}{o:Oper}
 {next:Act→World→Prop} {Q:Exit→Act→World→Prop}
theorem jj.tJ{z:Nat}{fs:List (AV×List (List AV))}{h:Option (Nat×Nat)}{xs:Array MapEntry}(hF:kN S w ι z fs h xs):jj false S w ι (eU fs) xs.toList:=by
 refine⟨by simp[eU,hF.1],fun i e x he hx=>?_⟩
 simp only[eU,Yn,Yj]at he
 obtain⟨e0,he0,rfl⟩:=he
 have:=hF.2.1 i e0 x he0 (by simp_all)
 exact⟨this.1,.bI _ _ (.undef _),fun hp=>by cases hp⟩
theorem ir.place{z:Nat}{rs:List (List AV)}{v:Value}(h:ir S w z rs v):
 ∃L:Option Loc,(∀(ι':ax) (k:Nat),ι' k=some L→bP S w ι' (.an k z) v∧ca S w ι' k (.rows true rs))∧∀l2,L=some l2→fw v=some l2.bd∧∃c,eY w l2.bd 0=some c:=by
 rcases h with ⟨_,rfl,a,rfl⟩|⟨l,h1,h0,h2,vals,h3,h4,h5,h6⟩
 ·exact⟨none,fun ι' k hk=>⟨.fk k z a hk,.inl ⟨hk,rfl⟩⟩,fun l2 e=>by cases e⟩
 ·refine⟨some l,fun ι' k hk=>⟨?_,.inr ⟨l,vals,hk,h3,h4,h5,h6⟩⟩,fun l2 e=>?_⟩
  ·rcases kp h2 with ⟨l',a,cap,q,rfl,b2,b3,b4,bz,ba⟩|⟨q,_⟩
   ·injection q with q;injection q with q;subst q
    exact .an k z cap a l hk b2 b3 b4 bz ba
   ·cases q
  ·injection e with e;subst e
   exact⟨h1,(h4 0).1 h0⟩
theorem ir.of{z:Nat}{rs:List (List AV)}{q:Nat}{v:Value}(hz:0<z)(hl:∀row,row∈rs→row.length=z)(hv:bP S w ι (.an q z) v)(ho:ca S w ι q (.rows true rs)):
 ir S w z rs v∧∀b,fw v=some b→∃lq,ι q=some (some lq)∧b=lq.bd:=by
 rcases kp hv with ⟨l,ad,cap,hq,rfl,b2,b3,b4,bz,ba⟩|⟨hq,ad,rfl⟩
 ·rcases ho with ⟨q',_⟩|⟨l',vals,q',hcnt,hm,hat,hrep⟩
  ·simp_all
  ·rw[hq]at q';injection q' with q';injection q' with q';subst q'
   by_cases hc:cap=0
   ·subst hc
    have h0:l.dO=0:=by omega
    rw[h0]
    refine⟨.inl ⟨by rfl,Yy.1 (by omega),_,rfl⟩,fun b hb=>by simp[fw]at hb⟩
   ·obtain rfl:=ba hc
    have sE:l.bo=z:=by
     by_cases h0:l.dO=0
     ·omega
     ·obtain⟨r,hr⟩:∃r,rs[0]? =some r:=⟨_,Y3 (by omega)⟩
      have h1:=hat.2.1 0 (by omega)
      have h2:=(hrep.get hr).1
      grind
    have hpos:0<cap*l.bo:=Nat.mul_pos (by omega) (by omega)
    refine⟨.inr ⟨l,by simp[fw,hc],by omega,.an 0 z cap _ l rfl b2 b3 b4 bz ba,vals,hcnt,hm,hat,fun i r hr=>?_⟩,fun b hb=>⟨l,hq,?_⟩⟩
    ·have:=hrep i r hr;simp_all
    ·simp only[fw,hc,Yc,Y2]at hb;omega
 ·have hrs:rs=[]:=by
   rcases ho with ⟨_,h⟩|⟨l',vals,q',_⟩
   ·exact h
   ·simp_all
  have hv0:fw (.slice ad 0 0)=none:=by cases ad<;>rfl
  exact⟨.inl ⟨hv0,hrs,_,rfl⟩,fun b hb=>by simp_all⟩
theorem Mp:Stamped #[] 0:=⟨fun x h=>by simp at h,by simp,by simp⟩
theorem Mq{xs:Array MapEntry}{clock:Nat}{k v:Value}(h:Stamped xs clock)(hk:∀x,x∈xs.toList→x.key≠k):Stamped (xs.push {key:=k,val:=v,born:=clock}) (clock+1):=by
 refine⟨fun x hx=>?_,?_,?_⟩
 ·simp only[Vj,Yw,Ys]at hx
  rcases hx with hx|rfl
  ·have:=h.1 x hx;omega
  simp
 ·simp only[Vj,Yd,Yp,Vr]
  refine Vk.2 ⟨h.2.1,by simp,fun a ha b hb=>?_⟩
  obtain⟨x,hx,rfl⟩:=YM.1 ha
  have:=h.1 x hx
  grind
 ·simp only[Vj,Yd,Yp,Vr]
  refine Vk.2 ⟨h.2.2,by simp,fun a ha b hb=>?_⟩
  grind
theorem U4{xs:Array MapEntry}{clock j:Nat}{k v:Value}{x0:MapEntry}(h:Stamped xs clock)(hx:xs[j]? =some x0)(hk:k=x0.key):Stamped (xs.modify j fun e=>{e with key:=k,val:=v}) clock:=by
 have hb:∀{α:Type} (g:MapEntry→α),(g {x0 with key:=k,val:=v}=g x0)→((xs.modify j fun e=>{e with key:=k,val:=v}).toList.map g)=xs.toList.map g:=by
  intro α g hg;apply Vi;intro i
  rw[Yn,Yn,Wh,Wh,Vp]
  by_cases e:j=i
  ·simp_all
  ·grind
 refine⟨fun x hx'=>?_,by rw[hb (·.born) rfl];exact h.2.1,by rw[hb (·.key) hk];exact h.2.2⟩
 have:=Ws (f:=(·.born)) hx'
 rw[hb (·.born) rfl]at this
 obtain⟨y,hy,e⟩:=YM.1 this
 rw[←e];exact h.1 y hy
theorem UM{xs:Array MapEntry}{clock j:Nat}(h:Stamped xs clock)(hj:j<xs.size):Stamped (xs.eraseIdx j hj) clock:=by
 have hs:(xs.eraseIdx j hj).toList.Sublist xs.toList:=by
  rw[Array.toList_eraseIdx];exact List.eraseIdx_sublist _ _
 exact⟨fun x hx=>h.1 x (hs.subset hx),h.2.1.sublist (hs.map _),h.2.2.sublist (hs.map _)⟩
theorem SI{kt:TypeId}{k k':AV}{u v:Value}(h:cY P kt k k'=some true)(hu:bP S w ι k u)(hv:bR S w k' v):u=v:=by
 unfold cY at h;split at h
 ·split at h
  ·rename_i e;subst e
   cases hv;rw[hu.bu];simp_all
  ·cases h
 ·rename_i a b _
  have hv':=(bP.bI (ι:=ι) _ _ hv).cx
  rw[hu.cx,hv'];simp_all
 ·cases hv
  rw[hu.dp];simp_all
 ·split at h
  ·rename_i e
   obtain⟨rfl,rfl⟩:=e
   rw[qI hu,qI (bP.bI (ι:=ι) _ _ hv)]
   simp_all
  ·cases h
 ·cases h
theorem Re{kt:TypeId}{k k':AV}{u v:Value}(h:cY P kt k k'=some false)(hu:bP S w ι k u)(hv:bR S w k' v):v≠u:=by
 intro e;subst e;unfold cY at h;split at h
 ·split at h
  ·rename_i e;subst e
   have h1:=hu.bu
   have h2:=(bP.bI (ι:=ι) _ _ hv).bu
   simp_all
  ·cases h
 ·have h1:=hu.cx
  have h2:=(bP.bI (ι:=ι) _ _ hv).cx
  simp_all
 ·have h1:=hu.dp
  have h2:=(bP.bI (ι:=ι) _ _ hv).dp
  simp_all
 ·split at h
  ·rename_i e
   obtain⟨rfl,rfl⟩:=e
   have h1:=qI hu
   have h2:=qI (bP.bI (ι:=ι) _ _ hv)
   simp_all
  ·cases h
 ·cases h
theorem LV{kt:TypeId}{k:AV}:∀(es:List (AV×AV)) (i:Nat),fQ P kt k es i none→∀(j:Nat) e,es[j]? =some e→cY P kt k e.1=some false
 | [],_,_,j,e,he=>by simp at he
 |e0::es,i,h,j,e,he=>by
  rcases h with ⟨_,h⟩|⟨h1,h2⟩
  ·cases h
  ·cases j with
   |zero=>simp_all
   |succ j=>exact LV es (i+1) h2 j e (by simp_all)
theorem L9{kt:TypeId}{k:AV}{u:Value}{p:Bool}{es:List (AV×AV)}{xs:Array MapEntry}(hr:fQ P kt k es 0 none)(hM:jj p S w ι es xs.toList)(hu:bP S w ι k u):∀x,x∈xs.toList→x.key≠u:=by
 intro x hx
 obtain⟨j,hj⟩:=Wj hx
 have hl:j<es.length:=by rw[hM.1];exact eZ hj
 have he:=Y3 hl
 exact Re (LV es 0 hr j _ he) hu (hM.2 j _ x he hj).1
theorem Inv.EX(h:Inv C S ι un f a w)(hid:un id){o z:Nat}{fs:List (AV×List (List AV))}{i:Nat}{e:AV×List (List AV)}(ho:f.os o=some (.bL z fs none))(he:fs[i]? =some e)
 {l:Loc} {xs:Array MapEntry} {clock:Nat} {x:MapEntry} (hl:ι o=some (some l)) (hheap:w.heap[l.bd]? =some (.map xs clock)) (hx:xs[i]? =some x):
 ∃ι',ι.le ι'∧bP S w ι' (.an id z) x.val∧Inv C S ι' (fun y=>un y∧y≠id) {f with os:=ay f.os [(id,some (.rows true e.2)),(o,some (.bL z fs (some (i,id))))]} a w:=by
 have fD:=h.un id hid
 obtain⟨l',fa,clock',hl',dt,hlim,hF⟩:=h.ob o _ ho
 rw[hl]at hl';injection hl' with hl';injection hl' with hl';subst hl'
 rw[hheap]at dt;injection dt with dt;injection dt with e1 e2;subst e1;subst e2
 have lF:o≠id:=h.pQ hid ho
 obtain⟨L,vL,sI⟩:=((hF.2.1 i e x he hx).2.1 (by simp)).place
 have hι:=C1 (ι:=ι) (id:=id) (x:=L) fD
 have hιid:(fun o=>if o=id then some L else ι o) id=some L:=by simp
 have gh:∀l2,L=some l2→cj w (.bL z fs none) l l2.bd:=fun l2 e=>.inr ⟨xs,clock,i,x,hheap,hx,by simp,(sI l2 e).1⟩
 refine⟨fun o=>if o=id then some L else ι o,hι,(vL _ id hιid).1,?_⟩
 have hw:fz S w w:=fun _ _=>rfl
 have hosU:∀k y,ay f.os [(id,some (.rows true e.2)),(o,some (.bL z fs (some (i,id))))] k=some y→(k=id∧y=.rows true e.2)∨(k=o∧y=.bL z fs (some (i,id)))∨(k≠id∧k≠o∧f.os k=some y):=by
  intro k y hy;simp only[ay]at hy
  by_cases e1:k=id
  ·simp_all
  ·grind
 have hιk:∀k,k≠id→∀l2,(if k=id then some L else ι k)=some (some l2)→ι k=some (some l2):=fun k hk l2 e=>by simp_all
 have p3:∀l2,(if id=id then some L else ι id)=some (some l2)→L=some l2:=fun l2 e=>by simp_all
 refine h.hP (fun _ x=>x) hw hι ?_ ?_ ?_ h.sb h.sn (fun k hk=>by simp only[hk.2,Yc];exact h.un k hk.1) h.fr
 ·intro k y hy
  rcases hosU k y hy with ⟨rfl,rfl⟩|⟨rfl,rfl⟩|⟨h1,h2,h3⟩
  ·simp_all
  ·refine⟨l,xs,clock,hι _ _ hl,hheap,hlim,hF.1,fun j e' x' mq hx'=>?_,fun j j' x1 x2 b h1 h2 h3 h4 h5 h6=>hF.2.2 j j' x1 x2 b h1 h2 (by simp) (by simp) h5 h6⟩
   obtain⟨g1,g2,g3⟩:=hF.2.1 j e' x' mq hx'
   grind
  ·exact(h.ob k y h3).mono (fun _ x=>x) hw hι (fun _ _ _ _ _=>rfl)
 ·intro k y hy hly l2 dJ b hb
  rcases hosU k y hy with ⟨rfl,rfl⟩|⟨rfl,rfl⟩|⟨h1,h2,h3⟩
  ·rw[iw rfl hb]
   exact h.own o _ ho rfl l hl _ (gh l2 (p3 l2 dJ))
  ·exact h.own k _ ho rfl l2 (hιk k lF l2 dJ) b (Hs hb)
  ·exact h.own k y h3 hly l2 (hιk k h1 l2 dJ) b hb
 ·have mz:∀l2 b,L=some l2→b=l2.bd→∀l3,ι o=some (some l3)→cj w (.bL z fs (some (i,id))) l3 b→False:=by
   intro l2 b hL hb l3 jo hf
   rw[hl]at jo;injection jo with jo;injection jo with jo;subst jo
   obtain⟨hv,c,hc⟩:=sI l2 hL
   subst hb
   rcases hf with hf|⟨Ck,c2,j,e2,g1,g2,g3,g4⟩
   ·simp only[eY,World.cell?,hf,hheap]at hc
    cases hc
   ·rw[hheap]at g1;injection g1 with g1;injection g1 with q1 q2;subst q1
    have:=hF.2.2 i j x e2 l2.bd hx g2 (by simp) (by simp) hv g4
    simp_all
  intro k1 k2 y1 y2 hy1 hy2 hv1 hv2 l1 l2 e1 e2 b hb1 hb2
  rcases hosU k1 y1 hy1 with ⟨rfl,rfl⟩|⟨rfl,rfl⟩|⟨h1,h2,h3⟩<;>rcases hosU k2 y2 hy2 with ⟨g0,g⟩|⟨g0,g⟩|⟨g1,g2,g3⟩
  ·omega
  ·subst g0;subst g
   exact(mz l1 b (p3 l1 e1) (iw rfl hb1) l2 (hιk k2 lF l2 e2) hb2).elim
  ·have hb:=gh l1 (p3 l1 e1)
   rw[←iw rfl hb1]at hb
   exact absurd (h.inj o k2 _ y2 ho g3 rfl hv2 l l2 hl (hιk k2 g1 l2 e2) b hb hb2) (fun e=>g2 e.symm)
  ·subst g0;subst g
   exact(mz l2 b (p3 l2 e2) (iw rfl hb2) l1 (hιk k1 lF l1 e1) hb1).elim
  ·omega
  ·exact absurd (h.inj k1 k2 _ y2 ho g3 rfl hv2 l1 l2 (hιk k1 lF l1 e1) (hιk k2 g1 l2 e2) b (Hs hb1) hb2) (fun e=>g2 e.symm)
  ·subst g0;subst g
   have hb:=gh l2 (p3 l2 e2)
   rw[←iw rfl hb2]at hb;exact absurd (h.inj k1 o y1 _ h3 ho hv1 rfl l1 l (hιk k1 h1 l1 e1) hl b hb1 hb) h2
  ·subst g0;subst g
   exact h.inj k1 k2 y1 _ h3 ho hv1 rfl l1 l2 (hιk k1 h1 l1 e1) (hιk k2 lF l2 e2) b hb1 (Hs hb2)
  ·exact h.inj k1 k2 y1 y2 h3 g3 hv1 hv2 l1 l2 (hιk k1 h1 l1 e1) (hιk k2 g1 l2 e2) b hb1 hb2
theorem DM{z:Nat}{fs:List (AV×List (List AV))}{hh:Option (Nat×Nat)}{l:Loc}{xs:Array MapEntry}{clock i:Nat}{x:MapEntry}(hheap:w.heap[l.bd]? =some (.map xs clock))
 (hx:xs[i]? =some x) (hn:hh.map (·.1)≠some i) {b:Nat} (hv:fw x.val=some b):cj w (.bL z fs hh) l b:=.inr ⟨xs,clock,i,x,hheap,hx,hn,hv⟩
theorem Inv.qh(h:Inv C S ι un f a w){o z:Nat}{fs fs':List (AV×List (List AV))}{hh:Option (Nat×Nat)}(ho:f.os o=some (.bL z fs hh)){l:Loc}(hl:ι o=some (some l))
 {xs fa:Array MapEntry} {clock clock':Nat} (hheap:w.heap[l.bd]? =some (.map xs clock)) (hlim:ny fa clock') {V:List Nat} (hV:o∉V)
 (oP:∀(i:Nat) x,fa[i]? =some x→(∃j,xs[j]? =some x∧hh.map (·.1)≠some j)∨∀b,fw x.val=some b→∃q lq y,q∈V∧f.os q=some y∧y.live=true∧ι q=some (some lq)∧b=lq.bd)
 (hF:∀w':World,fz S w w'→(∀b,b≠l.bd→w'.heap[b]? =w.heap[b]?)→kN S w' ι z fs' none fa):
 Inv C S ι un {f with os:=ay f.os ((o,some (.bL z fs' none))::V.map fun q=>(q,none))} a {w with heap:=w.heap.setIfInBounds l.bd (.map fa clock')}:=by
 obtain⟨hO,hS,hlt⟩:=h.own o _ ho rfl l hl _ (.inl rfl)
 have eo:∀b,b≠l.bd→(w.heap.setIfInBounds l.bd (Obj.map fa clock'))[b]? =w.heap[b]? :=fun b hb=>Wz (fun e=>hb e.symm)
 have hw:fz S w {w with heap:=w.heap.setIfInBounds l.bd (.map fa clock')}:=fun b hb=>eo b (fun e=>hS (e▸hb))
 have me:(w.heap.setIfInBounds l.bd (Obj.map fa clock'))[l.bd]? =some (.map fa clock'):=by simp[hlt]
 have hoth:∀o' y,f.os o'=some y→y.live=true→o'≠o→∀l',ι o'=some (some l')→∀b,cj w y l' b→(w.heap.setIfInBounds l.bd (Obj.map fa clock'))[b]? =w.heap[b]? :=fun o' y hy hly e l' hl' b hb=>
  eo b (fun eb=>e (h.inj o' o y _ hy ho hly rfl l' l hl' hl b hb (.inl eb)))
 have hosU:∀k y,ay f.os ((o,some (.bL z fs' none))::V.map fun q=>(q,none)) k=some y→(k=o∧y=.bL z fs' none)∨(k≠o∧k∉V∧f.os k=some y):=by
  intro k y hy
  have hn:∀(V:List Nat) (k:Nat),ay f.os (V.map fun q=>(q,none)) k=if k∈V then none else f.os k:=by
   intro V
   induction V with
   |nil=>intro k;rfl
   |cons q r ih=>
    intro k;simp only[Yp,ay,ih,Yh]
    grind
  simp only[ay]at hy
  by_cases e2:k=o
  ·simp_all
  ·simp_all
 have iX:∀b,cj {w with heap:=w.heap.setIfInBounds l.bd (.map fa clock')} (.bL z fs' none) l b→
  cj w (.bL z fs hh) l b∨∃q lq y,q∈V∧f.os q=some y∧y.live=true∧ι q=some (some lq)∧b=lq.bd:=by
  rintro b (hb|⟨ys,c,i,x,h1,h2,h3,h4⟩)
  ·exact .inl (.inl hb)
  ·rw[show({w with heap:=w.heap.setIfInBounds l.bd (.map fa clock')}:World).heap[l.bd]? =_ from me]at h1
   injection h1 with h1;injection h1 with q1 q2;subst q1
   rcases oP i x h2 with ⟨j,hj,hn⟩|hq
   ·exact .inl (DM hheap hj hn h4)
   simp_all
 refine h.hP (fun _ x=>x) hw (ax.le_refl _) ?_ ?_ ?_ (fun b hb=>by simpa using h.sb b hb) h.sn h.un ?_
 ·intro k y hy
  rcases hosU k y hy with ⟨rfl,rfl⟩|⟨h1,h2,h3⟩
  ·exact⟨l,fa,clock',hl,me,hlim,hF _ hw eo⟩
  ·refine(h.ob k y h3).mono (fun _ x=>x) hw (ax.le_refl _) (fun l' hl' hy' b hb=>eo _ (fun eb=>h1 (h.inj k o y _ h3 ho hy' rfl l' l hl' hl b hb (.inl eb))))
 ·intro k y hy hly l' hl' b hb
  have hsz:(w.heap.setIfInBounds l.bd (Obj.map fa clock')).size=w.heap.size:=by simp
  rcases hosU k y hy with ⟨rfl,rfl⟩|⟨h1,h2,h3⟩
  ·rw[hl]at hl';injection hl' with hl';injection hl' with hl';subst hl'
   rcases iX b hb with hb|⟨q,lq,y,hq,hy,hlv,hlq,rfl⟩
   ·have:=h.own k _ ho rfl l hl b hb
    simp_all
   ·have:=h.own q y hy hlv lq hlq _ (.inl rfl)
    simp_all
  ·have:=h.own k y h3 hly l' hl' b (eP (hoth k y h3 hly h1 l' hl') hb)
   simp_all
 ·have mz:∀k y,f.os k=some y→y.live=true→k≠o→k∉V→∀l',ι k=some (some l')→∀b,cj {w with heap:=w.heap.setIfInBounds l.bd (.map fa clock')} y l' b→
   cj {w with heap:=w.heap.setIfInBounds l.bd (.map fa clock')} (.bL z fs' none) l b→False:=by
   intro k y hy hly hne Oz l' hl' b hb hb2
   have mJ:=eP (hoth k y hy hly hne l' hl') hb
   rcases iX b hb2 with hb2|⟨q,lq,y2,hq,hy2,hlv,hlq,rfl⟩
   ·exact hne (h.inj k o y _ hy ho hly rfl l' l hl' hl b mJ hb2)
   ·have:=h.inj k q y y2 hy hy2 hly hlv l' lq hl' hlq _ mJ (.inl rfl)
    simp_all
  intro k1 k2 y1 y2 hy1 hy2 hv1 hv2 l1 l2 e1 e2 b hb1 hb2
  rcases hosU k1 y1 hy1 with ⟨rfl,rfl⟩|⟨h1,h2,h3⟩<;>rcases hosU k2 y2 hy2 with ⟨g0,g⟩|⟨g1,g2,g3⟩
  ·omega
  ·grind
  ·grind
  ·exact h.inj k1 k2 y1 y2 h3 g3 hv1 hv2 l1 l2 e1 e2 b (eP (hoth k1 y1 h3 hv1 h1 l1 e1) hb1) (eP (hoth k2 y2 g3 hv2 g1 l2 e2) hb2)
 ·refine⟨h.fr.os,h.fr.output,by simpa using h.fr.size,fun b hb hn=>?_⟩
  have:=eo b (fun e=>hn (by simp_all))
  exact this.trans (h.fr.old b hb hn)
theorem kN.mT{z:Nat}{fs:List (AV×List (List AV))}{hh:Option (Nat×Nat)}{xs:Array MapEntry}{l:Loc}{clock:Nat}(hheap:w.heap[l.bd]? =some (.map xs clock))(hF:kN S w ι z fs hh xs)
 {i:Nat} {x:MapEntry} (hx:xs[i]? =some x) (hn:hh.map (·.1)≠some i) {b:Nat} (hb:fw x.val=some b):b≠l.bd:=by
 intro e;subst e
 obtain⟨e,he⟩:∃e,fs[i]? =some e:=⟨_,Y3 (by rw[hF.1];grind)⟩
 obtain⟨L,_,sI⟩:=((hF.2.1 i e x he hx).2.1 hn).place
 rcases(hF.2.1 i e x he hx).2.1 hn with ⟨hv,_⟩|⟨l2,h1,h0,_,vals,_,h4,_⟩
 ·simp_all
 ·rw[hb]at h1;injection h1 with h1
  obtain⟨c,hc⟩:=(h4 0).1 h0
  simp only[eY,World.cell?,←h1,hheap]at hc;cases hc
theorem Inv.Ap(h:Inv C S ι un f a w){o z:Nat}{fs:List (AV×List (List AV))}{hh:Option (Nat×Nat)}(ho:f.os o=some (.bL z fs hh)){l:Loc}(hl:ι o=some (some l))
 {xs fa:Array MapEntry} {clock clock':Nat} (hheap:w.heap[l.bd]? =some (.map xs clock)) {q:Nat} {rs eA:List (List AV)} (hq:f.os q=some (.rows true rs)) (hne:q≠o) {u:Value}
 (hV:ir S w z eA u) (hVb:∀b,fw u=some b→∃lq,ι q=some (some lq)∧b=lq.bd) (j:Nat) (k:AV) (y:MapEntry) (fs':List (AV×List (List AV)))
 (hlen:fs'.length=fa.size) (hlim:ny fa clock') (OL:fs'[j]? =some (k,eA)) (rn:fa[j]? =some y) (Cu:y.val=u) (Oy:bR S w k y.key)
 (iE:∀i,i≠j→fs'[i]? =fs[i]? ∧fa[i]? =xs[i]? ∧hh.map (·.1)≠some i):
 Inv C S ι un {f with os:=ay f.os [(o,some (.bL z fs' none)),(q,none)]} a {w with heap:=w.heap.setIfInBounds l.bd (.map fa clock')}:=by
 obtain⟨l',Ck,qA,hl',dt,il,hF⟩:=h.ob o _ ho
 rw[hl]at hl';injection hl' with hl';injection hl' with hl';subst hl'
 rw[hheap]at dt;injection dt with dt;injection dt with e1 e2;subst e1;subst e2
 have hvq:∀b,fw u=some b→b≠l.bd:=fun b hb e=>by
  obtain⟨lq,hlq,hb2⟩:=hVb b hb
  exact hne (h.inj q o _ _ hq ho rfl rfl lq l hlq hl b (.inl hb2) (.inl e))
 have:=h.qh ho hl hheap hlim (clock':=clock') (fs':=fs') (V:=[q]) (by grind) (fun i x hx=>?_) (fun w' hw hoth=>⟨hlen,fun i e x he hx=>?_,fun i i' x x' b hx hx' _ _ hv hv'=>?_⟩)
 ·exact this
 ·by_cases hi:i=j
  ·subst hi
   rw[rn]at hx;injection hx with hx;subst hx
   right;intro b hb;rw[Cu]at hb
   obtain⟨lq,h1,h2⟩:=hVb b hb
   exact⟨q,lq,_,by simp,hq,rfl,h1,h2⟩
  grind
 ·by_cases hi:i=j
  ·subst hi
   rw[rn]at hx;injection hx with hx;subst hx
   rw[OL]at he;injection he with he;subst he
   refine⟨Oy.mono (fun _ h=>h) hw,fun _=>?_,fun q hq=>by cases hq⟩
   rw[Cu]
   exact hV.mono (fun _ h=>h) hw (fun b hb=>hoth b (hvq b hb))
  ·obtain⟨h1,h2,h3⟩:=iE i hi
   rw[h1]at he;rw[h2]at hx
   obtain⟨g1,g2,g3⟩:=hF.2.1 i e x he hx
   exact⟨g1.mono (fun _ h=>h) hw,fun _=>(g2 h3).mono (fun _ h=>h) hw (fun b hb=>hoth b (hF.mT hheap hx h3 hb)),fun q hq=>by cases hq⟩
 ·by_cases hi:i=j<;>by_cases hi':i'=j
  ·omega
  ·subst hi
   rw[rn]at hx;injection hx with hx;subst hx
   rw[Cu]at hv
   obtain⟨lq,hlq,hb2⟩:=hVb b hv
   obtain⟨_,h2,h3⟩:=iE i' hi'
   rw[h2]at hx';exact absurd (h.inj q o _ _ hq ho rfl rfl lq l hlq hl b (.inl hb2) (DM hheap hx' h3 hv')) hne
  ·subst hi'
   rw[rn]at hx';injection hx' with hx';subst hx'
   rw[Cu]at hv'
   obtain⟨lq,hlq,hb2⟩:=hVb b hv'
   obtain⟨_,h2,h3⟩:=iE i hi
   rw[h2]at hx;exact absurd (h.inj q o _ _ hq ho rfl rfl lq l hlq hl b (.inl hb2) (DM hheap hx h3 hv)) hne
  ·obtain⟨_,h2,h3⟩:=iE i hi
   obtain⟨_,vM,CN⟩:=iE i' hi'
   rw[h2]at hx;rw[vM]at hx';exact hF.2.2 i i' x x' b hx hx' h3 CN hv hv'
theorem Inv.An(h:Inv C S ι un f a w){o z:Nat}{fs:List (AV×List (List AV))}{hh:Option (Nat×Nat)}(ho:f.os o=some (.bL z fs hh)){l:Loc}(hl:ι o=some (some l))
 {xs fa:Array MapEntry} {clock clock':Nat} (hheap:w.heap[l.bd]? =some (.map xs clock)) (fs':List (AV×List (List AV))) (g:Nat→Nat) (hg:∀i j,g i=g j→i=j)
 (hlen:fs'.length=fa.size) (hlim:ny fa clock') (iE:∀i,fs'[i]? =fs[g i]? ∧fa[i]? =xs[g i]? ∧hh.map (·.1)≠some (g i)):
 Inv C S ι un {f with os:=ay f.os [(o,some (.bL z fs' none))]} a {w with heap:=w.heap.setIfInBounds l.bd (.map fa clock')}:=by
 obtain⟨l',Ck,qA,hl',dt,il,hF⟩:=h.ob o _ ho
 rw[hl]at hl';injection hl' with hl';injection hl' with hl';subst hl'
 rw[hheap]at dt;injection dt with dt;injection dt with e1 e2;subst e1;subst e2
 have:=h.qh ho hl hheap hlim (clock':=clock') (fs':=fs') (V:=[]) (by simp) (fun i x hx=>?_) (fun w' hw hoth=>⟨hlen,fun i e x he hx=>?_,fun i i' x x' b hx hx' _ _ hv hv'=>?_⟩)
 ·exact this
 ·grind
 ·obtain⟨h1,h2,h3⟩:=iE i
  rw[h1]at he;rw[h2]at hx
  obtain⟨g1,g2,g3⟩:=hF.2.1 _ e x he hx
  exact⟨g1.mono (fun _ h=>h) hw,fun _=>(g2 h3).mono (fun _ h=>h) hw (fun b hb=>hoth b (hF.mT hheap hx h3 hb)),fun q hq=>by cases hq⟩
 ·obtain⟨_,h2,h3⟩:=iE i
  obtain⟨_,vM,CN⟩:=iE i'
  rw[h2]at hx;rw[vM]at hx';exact hg _ _ (hF.2.2 _ _ x x' b hx hx' h3 CN hv hv')
theorem SA{o:Nat}{p:Bool}{rs:List (List AV)}{l:Loc}{vals:Nat→List Value}(hl:ι o=some (some l))(hcnt:rs.length=l.dO)(hm:kr w l)
 (hat:oV w l rs.length vals) (hrep:jy p S w ι rs vals) {off n:Nat} {z:List AV} {zs:List Value} (hz:bO S w z zs) (hone:∀v,v∈zs→v.oneCell'=true) (hzl:zs.length=l.bo)
 (hn:off+n≤rs.length) (hw:fz S w (w.setCells l.bd (l.base+off*l.bo) (List.replicate n zs).flatten)):
 ca S (w.setCells l.bd (l.base+off*l.bo) (List.replicate n zs).flatten) ι o (.rows p (rs.take off++(List.replicate n z++rs.drop (off+n)))):=by
 have hlen:(rs.take off++(List.replicate n z++rs.drop (off+n))).length=rs.length:=by simp;omega
 have hfl:(List.replicate n zs).flatten.length=n*l.bo:=by simp[hzl]
 have qa:l.base+(off*l.bo+n*l.bo)≤l.size:=by
  have:(off+n)*l.bo≤rs.length*l.bo:=Yr _ hn
  rw[YT]at this
  have:=hat.1
  omega
 have hget:∀(i:Nat) r,(rs.take off++(List.replicate n z++rs.drop (off+n)))[i]? =some r→((off≤i∧i<off+n)∧r=z)∨(¬(off≤i∧i<off+n)∧rs[i]? =some r):=by
  intro i r hr
  rcases YY i off with q|q
  ·grind
  ·grind
 refine .inr ⟨l,fun i=>if off≤i∧i<off+n then zs else vals i,hl,by omega,hm.setCells _ _,⟨by rw[hlen];exact hat.1,fun i hi=>?_,fun i j v hi hv=>?_⟩,fun i r hr=>?_⟩
 ·rw[hlen]at hi
  by_cases e:off≤i∧i<off+n
  ·simp_all
  ·simp only[e,Yc];exact hat.2.1 i hi
 ·rw[hlen]at hi
  by_cases e:off≤i∧i<off+n
  ·simp only[e,and_self,Yi]at hv
   have kx:j<l.bo:=by
    rw[←hzl]
    rcases YY j zs.length with h|h
    ·exact h
    ·simp_all
   have hk:(i-off)*l.bo+j<n*l.bo:=by
    have:(i-off+1)*l.bo≤n*l.bo:=Yr _ (by omega)
    rw[YT]at this;omega
   have hpos:off*l.bo+((i-off)*l.bo+j)=i*l.bo+j:=by
    rw[←WB,←YT,show off+(i-off)=i by omega]
   have:=WE l.bd (List.replicate n zs).flatten (l.base+off*l.bo) w (fun q hq=>by
    obtain⟨u,hu⟩:=(hm (l.base+off*l.bo+q)).1 (by omega)
    simp_all) ((i-off)*l.bo+j) (by omega)
   rw[show l.base+off*l.bo+((i-off)*l.bo+j)=l.base+(i*l.bo+j) by omega]at this
   refine⟨this.trans ?_,hone v (YA hv)⟩
   have h9:=Kt (n:=l.bo) n ((i-off)*l.bo+j) zs hzl hk
   rw[Y3 (by omega)]at h9
   rw[h9,Nat.add_comm,Nat.add_mul_mod_self_right,Wf kx];exact hv
  ·simp only[e,Yc]at hv
   have kx:j<l.bo:=by
    rw[←hat.2.1 i hi]
    rcases YY j (vals i).length with h|h
    ·exact h
    ·simp_all
   have h9:=hat.2.2 i j v hi hv
   refine⟨?_,h9.2⟩
   show(w.setCells l.bd (l.base+off*l.bo) (List.replicate n zs).flatten).cell? _=some v
   rw[Wa l.bd _ _ w _ (fun _ _=>by
    simp only
    rcases YY i off with q|q
    ·left
     have:(i+1)*l.bo≤off*l.bo:=Yr _ q
     grind
    ·right
     have:(off+n)*l.bo≤i*l.bo:=Yr _ (by omega)
     grind)]
   exact h9.1
 ·rcases hget i r hr with ⟨e,rfl⟩|⟨e,hr⟩
  ·simp only[e,and_self,Yi]
   cases p with
   |false=>simp only[Yu,Yc];exact(hz.rep (ι:=ι)).mono (fun _ x=>x) hw (ax.le_refl _)
   |true=>simp only[Yi];exact hz.mono (fun _ x=>x) hw
  ·simp only[e,Yc]
   have kT:=hrep i r hr
   cases p with
   |false=>simp only[Yu,Yc]at kT⊢;exact kT.mono (fun _ x=>x) hw (ax.le_refl _)
   |true=>simp only[Yi]at kT⊢;exact kT.mono (fun _ x=>x) hw
theorem JX{cs:List AV}{bd:Obj}{vs:Array Value}{t:TypeId}{k z:Nat}(hk:cs[k]? =some .dq)(hn:fP C un id o f (.ptr id 0 0) [(id,some (.rows false [setAt cs k [.an (id+1) z]])),(id+1,some (.rows true []))] next)
 (h:Inv C S ι un f a w) (hd:∀d,o.dst=some d→C.N.lo≤d∧d<C.N.n) (hid:∀x,id≤x→x<id+W→un x)
 (hb:bd=.cells vs t) (hvs:az S w ι cs vs.toList) (hone:∀v,v∈vs.toList→v.oneCell'=true) (hrun:(execOp a.eval o).run P w=.ok (.value (.pointer (some ⟨w.heap.size,0,none⟩))) (w.alloc bd)):
 o.wp P a w next Q:=by
 unfold Oper.wp;rw[hrun,Oper.upon_value];subst hb
 have hlen:=hvs.1
 simp only[Array.length_toList]at hlen
 have px:=eZ hk
 obtain⟨ι1,p6,hι1,h1⟩:=h.void (id:=id+1) (hid (id+1) (by omega) (by simp[W])) true
 have hcl:(setAt cs k [AV.an (id+1) z]).length=cs.length:=tn _ _ _ (by grind)
 have sw:az S w ι1 (setAt cs k [.an (id+1) z]) vs.toList:=by
  refine⟨by simp_all,fun j x v hx hv=>?_⟩
  unfold setAt at hx
  rcases Nat.lt_trichotomy j k with q|q|q
  ·rw[Yt (by grind),W8,if_pos q]at hx
   exact(hvs.2 j x v hx hv).mono (fun _ x=>x) (fun _ _=>rfl) p6
  ·subst q
   rw[Yf (by grind)]at hx
   simp only[YD,W0 (WH px),WN,YJ,List.getElem?_cons_zero,Y2]at hx
   subst hx
   have:=hvs.2 j _ v hk hv
   cases this with
   |bI _ _ h=>cases h with|dq ad=>exact .fk (id+1) z ad hι1
  ·rw[Yf (by grind),YD,W0 (WH px),Yf (by grind),YR]at hx
   simp only[List.length_singleton]at hx
   rw[show k+1+(j-k-1)=j by omega]at hx
   exact(hvs.2 j x v hx hv).mono (fun _ x=>x) (fun _ _=>rfl) p6
 generalize setAt cs k [AV.an (id+1) z]=mK at hn hcl sw
 obtain⟨ι',hle,hι',hinv⟩:=h1.alloc (id:=id) ⟨hid id (Yg _) (by simp[W]),by omega⟩ (.cells vs t) ⟨w.heap.size,0,mK.length,mK.length,1⟩ rfl (.rows false [mK]) rfl (fun _ h=>iw rfl h) (fun ι' hle hι'=>by
  refine .inr ⟨_,fun _=>vs.toList,hι',rfl,fun j=>⟨fun hj=>?_,fun _=>by simp⟩,⟨by simp,fun i hi=>by grind,fun i j v hi hv=>?_⟩,fun i r hr=>?_⟩
  ·simp_all
  ·simp only[List.length_singleton]at hi
   have:i=0:=by omega
   subst this;simp only[Vb,YS,eY]
   rw[World.cell?_alloc_new]
   grind
  ·have:i=0:=by have:=eZ hr;simp at this;omega
   subst this
   simp only[List.getElem?_cons_zero,Y2]at hr
   subst hr;simp only[Yu,Yc]
   exact sw.mono (fun _ x=>x) (fun b hb=>qJ w _ b (h1.sb b hb)) hle)
 have e:ay (ay f.os [(id+1,some (.rows true []))]) [(id,some (.rows false [mK]))]=ay f.os [(id,some (.rows false [mK])),(id+1,some (.rows true []))]:=by
  funext x
  simp only[ay]
 have hinv2:Inv C S ι' (fun x=>(un x∧x≠id+1)∧x≠id) {f with os:=ay f.os [(id,some (.rows false [mK])),(id+1,some (.rows true []))]} a (w.alloc (.cells vs t)):=by
  rw[←e];exact hinv
 refine Inv.goes hn hinv2 (fun x hx=>⟨⟨hx.1,fun e=>hx.2 ⟨by omega,by subst e;simp[W]⟩⟩,fun e=>hx.2 ⟨by omega,by subst e;simp[W]⟩⟩) ?_ hd
 have:=bP.ptr (S:=S) (w:=w.alloc (.cells vs t)) (ι:=ι') id 0 0 _ hι'
 simp_all
theorem Q1{op:Op}{v:AV}{U:List (Nat×Option AO)}{RO:List Nat}(cu:o.op=op)(h:Inv C S ι un f a w)
 (hst:dZ P (gD C.G f.g) f.os id op v U RO) (hid:∀x,id≤x→x<id+W→un x) (hd:∀d,o.dst=some d→C.N.lo≤d∧d<C.N.n) (hn:fP C un id o f v U next):o.wp P a w next Q:=by
 have yU:∀x,un x∧¬(id≤x∧x<id+W)→un x∧x≠id:=fun x hx=>po hx
 have lift:∀{s:Sem Value} {v':Value} {w':World},(execOp a.eval o)=(do pure (Next.value (←s)):Sem Next)→s.run P w=.ok v' w'→(execOp a.eval o).run P w=.ok (.value v') w':=by
  intro s v' w' e h1;rw[e];simp only[Y7,h1,Result.andThen_ok,Sem.run_pure]
 cases hst with
 |look t kt m k ok ob z fs i e hm ho ht hk hr he=>
  have gM:=h.ev m;have hkv:=h.ev k
  rw[hm]at gM
  obtain⟨l,hl,iv⟩:=gM.cK
  obtain⟨l',xs,clock,hl',hheap,iu,hF⟩:=h.ob ob _ ho
  rw[hl]at hl';injection hl' with hl';injection hl' with hl';subst hl'
  obtain⟨ji,iK,⟨d,hd'⟩,hsb⟩:=pb hk hkv
  obtain⟨e',iY,iJ,lH⟩:=pC hd' hk hkv (jj.tJ hF) hr
  unfold dr at ht;split at ht
  ·rename_i kk ee gL
   injection ht with ht;subst ht
   have iI:(Instr.findKey kk (a.eval k) xs.toList).run P w=.ok e' w:=iY
   obtain⟨⟨j',y⟩,rfl⟩:∃p,e'=some p:=by cases e' with|none=>grind|some p=>simp
   simp only[Yo,Y2]at iJ;subst iJ
   obtain⟨x0,hx0,oK⟩:=lH j' y rfl
   obtain⟨ι',hle,hrep,hinv⟩:=h.EX (iy hid) ho he hl hheap (x:=x0) (by simp_all)
   have hrun:(execOp a.eval o).run P w=.ok (.value (if ok then .tuple #[y,.bool true]else y)) w:=by
    unfold execOp;rw[cu];simp only[iv,Instr.lookup,Y7,Y6 gL,Result.andThen_ok,lL hheap,Sem.run_pure,iK,iI]
   unfold Oper.wp;rw[hrun,Oper.upon_value];rw[oK]at hrep
   refine Inv.goes hn hinv yU ?_ hd
   cases ok
   ·exact hrep
   ·exact az.jQ (az.cons hrep (az.cons (.bI _ _ (.bool _)) .nil))
  grind
 |se t kt m k ob z fs hh r hm ho ht hk hr hz=>
  have gM:=h.ev m;have hkv:=h.ev k
  rw[hm]at gM
  obtain⟨l,hl,iv⟩:=gM.cK
  obtain⟨l',xs,clock,hl',hheap,iu,hF⟩:=h.ob ob _ ho
  rw[hl]at hl';injection hl' with hl';injection hl' with hl';subst hl'
  obtain⟨ji,iK,⟨d,hd'⟩,hsb⟩:=pb hk hkv
  obtain⟨e',iY,iJ,lH⟩:=pC hd' hk hkv (jj.tJ hF) hr
  unfold dr at ht;split at ht
  ·rename_i kk ee gL
   injection ht with ht;subst ht
   have iI:(Instr.findKey kk (a.eval k) xs.toList).run P w=.ok e' w:=iY
   have fin:∀v':Value,(execOp a.eval o).run P w=.ok (.value (.tuple #[v',.bool r.isSome])) w→o.wp P a w next Q:=fun v' hrun=>
    gJ hn h hd hrun (az.jQ (az.cons (.bI _ _ (.undef _)) (az.cons (.bI _ _ (.bool _)) .nil)))
   cases e' with
   |some p=>
    obtain⟨j,y⟩:=p
    simp only[Yo]at iJ;subst iJ
    refine fin y ?_
    unfold execOp;rw[cu];simp only[iv,Instr.lookup,Y7,Y6 gL,Result.andThen_ok,lL hheap,Sem.run_pure,iK,iI];rfl
   |none=>
    simp only[Option.map_none]at iJ;subst iJ
    obtain⟨vt,zv,jt,hz⟩:=hz
    have lD:ee=vt:=by unfold fX at jt;rw[gL]at jt;simpa using jt
    subst lD;unfold zeroV at hz;split at hz
    ·cases hz
    ·rename_i i hi
     split at hz
     ·rename_i pj kS
      refine fin pj ?_
      have ku:(zeroValue ee).run P w=.ok pj w:=by simp[zeroValue,typeInfo,hi,kS]
      unfold execOp;rw[cu];simp only[iv,Instr.lookup,Y7,Y6 gL,Result.andThen_ok,lL hheap,Sem.run_pure,iK,iI,ku];rfl
     grind
  grind
 |gB t kt m k ok ob z fs hh v hm ho ht hk hr hv=>
  have gM:=h.ev m;have hkv:=h.ev k
  rw[hm]at gM
  obtain⟨l,hl,iv⟩:=gM.cK
  obtain⟨l',xs,clock,hl',hheap,iu,hF⟩:=h.ob ob _ ho
  rw[hl]at hl';injection hl' with hl';injection hl' with hl';subst hl'
  obtain⟨ji,iK,⟨d,hd'⟩,hsb⟩:=pb hk hkv
  obtain⟨e',iY,iJ,lH⟩:=pC hd' hk hkv (jj.tJ hF) hr
  unfold dr at ht;split at ht
  ·rename_i kk ee gL
   injection ht with ht;subst ht
   have iI:(Instr.findKey kk (a.eval k) xs.toList).run P w=.ok e' w:=iY
   cases e' with
   |some p=>grind
   |none=>
    obtain⟨vt,zv,jt,hz,jg⟩:=hv
    have lD:ee=vt:=by unfold fX at jt;rw[gL]at jt;simpa using jt
    subst lD;unfold zeroV at hz;split at hz
    ·cases hz
    ·rename_i i hi
     split at hz
     ·rename_i pj kS
      injection hz with hz;subst hz
      have ku:(zeroValue ee).run P w=.ok pj w:=by simp[zeroValue,typeInfo,hi,kS]
      have hrun:(execOp a.eval o).run P w=.ok (.value (if ok then .tuple #[pj,.bool false]else pj)) w:=by
       unfold execOp;rw[cu];simp only[iv,Instr.lookup,Y7,Y6 gL,Result.andThen_ok,lL hheap,Sem.run_pure,iK,iI,ku]
      refine gJ hn h hd hrun ?_
      have:=jg.rep _ (bP.bI (S:=S) (w:=w) (ι:=ι) _ _ (s7 pj))
      cases ok
      ·exact this
      ·exact az.jQ (az.cons this (az.cons (.bI _ _ (.bool _)) .nil))
     grind
  grind
 |len x ts args t ob z fs hh ha mI ht hx ho=>
  have oM:=h.ev x
  rw[hx]at oM
  obtain⟨l,hl,iv⟩:=oM.cK
  obtain⟨l',xs,clock,hl',hheap,iu,hF⟩:=h.ob ob _ ho
  rw[hl]at hl';injection hl' with hl';injection hl' with hl';subst hl'
  obtain⟨kt,fF⟩:=YW.1 ht
  unfold dr at fF;split at fF
  ·rename_i kk ee gL
   have hrun:(execOp a.eval o).run P w=.ok (.value (.int .i64 fs.length)) w:=by
    unfold execOp;rw[cu]
    have lS:(args.map a.eval)[0]? =some (.map (some l.bd)):=by simp[ha,iv]
    simp[resolve,invoke,builtin,Builtin.len_,mI,lS,Y6 gL,goInt,lL hheap,hF.1]
   exact gJ hn h hd hrun (.bI _ _ (.int _ _))
  grind
 |mk t z hk=>
  have hrun:(execOp a.eval o).run P w=.ok (.value (.map (some w.heap.size))) (w.alloc (.map #[] 0)):=by
   unfold execOp;rw[cu];simp only[Instr.makeMap,Option.map_none,Y7,Sem.run_pure,run_newObj,Result.andThen_ok];rfl
  unfold Oper.wp;rw[hrun,Oper.upon_value]
  have hh:(w.alloc (.map #[] 0)).heap[w.heap.size]? =some (.map #[] 0):=by show(w.heap.push _)[w.heap.size]? =_;simp
  obtain⟨ι',hle,hι',hinv⟩:=h.alloc (iy hid) (.map #[] 0) ⟨w.heap.size,0,0,0,0⟩ rfl (.bL z [] none) rfl (fun b hb=>by
   rcases hb with hb|⟨xs,c,i,e,h1,h2,_⟩
   all_goals simp_all) (fun ι' hle hι'=>
   ⟨_,#[],0,hι',hh,⟨by simp,Mp⟩,rfl,fun i e x h=>by simp at h,fun i j x y b h=>by simp at h⟩)
  exact Inv.goes hn hinv yU (.aw id _ hι') hd
 |eO _ t kt m k x pY ob z q fs hh r rs hm ho ht hk hr zS hlim hx hq Ot hz0 hne=>
  have gM:=h.ev m;have hkv:=h.ev k;have oM:=h.ev x
  rw[hm]at gM;rw[hx]at oM
  obtain⟨l,hl,iv⟩:=gM.cK
  obtain⟨l',xs,clock,hl',hheap,iu,hF⟩:=h.ob ob _ ho
  rw[hl]at hl';injection hl' with hl';injection hl' with hl';subst hl'
  obtain⟨ji,iK,⟨d,hd'⟩,hsb⟩:=pb hk hkv
  obtain⟨e',iY,iJ,lH⟩:=pC hd' hk hkv (jj.tJ hF) hr
  obtain⟨hV,hVb⟩:=ir.of hz0 Ot oM (h.ob q _ hq)
  unfold dr at ht;split at ht
  ·rename_i kk ee gL
   injection ht with ht;subst ht
   have iI:(Instr.findKey kk (a.eval k) xs.toList).run P w=.ok e' w:=iY
   have hex:(execOp a.eval o)=(do Instr.mapUpdate t (a.eval m) (a.eval k) (a.eval x);pure .skip:Sem Next):=by
    unfold execOp;rw[cu];rcases pY with rfl|rfl<;>rfl
   cases r with
   |none=>
    have he:e'=none:=by cases e' with|none=>rfl|some p=>grind
    subst he
    have hrun:(execOp a.eval o).run P w=.ok .skip {w with heap:=w.heap.setIfInBounds l.bd (.map (xs.push {key:=a.eval k,val:=a.eval x,born:=clock}) (clock+1))}:=by
     rw[hex,iv];simp only[Instr.mapUpdate,Y7,Y6 gL,Result.andThen_ok,lL hheap,iK,iI,ta _ hheap,Sem.run_pure]
    unfold Oper.wp;rw[hrun,Oper.upon_skip]
    have FH:hh=none:=by
     rcases zS with h|⟨i,q,_,h⟩
     ·exact h
     ·cases h
    subst FH
    have hinv:=h.Ap ho hl hheap hq hne hV hVb fs.length (gD C.G f.g k) {key:=a.eval k,val:=a.eval x,born:=clock} (iS fs none (gD C.G f.g k) rs)
     (fa:=xs.push {key:=a.eval k,val:=a.eval x,born:=clock}) (clock':=clock+1) (by simp[iS,hF.1]) ⟨by simp only[Array.size_push];have:=hF.1;omega,Mq iu.2 (L9 hr (jj.tJ hF) hkv)⟩
     (by simp[iS]) (by rw[hF.1];simp) rfl ji (fun i hi=>⟨by
      simp only[iS]
      grind,by
      rw[V6]
      split
      ·rename_i e;exact absurd (e.trans hF.1.symm) hi
      ·rfl,by simp⟩)
    exact Inv.goes hn hinv (fun x hx=>hx.1) (.bI _ _ (.undef _)) hd
   |some j=>
    obtain⟨⟨j',y⟩,rfl⟩:∃p,e'=some p:=by cases e' with|none=>grind|some p=>simp
    simp only[Yo,Y2]at iJ;subst iJ
    obtain⟨x0,hx0,oK⟩:=lH j' y rfl
    obtain⟨_,e0,he0,CA⟩:=LJ _ 0 _ hr j' rfl
    rw[Nat.sub_zero]at he0
    have vi:=Me CA hkv ((jj.tJ hF).2 j' e0 x0 he0 hx0).1
    have rn:xs[j']? =some x0:=by rw[←Wh];exact hx0
    have hrun:(execOp a.eval o).run P w=.ok .skip {w with heap:=w.heap.setIfInBounds l.bd (.map (xs.modify j' fun e=>{e with key:=a.eval k,val:=a.eval x}) clock)}:=by
     rw[hex,iv];simp only[Instr.mapUpdate,Y7,Y6 gL,Result.andThen_ok,lL hheap,iK,iI,rn,Yo,Yv,Instr.keyThatStays,vi,Yi,ta _ hheap,Sem.run_pure]
    unfold Oper.wp;rw[hrun,Oper.upon_skip]
    have kx:j'<fs.length:=by rw[hF.1];exact(Wn.1 rn).1
    have hinv:=h.Ap ho hl hheap hq hne hV hVb j' (gD C.G f.g k) {x0 with key:=a.eval k,val:=a.eval x} (iS fs (some j') (gD C.G f.g k) rs)
     (fa:=xs.modify j' fun e=>{e with key:=a.eval k,val:=a.eval x}) (clock':=clock) (by simp[iS,hF.1]) ⟨by simpa using iu.1,U4 iu.2 rn (SI CA hkv ((jj.tJ hF).2 j' e0 x0 he0 hx0).1)⟩
     (by simp[iS,kx]) (by grind) rfl ji (fun i hi=>⟨by
      simp only[iS]
      grind,by
      grind,by
      rcases zS with h|⟨i0,q0,h1,h2⟩
      all_goals grind⟩)
    exact Inv.goes hn hinv (fun x hx=>hx.1) (.bI _ _ (.undef _)) hd
  grind
 |del t tk kt m k ob z fs hh r hm ho ht hk hr zS=>
  have gM:=h.ev m;have hkv:=h.ev k
  rw[hm]at gM
  obtain⟨l,hl,iv⟩:=gM.cK
  obtain⟨l',xs,clock,hl',hheap,iu,hF⟩:=h.ob ob _ ho
  rw[hl]at hl';injection hl' with hl';injection hl' with hl';subst hl'
  obtain⟨ji,iK,⟨d,hd'⟩,hsb⟩:=pb hk hkv
  obtain⟨e',iY,iJ,lH⟩:=pC hd' hk hkv (jj.tJ hF) hr
  unfold dr at ht;split at ht
  ·rename_i kk ee gL
   injection ht with ht;subst ht
   have iI:(Instr.findKey kk (a.eval k) xs.toList).run P w=.ok e' w:=iY
   cases r with
   |none=>
    have he:e'=none:=by cases e' with|none=>rfl|some p=>grind
    subst he
    have hrun:(execOp a.eval o).run P w=.ok (.value (.tuple #[])) {w with heap:=w.heap.setIfInBounds l.bd (.map xs clock)}:=by
     unfold execOp;rw[cu];simp[resolve,invoke,builtin,Builtin.delete_,Y6 gL,iv,lL hheap,iK,iI,ta _ hheap]
    unfold Oper.wp;rw[hrun,Oper.upon_value]
    have FH:hh=none:=by
     rcases zS with h|⟨i,q,_,h⟩
     ·exact h
     ·cases h
    subst FH
    have hinv:=h.An ho hl hheap (kE fs none) (fun i=>i) (fun _ _ e=>e) (fa:=xs) (clock':=clock) hF.1 iu (fun i=>⟨rfl,rfl,by simp⟩)
    exact Inv.goes hn hinv (fun x hx=>hx.1) (.bN [] #[] rfl (fun j x v h=>by simp at h)) hd
   |some j=>
    obtain⟨⟨j',y⟩,rfl⟩:∃p,e'=some p:=by cases e' with|none=>grind|some p=>simp
    simp only[Yo,Y2]at iJ;subst iJ
    obtain⟨x0,hx0,oK⟩:=lH j' y rfl
    have kx:j'<xs.size:=by have:=eZ hx0;simpa using this
    have hrun:(execOp a.eval o).run P w=.ok (.value (.tuple #[])) {w with heap:=w.heap.setIfInBounds l.bd (.map (xs.eraseIdxIfInBounds j') clock)}:=by
     unfold execOp;rw[cu];simp[resolve,invoke,builtin,Builtin.delete_,Y6 gL,iv,lL hheap,iK,iI,ta _ hheap]
    unfold Oper.wp;rw[hrun,Oper.upon_value]
    have pw:xs.eraseIdxIfInBounds j'=xs.eraseIdx j' kx:=by simp[Array.eraseIdxIfInBounds,kx]
    have hinv:=h.An ho hl hheap (kE fs (some j')) (fun i=>if i<j' then i else i+1) (fun i j e=>by
     grind) (fa:=xs.eraseIdxIfInBounds j') (clock':=clock)
     (by rw[pw];simp[kE,List.length_eraseIdx,hF.1,kx]) (by rw[pw];exact⟨by have:=iu.1;grind,UM iu.2 kx⟩) (fun i=>⟨by
      simp only[kE]
      grind,by
      grind,by
      rcases zS with h|⟨i0,q0,h1,h2⟩
      all_goals grind⟩)
    exact Inv.goes hn hinv (fun x hx=>hx.1) (.bN [] #[] rfl (fun j x v h=>by simp at h)) hd
  grind
 |copy t ts d s ob off len p rs q sz ho hdst hs ht hr lT=>
  have CE:=h.ev d;have sx:=h.ev s
  obtain⟨e,i,zv,ht',hi,_,_,hsz,_⟩:=rI ht
  obtain⟨k,hk⟩:∃k,k=min len q.2.1.length:=⟨_,rfl⟩
  obtain⟨us,hF,Fe⟩:=AI (P:=P) (p:=q.1) (rs:=q.2.1) (ro:=q.2.2) h.ob sx hs lT k (by omega)
  obtain⟨dv,cap,qe,eK⟩:∃dv cap,a.eval d=.slice dv len cap∧off+len≤rs.length∧((∃l,ι ob=some (some l)∧len≤cap∧l.dO=rs.length∧(cap≠0→dv=some ⟨l.bd,l.base+off*l.bo,none⟩))∨len=0):=by
   have hcnt:∀l,ι ob=some (some l)→l.dO=rs.length:=fun l hl=>by
    rcases h.ob ob _ ho with ⟨g,_⟩|⟨l',vals,g,hc,_⟩
    all_goals simp_all
   rcases hdst with ⟨z,hd',rfl,rfl⟩|⟨room,hd',nT⟩
   ·rw[hd']at CE
    rcases kp CE with ⟨l,ad,cap,hlo,hv,h2,h3,h4,hz,ha⟩|⟨hlo,ad,hv⟩
    ·grind
    ·have:rs=[]:=by
      rcases h.ob ob _ ho with ⟨_,h⟩|⟨l',vals,g,_⟩
      ·exact h
      ·simp_all
     simp_all
   ·rw[hd']at CE
    rcases vY CE with ⟨l,ad,cap,hlo,hv,h1,h2,h3,h4,h5,ha⟩|⟨hlo,rfl,rfl,rfl,ad,hv⟩
    all_goals grind
  obtain⟨qa,eK⟩:=eK
  have hlen:=Fe.len w
  have hcl:=Fe.cells w rfl
  have sA:Nat.min q.2.1.length len=k:=by rw[hk];exact Nat.min_comm _ _
  rw[←hk]at hn
  have same:∀{p':Bool},k=0→ca S w ι ob (.rows p' rs)→Inv C S ι un {f with os:=ay f.os [(ob,some (.rows p' (rs.take off++(q.2.1.take k++rs.drop (off+k)))))]} a w:=by
   intro p' mV hob
   have e1:rs.take off++(q.2.1.take k++rs.drop (off+k))=rs:=by rw[mV];simp
   rw[e1]
   refine h.hP (fun _ x=>x) (fun _ _=>rfl) (ax.le_refl _) (fun k2 y hy=>?_) (fun k2 y hy hly l2 dJ b hb=>?_) (fun k1 k2 y1 y2 hy1 hy2 hv1 hv2 l1 l2 e1 e2 b hb1 hb2=>?_) h.sb h.sn h.un h.fr
   ·simp only[ay]at hy
    by_cases e:k2=ob
    ·simp_all
    ·rw[if_neg e]at hy;exact h.ob k2 y hy
   ·simp only[ay]at hy
    by_cases e:k2=ob
    ·rw[if_pos e]at hy;injection hy with hy;subst hy;subst e
     have mJ:=iw rfl hb
     exact h.own k2 _ ho rfl l2 dJ b (.inl mJ)
    ·rw[if_neg e]at hy;exact h.own k2 y hy hly l2 dJ b hb
   ·have tr:∀k2 y,ay f.os [(ob,some (.rows p' rs))] k2=some y→y.live=true→∀l2 b,cj w y l2 b→∃y',f.os k2=some y'∧y'.live=true∧cj w y' l2 b:=by
     intro k2 y hy hv l2 b hb;simp only[ay]at hy
     by_cases e:k2=ob
     ·rw[if_pos e]at hy;injection hy with hy;subst hy;subst e
      exact⟨_,ho,rfl,.inl (iw rfl hb)⟩
     ·simp_all
    obtain⟨z1,g1,g2,g3⟩:=tr k1 y1 hy1 hv1 l1 b hb1
    obtain⟨z2,j1,j2,j3⟩:=tr k2 y2 hy2 hv2 l2 b hb2
    exact h.inj k1 k2 z1 z2 g1 j1 g2 j2 l1 l2 e1 e2 b g3 j3
  have pL:ca S w ι ob (.rows (p&&q.1) rs):=by
   rcases h.ob ob _ ho with ⟨g,g2⟩|⟨l,vals,g,g2,g3,g4,g5⟩
   ·exact .inl ⟨g,g2⟩
   ·refine .inr ⟨l,vals,g,g2,g3,g4,fun j r hr=>?_⟩
    have:=g5 j r hr
    cases p
    ·simp_all
    ·simp only[Yi]at this
     cases q.1
     ·simp only[Bool.and_false,Yu,Yc];exact this.rep
     simp_all
  by_cases mV:k=0
  ·have hus:us=[]:=by
    have:=hF.len
    rw[mV]at this
    exact Yy.1 (by grind)
   have hrun:(execOp a.eval o).run P w=.ok (.value (.int .i64 (k:Nat))) w:=by
    unfold execOp;rw[cu];subst hus
    cases dv with
    |none=>simp[resolve,invoke,builtin,Builtin.copy_,Y6 ht',qe,hlen,sizeOf,typeInfo,hi,sA,hsz,hcl,goInt]
    |some ad=>simp[storeCells,resolve,invoke,builtin,Builtin.copy_,Y6 ht',qe,hlen,sizeOf,typeInfo,hi,sA,hsz,hcl,goInt]
   unfold Oper.wp;rw[hrun,Oper.upon_value]
   exact Inv.goes hn (same mV pL) (fun x hx=>hx.1) (.bI _ _ (.int _ _)) hd
  ·rcases eK with ⟨l,hlo,Ze,hcnt,FY⟩|h0
   ·obtain rfl:=FY (by omega)
    rcases h.ob ob _ ho with ⟨g,_⟩|⟨l',vals,g,hc,hm,hat,hrep⟩
    ·simp_all
    ·rw[g]at hlo;injection hlo with hlo;injection hlo with hlo;subst hlo
     have sE:l'.bo=sz:=by
      obtain⟨r,pW⟩:∃r,rs[0]? =some r:=⟨_,Y3 (by omega)⟩
      have g1:=hat.2.1 0 (by omega)
      have g2:=(hrep.get pW).1
      have g3:=hr r (YA pW)
      omega
     have px:(q.2.1.take k).length=k:=by simp;omega
     have N4:us.length=k*l'.bo:=by rw[hF.len,px,sE]
     have j5:(off+k)*l'.bo≤rs.length*l'.bo:=Yr _ (by omega)
     rw[YT]at j5
     have Aa:=hat.1
     have hst:=V0 (P:=P) l'.bd (l'.base+off*l'.bo) us 0 w (fun j hj=>by
      obtain⟨u,hu⟩:=(hm (l'.base+off*l'.bo+j)).1 (by omega)
      grind) (fun j hj=>by
      simp only[Nat.add_zero]
      exact(hm (l'.base+off*l'.bo+j)).2 (.inl (by omega))) hF.one
     simp only[Nat.add_zero]at hst
     have hrun:(execOp a.eval o).run P w=.ok (.value (.int .i64 (k:Nat))) (w.setCells l'.bd (l'.base+off*l'.bo) us):=by
      unfold execOp;rw[cu];simp[resolve,invoke,builtin,Builtin.copy_,Y6 ht',qe,hlen,sizeOf,typeInfo,hi,sA,hsz,hcl,hst,goInt]
     unfold Oper.wp;rw[hrun,Oper.upon_value]
     have hinv:=h.writes ho rfl g (x':=.rows (p&&q.1) (rs.take off++(q.2.1.take k++rs.drop (off+k)))) rfl (l'.base+off*l'.bo) us (fun hw=>by
      obtain⟨A,hA,O'⟩:=Dz hat hrep 0 off (by omega)
      obtain⟨B,hB,O8⟩:=Dz hat hrep (off+k) (rs.length-(off+k)) (by omega)
      rw[Vf]at hA
      have O9:(rs.drop (off+k)).take (rs.length-(off+k))=rs.drop (off+k):=YV (by simp)
      rw[O9]at hB
      have Zq:A.length=off*l'.bo:=by rw[hA.len,YD,W0 (by omega)]
      have rz:Flat q.1 S w ι l'.bo (q.2.1.take k) us:=by rw[sE];exact hF
      have eg:=(hA.append (rz.append hB)).mono (fun _ x=>x) hw (ax.le_refl _)
      have p5:(rs.take off++(q.2.1.take k++rs.drop (off+k))).length=rs.length:=by simp;omega
      have hcell:∀(j:Nat) v,(A++(us++B))[j]? =some v→eY (w.setCells l'.bd (l'.base+off*l'.bo) us) l'.bd (l'.base+j)=some v:=by
       intro j v hv
       rcases YY j A.length with hj|hj
       ·rw[Yt hj]at hv
        have:=O' j v hv
        simp only[Vb,Nat.add_zero]at this
        show(w.setCells l'.bd (l'.base+off*l'.bo) us).cell? _=some v
        rw[Wa l'.bd us _ w _ (fun _ _=>by grind)]
        exact this
       ·rw[Yf hj]at hv
        rcases YY (j-A.length) us.length with vA|vA
        ·rw[Yt vA]at hv
         have:=WE l'.bd us (l'.base+off*l'.bo) w (fun q hq=>by
          obtain⟨u,hu⟩:=(hm (l'.base+off*l'.bo+q)).1 (by omega)
          grind) (j-A.length) vA
         grind
        ·rw[Yf vA]at hv
         have:=O8 (j-A.length-us.length) v hv
         rw[show l'.base+(off+k)*l'.bo+(j-A.length-us.length)=l'.base+j by grind]at this
         show(w.setCells l'.bd (l'.base+off*l'.bo) us).cell? _=some v
         rw[Wa l'.bd us _ w _ (fun _ _=>by grind)]
         exact this
      have e1:(p&&(q.1&&p))=(p&&q.1):=by cases p<;>cases q.1<;>rfl
      rw[e1]at eg
      exact .inr ⟨l',_,g,by omega,hm.setCells _ _,eg.at hcell (by grind),eg.rows⟩)
     exact Inv.goes hn hinv (fun x hx=>hx.1) (.bI _ _ (.int _ _)) hd
   omega
 |qv t tk kt m k ob p es r hm ho ht hk hr=>
  have gM:=h.ev m;have hkv:=h.ev k
  rw[hm]at gM
  obtain⟨l,hl,iv⟩:=gM.cK
  obtain⟨l',xs,clock,hl',hheap,lU,iu⟩:=h.ob ob _ ho
  rw[hl]at hl';injection hl' with hl';injection hl' with hl';subst hl'
  obtain⟨ji,iK,⟨d,hd'⟩,hsb⟩:=pb hk hkv
  obtain⟨e',iY,iJ,lH⟩:=pC hd' hk hkv lU hr
  unfold dr at ht;split at ht
  ·rename_i kk ee gL
   injection ht with ht;subst ht
   have iI:(Instr.findKey kk (a.eval k) xs.toList).run P w=.ok e' w:=iY
   cases r with
   |none=>
    have he:e'=none:=by cases e' with|none=>rfl|some p=>grind
    subst he
    have hrun:(execOp a.eval o).run P w=.ok (.value (.tuple #[])) {w with heap:=w.heap.setIfInBounds l.bd (.map xs clock)}:=by
     unfold execOp;rw[cu];simp[resolve,invoke,builtin,Builtin.delete_,Y6 gL,iv,lL hheap,iK,iI,ta _ hheap]
    unfold Oper.wp;rw[hrun,Oper.upon_value]
    have hinv:=h.sc ho hl (p':=p) (xy:=kF es none) (fa:=xs) (clock':=clock) iu (fun hw=>lU.mono (fun _ x=>x) hw (ax.le_refl _))
    exact Inv.goes hn hinv (fun x hx=>hx.1) (.bN [] #[] rfl (fun j x v h=>by simp at h)) hd
   |some j=>
    obtain⟨⟨j',y⟩,rfl⟩:∃p,e'=some p:=by cases e' with|none=>grind|some p=>simp
    simp only[Yo,Y2]at iJ;subst iJ
    obtain⟨x0,hx0,oK⟩:=lH j' y rfl
    have kx:j'<xs.size:=by have:=eZ hx0;simpa using this
    have hrun:(execOp a.eval o).run P w=.ok (.value (.tuple #[])) {w with heap:=w.heap.setIfInBounds l.bd (.map (xs.eraseIdxIfInBounds j') clock)}:=by
     unfold execOp;rw[cu];simp[resolve,invoke,builtin,Builtin.delete_,Y6 gL,iv,lL hheap,iK,iI,ta _ hheap]
    unfold Oper.wp;rw[hrun,Oper.upon_value]
    have pw:xs.eraseIdxIfInBounds j'=xs.eraseIdx j' kx:=by simp[Array.eraseIdxIfInBounds,kx]
    have hinv:=h.sc ho hl (p':=p) (xy:=kF es (some j')) (fa:=xs.eraseIdxIfInBounds j') (clock':=clock) (by grind) (fun hw=>by
     have kD:=lU.mono (fun _ x=>x) hw (ax.le_refl _)
     have E6:(xs.eraseIdxIfInBounds j').toList=xs.toList.eraseIdx j':=by rw[pw,Array.toList_eraseIdx]
     rw[E6]
     have hl0:=lU.1
     have OC:j'<xs.toList.length:=by simpa using kx
     refine⟨by simp only[kF];grind,fun i e x h1 h2=>?_⟩
     simp only[kF]at h1
     rw[List.getElem?_eraseIdx]at h1 h2
     by_cases hi:i<j'
     ·rw[if_pos hi]at h1 h2;exact kD.2 i e x h1 h2
     ·rw[if_neg hi]at h1 h2;exact kD.2 (i+1) e x h1 h2)
    exact Inv.goes hn hinv (fun x hx=>hx.1) (.bN [] #[] rfl (fun j x v h=>by simp at h)) hd
  grind
 |nG t t' e x ob z p rs hx ho ht=>
  have hv:=h.ev x
  rw[hx]at hv
  obtain⟨ad,len,cap,gp,hp⟩:∃ad len cap,a.eval x=.slice ad len cap∧(ad.isNone=true→rs=[]):=by
   rcases kp hv with ⟨l,ab,cap,q,gp,_⟩|⟨q,ab,gp⟩
   ·simp_all
   ·refine⟨_,_,_,gp,fun _=>?_⟩
    rcases h.ob ob _ ho with ⟨_,h⟩|⟨l,vals,q',_⟩
    all_goals simp_all
  refine gJ hn h hd (v':=.bool ad.isNone) (lift (by unfold execOp;rw[cu]) ?_) (.bI _ _ (.eh _ _ hp))
  rw[gp]
  simp only[show a.eval (.const (.slice none 0 0))=.slice none 0 0 from rfl,eqGuard_at_slice,Y7,Sem.run_pure,Result.andThen_ok]
  exact run_eql_slice_nil w t e ad len cap ht
 |Av t x ob off len room p rs z sz hx ho ht hz hr kX=>
  have hv:=h.ev x
  rw[hx]at hv
  have same:∀{eA},eA=rs→({f with os:=ay f.os [(ob,some (.rows p eA))]}:FS)=f:=fun e=>by
   rw[e]
   have:ay f.os [(ob,some (AO.rows p rs))]=f.os:=by
    funext k
    simp only[ay]
    by_cases e:k=ob
    ·simp_all
    ·grind
   rw[this]
  obtain⟨e,i,zv,ht',hi,kS,hb,hsz,hzs,hzl,ku,vd⟩:=A9 (S:=S) (w:=w) hz ht
  by_cases hl0:len=0
  ·subst hl0
   have hrun:(execOp a.eval o).run P w=.ok (.value (.tuple #[])) w:=by
    obtain⟨ad,cap,gp⟩:∃ad cap,a.eval x=.slice ad 0 cap:=by
     generalize a.eval x=v' at hv
     cases hv with
     |bI _ _ hh=>cases hh
     |eN=>simp
     |iG=>simp
    unfold execOp;rw[cu]
    cases ad with
    |none=>simp[resolve,invoke,builtin,Builtin.clear_,Y6 ht',gp]
    |some ad=>simp[resolve,invoke,builtin,Builtin.clear_,Y6 ht',gp]
   unfold Oper.wp;rw[hrun,Oper.upon_value]
   refine Inv.goes hn (S':=S) (ι':=ι) (ri:=un) ?_ (fun x hx=>hx.1) (.bN [] #[] rfl (fun j x v h=>by simp at h)) hd
   simp_all
  ·obtain⟨ad,cap,l,gp,hlo,h1,h2,h3,h4,h5,ha⟩:∃ad cap l,a.eval x=.slice (some ad) len cap∧ι ob=some (some l)∧len≤room∧room≤cap∧l.base+(off+cap)*l.bo≤l.size∧len≤bm∧off+room≤l.dO∧
    (cap≠0→ad=⟨l.bd,l.base+off*l.bo,none⟩):=by
    generalize a.eval x=v' at hv
    cases hv with
    |bI _ _ hh=>cases hh
    |eN _ _ _ _ cap a l g g1 g2 g3 g4 g5 ga=>grind
    |iG=>omega
   have hadd:=ha (by omega)
   subst hadd
   rcases h.ob ob _ ho with ⟨q,_⟩|⟨l',vals,q,hcnt,hm,hat,hrep⟩
   ·simp_all
   ·rw[q]at hlo;injection hlo with hlo;injection hlo with hlo;subst hlo
    have sE:l'.bo=sz:=by
     obtain⟨r,pW⟩:∃r,rs[0]? =some r:=⟨_,Y3 (by omega)⟩
     have g1:=hat.2.1 0 (by omega)
     have g2:=(hrep.get pW).1
     have g3:=hr r (YA pW)
     omega
    have hzc:(Builtin.zeroCells zv.cells len).toList=(List.replicate len zv.cells.toList).flatten:=by
     have:=DB zv.cells len
     exact this
    have hone:∀v,v∈(List.replicate len zv.cells.toList).flatten→v.oneCell'=true:=by
     intro v hv;simp only[List.mem_flatten,List.mem_replicate]at hv
     obtain⟨l,⟨_,rfl⟩,hv⟩:=hv
     exact He ku vd v hv
    have hfl:(List.replicate len zv.cells.toList).flatten.length=len*sz:=by simp[hzs]
    have j5:(off+len)*l'.bo≤rs.length*l'.bo:=Yr _ (by omega)
    rw[YT,sE]at j5
    have Aa:=hat.1
    rw[sE]at Aa
    have hst:=V0 (P:=P) l'.bd (l'.base+off*l'.bo) (List.replicate len zv.cells.toList).flatten 0 w (fun j hj=>by
     obtain⟨u,hu⟩:=(hm (l'.base+off*l'.bo+j)).1 (by grind)
     simp_all) (fun j hj=>by
     simp only[Nat.add_zero]
     exact(hm (l'.base+off*l'.bo+j)).2 (.inl (by grind))) hone
    simp only[Nat.add_zero]at hst
    obtain⟨m,jh⟩:∃m,len=m+1:=⟨len-1,by omega⟩
    have hrun:(execOp a.eval o).run P w=.ok (.value (.tuple #[])) (w.setCells l'.bd (l'.base+off*l'.bo) (List.replicate len zv.cells.toList).flatten):=by
     unfold execOp;rw[cu];subst jh;simp[resolve,invoke,builtin,Builtin.clear_,Y6 ht',gp,zeroValue,typeInfo,hi,kS,hzc,hst]
    unfold Oper.wp;rw[hrun,Oper.upon_value]
    have hinv:=h.writes ho rfl q (x':=.rows p (rs.take off++(List.replicate len z++rs.drop (off+len)))) rfl (l'.base+off*l'.bo) (List.replicate len zv.cells.toList).flatten (fun hw=>
     SA q hcnt hm hat hrep ku (He ku vd) (by simp_all) (by omega) hw)
    exact Inv.goes hn hinv (fun x hx=>hx.1) (.bN [] #[] rfl (fun j x v h=>by simp at h)) hd
 |so t len parts z cs ht hz hlim il hpos hcl eg hfr hf=>
  obtain⟨e,i,zv,ht',hi,kS,hb,hsz,hzs,hzl,ku,vd⟩:=A9 (S:=S) (w:=w) hz ht
  obtain⟨cF,Cn,h1,_,hrun⟩:=Qu cu h ht hz hlim hcl eg hf
  obtain⟨c1,c2,c3⟩:=K4 1 len cs hcl
  have hF:Flat true S w ι 1 (chunk 1 len cs) cF.toList:=by
   refine⟨c2,by rw[←h1.1,hcl,c3],uA h1 eg,?_⟩
   rw[c1];simpa[dw]using h1.free hfr
  unfold Oper.wp;rw[hrun,Oper.upon_value]
  have hcell:∀(j:Nat) v,cF.toList[j]? =some v→eY (w.alloc (.cells cF Cn (0,0))) w.heap.size (0+j)=some v:=by
   intro j v hv;simp only[eY,YS]
   rw[G',←Wh]
   exact hv
  have hcs:cF.size=len:=by have:=h1.1;simp only[Array.length_toList]at this;omega
  obtain⟨ι',hle,hι',hinv⟩:=h.alloc (iy hid) (.cells cF Cn (0,0)) ⟨w.heap.size,0,1,cF.size,(chunk 1 len cs).length⟩ rfl (.lit (chunk 1 len cs)) rfl (fun _ h=>iw rfl h) (fun ι' hle hι'=>by
   have rz:Flat true S (w.alloc (.cells cF Cn (0,0))) ι' 1 (chunk 1 len cs) cF.toList:=hF.mono (fun _ x=>x) (fun b hb=>qJ w _ b (h.sb b hb)) hle
   have hA:=Flat.at (l:=⟨w.heap.size,0,1,cF.size,(chunk 1 len cs).length⟩) rz hcell (by simp_all)
   exact⟨_,_,hι',⟨cF,Cn,by show(w.heap.push _)[w.heap.size]? =_;simp,rfl⟩,rfl,by omega,rfl,hA,rz.rows⟩)
  refine Inv.goes hn hinv (fun x hx=>po hx) ?_ hd
  rw[←c3]
  exact bP.an id 1 (chunk 1 len cs).length _ _ hι' (Yg _) (by simp_all) (by simp_all) (fun h0 _=>rfl) (fun _=>rfl)
 |lK t cs k z hz hk=>
  obtain⟨zv,h1,h2,h3⟩:=LL (w:=w) (S:=S) (ι:=ι) hz
  refine JX hk hn h hd hid rfl h2 h3 (t:=t) ?_
  refine lift (by unfold execOp;rw[cu]) ?_
  simp only[Instr.alloc,Y7,h1,Result.andThen_ok,newVar,newRow,run_newObj,Sem.run_pure,World.alloc]
 |sT t x cs k z hc hk=>
  obtain⟨h2,h3⟩:=yf hc (h.ev x)
  refine JX hk hn h hd hid rfl h2 (uA h2 h3) (t:=t) ?_
  refine lift (by unfold execOp;rw[cu]) ?_
  rfl
 |lJ t parts cs k z hb hk=>
  obtain⟨v',h1,h2⟩:=K1 (P:=P) (w:=w) h.ev hb
  obtain⟨vs,rfl,N3,xj⟩:=h2.dG
  obtain⟨ι1,p6,hι1,hv1⟩:=h.void (id:=id) (hid id (Yg _) (by simp[W])) true
  have px:=eZ hk
  have hcl:(setAt cs k [AV.an id z]).length=cs.length:=tn _ _ _ (by grind)
  have sw:az S w ι1 (setAt cs k [.an id z]) vs.toList:=by
   refine⟨by omega,fun j x v hx hv=>?_⟩
   unfold setAt at hx
   rcases Nat.lt_trichotomy j k with q|q|q
   ·rw[Yt (by grind),W8,if_pos q]at hx
    exact(xj j x v hx hv).mono (fun _ x=>x) (fun _ _=>rfl) p6
   ·subst q
    rw[Yf (by grind)]at hx
    simp only[YD,W0 (WH px),WN,YJ,List.getElem?_cons_zero,Y2]at hx
    subst hx
    have:=xj j _ v hk hv
    cases this with
    |bI _ _ h=>cases h with|dq ad=>exact .fk id z ad hι1
   ·rw[Yf (by grind),YD,W0 (WH px),Yf (by grind),YR]at hx
    simp only[List.length_singleton]at hx
    rw[show k+1+(j-k-1)=j by omega]at hx
    exact(xj j x v hx hv).mono (fun _ x=>x) (fun _ _=>rfl) p6
  have hrun:(execOp a.eval o).run P w=.ok (.value (.agg vs)) w:=by
   refine lift (by unfold execOp;rw[cu]) ?_
   simpa using h1
  unfold Oper.wp;rw[hrun,Oper.upon_value]
  exact Inv.goes hn hv1 (fun x hx=>yU x hx) sw.agg hd
 |CT s d x ob rs hx ho ht=>
  obtain⟨rfl,e,hs,he⟩:=Rw ht
  have hv:=h.ev x
  rw[hx]at hv
  obtain⟨l,vals,hl,⟨c,ce,hheap,hsz⟩,mn,hpos,hcnt,hat,hrep⟩:=h.ob ob _ ho
  rcases kp hv with ⟨l',ad,cap,q,gp,g1,g2,g3,g4,ga⟩|⟨q,ab,gp⟩
  ·rw[hl]at q;injection q with q;injection q with q;subst q
   have CI:=ga (by omega)
   subst CI
   have hrun:(execOp a.eval o).run P w=.ok (.value (.slice (some ⟨l.bd,l.base,none⟩) l.dO cap)) (w.freeze ⟨l.bd,c.size,none⟩ 1):=by
    have tS:w.shape? l.bd=some (ce,c.size):=by unfold World.shape?;rw[hheap]
    unfold execOp;rw[cu];simp[gp,convert,Y6 hs,Y6 he,markStringish,tS]
   unfold Oper.wp;rw[hrun,Oper.upon_value]
   have jn:(w.freeze ⟨l.bd,c.size,none⟩ 1).heap[l.bd]? =some (.cells c ce (c.size,c.size+1)):=by
    unfold World.freeze
    rw[if_neg (by decide)]
    simp only[Vp,hheap]
    simp
   have hoth:∀b,b≠l.bd→(w.freeze ⟨l.bd,c.size,none⟩ 1).heap[b]? =w.heap[b]? :=by
    intro b hb;unfold World.freeze
    rw[if_neg (by decide)]
    simp only[Vp]
    rw[if_neg (fun e=>hb e.symm)]
   have E7:(w.freeze ⟨l.bd,c.size,none⟩ 1).heap.size=w.heap.size:=by
    unfold World.freeze
    rw[if_neg (by decide)]
    simp
   have hcell:∀j,eY (w.freeze ⟨l.bd,c.size,none⟩ 1) l.bd j=eY w l.bd j:=by
    intro j;simp only[eY,World.cell?,jn,hheap]
   have hinv:=h.changes (w':=w.freeze ⟨l.bd,c.size,none⟩ 1) ho rfl hl (x':=.rows true rs) rfl (by rfl) (by rfl) E7 hoth (fun hw=>by
    refine .inr ⟨l,vals,hl,hcnt,fun j=>⟨fun hj=>?_,fun hj=>?_⟩,⟨hat.1,hat.2.1,fun i j v hi hv=>by rw[hcell];exact hat.2.2 i j v hi hv⟩,hrep.mono (fun _ x=>x) hw (ax.le_refl _)⟩
    ·rw[hcell];exact(Di.EV ⟨c,ce,hheap,hsz⟩ j).1 hj
    ·rcases hj with hj|hj
     ·simp only[World.frozen?,jn]
      grind
     omega)
   refine Inv.goes hn hinv (fun x hx=>hx.1) ?_ hd
   exact .an ob 1 cap _ l hl g1 g2 g3 g4 ga
  simp_all
end
theorem Mt(base:Nat→Option AO):∀(U U':List (Nat×Option AO)),ay base (U++U')=ay (ay base U') U:=by
 intro U
 induction U with
 |nil=>intro U';rfl
 |cons e r ih=>intro U';funext o;simp only[YJ,ay,ih]
theorem Lp{id:Nat}:∀{os:List (Nat×AO)} (base:Nat→Option AO) (o:Nat),
 ay base (oW id os) o=if id≤o∧(lk os (o-id)).isSome then(lk os (o-id)).map (cC (id+ ·))else base o:=by
 intro os
 induction os with
 |nil=>intro base o;simp[oW,ay,lk]
 |cons e r ih=>
  intro base o
  have:=ih base o
  simp only[oW,Yp,ay]at this⊢
  by_cases h:o=id+e.1
  ·subst h
   rw[if_pos rfl];simp[lk]
  ·rw[if_neg h,this]
   by_cases h1:id≤o
   ·have:o-id≠e.1:=by omega
    simp[lk,this]
   grind
theorem wc(σ:Nat→Nat):∀l:List AV,fi σ l=l.map (cd σ):=by
 intro l
 induction l with
 |nil=>rfl
 |cons x r ih=>simp[fi,ih]
theorem bP.pr{S:Nat→Prop}{w:World}{ι ι':ax}{σ:Nat→Nat}(hσ:∀o y,ι o=some y→ι' (σ o)=some y){x:AV}{v:Value}(h:bP S w ι x v):
 bP S w ι' (cd σ x) v:=by
 induction h with
 |bI x v h=>
  induction h with
  |agg cs vs hl _ ih=>
   simp only[cd,wc]
   refine .agg _ vs (by simp_all) (fun j x v hx hv=>?_)
   grind
  |bN cs vs hl _ ih=>
   simp only[cd,wc]
   refine .bN _ vs (by simp_all) (fun j x v hx hv=>?_)
   grind
  |fn f cs vs hl _ ih=>
   simp only[cd,wc]
   refine .fn f _ vs (by simp_all) (fun j x v hx hv=>?_)
   grind
  |int k n=>exact .bI _ _ (.int k n)
  |bool b=>exact .bI _ _ (.bool b)
  |str s=>exact .bI _ _ (.str s)
  |dq a=>exact .bI _ _ (.dq a)
  |fI=>exact .bI _ _ .fI
  |sl xs a cap sz vals h1 h2 h3 h4 h5 h6=>exact .bI _ _ (.sl xs a cap sz vals h1 h2 h3 h4 h5 h6)
  |rp row off bd base vals h1 h2 h3 h4=>exact .bI _ _ (.rp row off bd base vals h1 h2 h3 h4)
  |ei v h=>exact .bI _ _ (.ei v h)
  |undef v=>exact .bI _ _ (.undef v)
  |eh p b h=>exact .bI _ _ (.eh p b h)
 |agg cs vs hl _ ih=>
  simp only[cd,wc]
  refine .agg _ vs (by simp_all) (fun j x v hx hv=>?_)
  grind
 |bN cs vs hl _ ih=>
  simp only[cd,wc]
  refine .bN _ vs (by simp_all) (fun j x v hx hv=>?_)
  grind
 |fn f cs vs hl _ ih=>
  simp only[cd,wc]
  refine .fn f _ vs (by simp_all) (fun j x v hx hv=>?_)
  grind
 |ptr o r c l h=>exact .ptr (σ o) r c l (hσ o _ h)
 |eN o off len room cap a l h h1 h2 h3 h4 h5 ha=>exact .eN (σ o) off len room cap a l (hσ o _ h) h1 h2 h3 h4 h5 ha
 |iG o a h=>exact .iG (σ o) a (hσ o _ h)
 |an o z cap a l h h2 h3 h4 hz ha=>exact .an (σ o) z cap a l (hσ o _ h) h2 h3 h4 hz ha
 |fk o z a h=>exact .fk (σ o) z a (hσ o _ h)
 |aw o l h=>exact .aw (σ o) l (hσ o _ h)
theorem az.pr{S:Nat→Prop}{w:World}{ι ι':ax}{σ:Nat→Nat}(hσ:∀o y,ι o=some y→ι' (σ o)=some y){cs:List AV}{vs:List Value}(h:az S w ι cs vs):
 az S w ι' (fi σ cs) vs:=by
 rw[wc]
 refine⟨by simpa using h.1,fun j x v hx hv=>?_⟩
 rw[Yn]at hx
 cases hj:cs[j]? with
 |none=>simp_all
 |some y=>rw[hj]at hx;simp only[Yo,Y2]at hx;subst hx;exact(h.2 j y v hj hv).pr hσ
theorem ca.pr{S:Nat→Prop}{w:World}{ι ι':ax}{σ:Nat→Nat}(hσ:∀o y,ι o=some y→ι' (σ o)=some y){o:Nat}{x:AO}(h:ca S w ι o x):
 ca S w ι' (σ o) (cC σ x):=by
 cases x with
 |rows p rs=>
  cases p with
  |true=>
   rcases h with ⟨h,rfl⟩|⟨l,vals,h1,h2,h3,h4,h5⟩
   ·exact .inl ⟨hσ _ _ h,rfl⟩
   ·refine .inr ⟨l,vals,hσ _ _ h1,h2,h3,h4,fun i r hr=>?_⟩
    have:=h5 i r hr
    simp_all
  |false=>
   rcases h with ⟨h,rfl⟩|⟨l,vals,h1,h2,h3,h4,h5⟩
   ·exact .inl ⟨hσ _ _ h,rfl⟩
   ·refine .inr ⟨l,vals,hσ _ _ h1,by simp_all,h3,by simp_all,fun i r hr=>?_⟩
    rw[Yn]at hr
    cases hj:rs[i]? with
    |none=>simp_all
    |some y=>
     rw[hj]at hr;simp only[Yo,Y2]at hr;subst hr
     have:=h5 i y hj
     simp only[Yu,Yc]at this⊢;exact this.pr hσ
 |cT rs=>
  rcases h with ⟨h,rfl⟩|⟨l,vals,h1,h2,h3,h4,h5⟩
  ·exact .inl ⟨hσ _ _ h,rfl⟩
  ·exact .inr ⟨l,vals,hσ _ _ h1,h2,h3,h4,fun i r hr=>by have:=h5 i r hr;simp_all⟩
 |aw p es=>
  obtain⟨l,xs,clock,h1,h2,h3,h4⟩:=h
  cases p with
  |true=>
   exact⟨l,xs,clock,hσ _ _ h1,h2,⟨h3.1,fun i e x he hx=>⟨(h3.2 i e x he hx).1,.bI _ _ ((h3.2 i e x he hx).2.2 rfl),(h3.2 i e x he hx).2.2⟩⟩,h4⟩
  |false=>
  refine⟨l,xs,clock,hσ _ _ h1,h2,⟨by simpa using h3.1,fun i e x he hx=>?_⟩,h4⟩
  rw[Yn]at he
  cases hj:es[i]? with
  |none=>simp_all
  |some y=>
   rw[hj]at he;simp only[Yo,Y2]at he;subst he
   exact⟨(h3.2 i y x hj hx).1,(h3.2 i y x hj hx).2.1.pr hσ,fun hp=>by cases hp⟩
 |lit rs=>
  obtain⟨l,vals,h1,h2,h4,h5,h6,h7,h8⟩:=h
  exact⟨l,vals,hσ _ _ h1,h2,h4,h5,h6,h7,fun i r hr=>by have:=h8 i r hr;simp_all⟩
 |bK es hh=>
  obtain⟨l,xs,clock,h1,h2,h3,h4⟩:=h
  refine⟨l,xs,clock,hσ _ _ h1,h2,h3,h4.len,fun i e x he hx=>?_,fun i j e e' x x' b he mq hx hx' hn sy=>h4.inj i j e e' x x' b he mq hx hx' (by simp_all) (by simp_all)⟩
  obtain⟨g1,g2,g3⟩:=h4.at_ i e x he hx
  refine⟨g1,fun hn=>g2 (by simp_all),fun q hq=>?_⟩
  simp only[Yj]at hq
  obtain⟨⟨i',q'⟩,hq1,hq2⟩:=hq
  injection hq2 with e1 e2
  simp only at e1 e2;subst e1;subst e2;exact(g3 q' hq1).pr hσ
 |bL z fs hh=>
  obtain⟨l,xs,clock,h1,h2,h3,h4⟩:=h
  refine⟨l,xs,clock,hσ _ _ h1,h2,h3,h4.1,fun i e x he hx=>?_,fun i j x y b h5 h6 h7 h8=>h4.2.2 i j x y b h5 h6 (by simp_all) (by simp_all)⟩
  obtain⟨g1,g2,g3⟩:=h4.2.1 i e x he hx
  refine⟨g1,fun hn=>g2 (by simp_all),fun q hq=>?_⟩
  simp only[Yj]at hq
  obtain⟨⟨i',q'⟩,hq1,hq2⟩:=hq
  injection hq2 with e1 e2
  simp only at e1 e2;subst e1;subst e2;exact(g3 q' hq1).pr hσ
theorem mE(σ:Nat→Nat)(x:AO):(cC σ x).live=x.live:=by
 cases x with
 |rows p rs=>cases p<;>rfl
 |cT rs=>rfl
 |aw p es=>cases p<;>rfl
 |lit rs=>rfl
 |bL z fs hh=>rfl
 |bK es hh=>rfl
theorem pz{w:World}{σ:Nat→Nat}{x:AO}{l:Loc}{b:Nat}(h:cj w (cC σ x) l b):cj w x l b:=by
 cases x with
 |rows p rs=>cases p<;>exact h
 |cT rs=>exact h
 |aw p es=>cases p<;>exact h
 |lit rs=>exact h
 |bK es hh=>
  rcases h with h|⟨xs,c,i,e,x,h1,h2,h3,h4,h5⟩
  ·exact .inl h
  ·exact .inr ⟨xs,c,i,e,x,h1,h2,h3,by simp_all,h5⟩
 |bL z fs hh=>
  rcases h with h|⟨xs,c,i,e,h1,h2,h3,h4⟩
  ·exact .inl h
  ·exact .inr ⟨xs,c,i,e,h1,h2,by simp_all,h4⟩
theorem HB{w:World}{σ:Nat→Nat}{x:AO}{l:Loc}{b:Nat}(h:cj w x l b):cj w (cC σ x) l b:=by
 cases x with
 |rows p rs=>cases p<;>exact h
 |cT rs=>exact h
 |aw p es=>cases p<;>exact h
 |lit rs=>exact h
 |bK es hh=>
  rcases h with h|⟨xs,c,i,e,x,h1,h2,h3,h4,h5⟩
  ·exact .inl h
  ·exact .inr ⟨xs,c,i,e,x,h1,h2,h3,by simp_all,h5⟩
 |bL z fs hh=>
  rcases h with h|⟨xs,c,i,e,h1,h2,h3,h4⟩
  ·exact .inl h
  ·exact .inr ⟨xs,c,i,e,h1,h2,by simp_all,h4⟩
theorem sY{w:World}{σ:Nat→Nat}{x y:AO}{l:Loc}{b:Nat}(h:fT y (cC σ x))(hb:cj w x l b):cj w y l b:=by
 rcases h with h|⟨p,rs,eA,rfl,h,_⟩|⟨rs,eA,rfl,h,_⟩
 ·rw[←h];exact HB hb
 ·have:=HB (σ:=σ) hb
  rw[h]at this;exact .inl (iw rfl this)
 ·have:=HB (σ:=σ) hb
  rw[h]at this;exact .inl (iw rfl this)
def ιback(ι:ax)(σ:Nat→Nat)(n:Nat):ax:=fun o=>if o<n then ι (σ o)else none
mutual
theorem bP.eM{S:Nat→Prop}{w:World}{ι:ax}{σ:Nat→Nat}{n:Nat}:∀(v:AV) (x:Value),eS n v=true→bP S w ι (cd σ v) x→bP S w (ιback ι σ n) v x
 |.ptr o r c,x,hb,h=>by
  obtain⟨l,hl,rfl⟩:=h.cZ
  exact .ptr o r c l (by simp only[ιback];rw[if_pos (YI hb)];exact hl)
 |.eN o off len room,x,hb,h=>by
  have hι:∀y,ι (σ o)=some y→ιback ι σ n o=some y:=fun y hy=>by simp only[ιback];rw[if_pos (YI hb)];exact hy
  rcases vY h with ⟨l,a,cap,q,rfl,h1,h2,h3,h4,h5,ha⟩|⟨q,rfl,rfl,rfl,a,rfl⟩
  ·exact .eN o off len room cap a l (hι _ q) h1 h2 h3 h4 h5 ha
  ·exact .iG o a (hι _ q)
 |.an o z,x,hb,h=>by
  have hι:∀y,ι (σ o)=some y→ιback ι σ n o=some y:=fun y hy=>by simp only[ιback];rw[if_pos (YI hb)];exact hy
  rcases kp h with ⟨l,a,cap,q,rfl,h2,h3,h4,hz,ha⟩|⟨q,a,rfl⟩
  ·exact .an o z cap a l (hι _ q) h2 h3 h4 hz ha
  ·exact .fk o z a (hι _ q)
 |.aw o,x,hb,h=>by
  obtain⟨l,hl,rfl⟩:=h.cK
  exact .aw o l (by simp only[ιback];rw[if_pos (YI hb)];exact hl)
 |.agg cs,x,hb,h=>by
  obtain⟨vs,rfl,hL⟩:=h.dG
  exact az.agg (az.eM cs vs.toList hb hL)
 |.bN cs,x,hb,h=>by
  obtain⟨vs,rfl,hL⟩:=h.gA
  exact az.jQ (az.eM cs vs.toList hb hL)
 |.fn f cs,x,hb,h=>by
  obtain⟨vs,rfl,hL⟩:=h.gC
  exact az.CR (az.eM cs vs.toList hb hL)
 |.int k m,x,_,h=>.bI _ _ (h.free rfl)
 |.bool b,x,_,h=>.bI _ _ (h.free rfl)
 |.str s,x,_,h=>.bI _ _ (h.free rfl)
 |.dq,x,_,h=>.bI _ _ (h.free rfl)
 |.sl xs,x,_,h=>.bI _ _ (h.free rfl)
 |.rp row c,x,_,h=>.bI _ _ (h.free rfl)
 |.ei v,x,_,h=>.bI _ _ (h.free rfl)
 |.undef,x,_,h=>.bI _ _ (.undef _)
 |.eh p,x,_,h=>by
  cases h with
  |bI _ _ h=>cases h with|eh _ b h=>exact .bI _ _ (.eh p b h)
theorem az.eM{S:Nat→Prop}{w:World}{ι:ax}{σ:Nat→Nat}{n:Nat}:∀(cs:List AV) (vs:List Value),eJ n cs=true→az S w ι (fi σ cs) vs→az S w (ιback ι σ n) cs vs
 | [],vs,_,h=>by
  have:=h.1
  simp only[fi,YB]at this
  cases vs with
  |nil=>exact .nil
  |cons v r=>grind
 |c::cs,vs,hb,h=>by
  simp only[eJ,Y9]at hb;simp only[fi]at h
  cases vs with
  |nil=>have:=h.1;grind
  |cons v r=>
   have h1:bP S w ι (cd σ c) v:=h.2 0 _ _ rfl rfl
   have h2:az S w ι (fi σ cs) r:=⟨by simpa using h.1,fun j x v hx hv=>h.2 (j+1) x v (by simp_all) (by simp_all)⟩
   exact az.cons (bP.eM c v hb.1 h1) (az.eM cs r hb.2 h2)
end
theorem ca.eM{S:Nat→Prop}{w:World}{ι:ax}{σ:Nat→Nat}{n o:Nat}{x:AO}(ho:o<n)(hb:cE n x=true)(h:ca S w ι (σ o) (cC σ x)):
 ca S w (ιback ι σ n) o x:=by
 have hι:∀y,ι (σ o)=some y→ιback ι σ n o=some y:=fun y hy=>by simp only[ιback];simp_all
 cases x with
 |rows p rs=>
  cases p with
  |true=>
   rcases h with ⟨q,rfl⟩|⟨l,vals,h1,h2,h3,h4,h5⟩
   ·exact .inl ⟨hι _ q,rfl⟩
   ·exact .inr ⟨l,vals,hι _ h1,h2,h3,h4,fun i r hr=>by have:=h5 i r hr;simp_all⟩
  |false=>
   simp only[cC]at h
   rcases h with ⟨q,hrs⟩|⟨l,vals,h1,h2,h3,h4,h5⟩
   ·exact .inl ⟨hι _ q,by simp_all⟩
   ·refine .inr ⟨l,vals,hι _ h1,by simp_all,h3,by simp_all,fun i r hr=>?_⟩
    have vv:(rs.map (fi σ))[i]? =some (fi σ r):=by rw[Yn,hr];rfl
    have:=h5 i _ vv
    simp only[Yu,Yc]at this⊢
    refine az.eM r _ ?_ this
    simp only[cE]at hb
    grind
 |cT rs=>
  rcases h with ⟨q,rfl⟩|⟨l,vals,h1,h2,h3,h4,h5⟩
  ·exact .inl ⟨hι _ q,rfl⟩
  ·exact .inr ⟨l,vals,hι _ h1,h2,h3,h4,fun i r hr=>by have:=h5 i r hr;simp_all⟩
 |aw p es=>
  cases p with
  |true=>
   obtain⟨l,xs,clock,h1,h2,h3,h4⟩:=h
   exact⟨l,xs,clock,hι _ h1,h2,⟨h3.1,fun i e x he hx=>⟨(h3.2 i e x he hx).1,.bI _ _ ((h3.2 i e x he hx).2.2 rfl),(h3.2 i e x he hx).2.2⟩⟩,h4⟩
  |false=>
  obtain⟨l,xs,clock,h1,h2,h3,h4⟩:=h
  refine⟨l,xs,clock,hι _ h1,h2,⟨by simpa using h3.1,fun i e x he hx=>?_⟩,h4⟩
  have vv:(es.map fun e=>(e.1,cd σ e.2))[i]? =some (e.1,cd σ e.2):=by rw[Yn,he];rfl
  have:=h3.2 i _ x vv hx
  simp only[cE]at hb
  exact⟨this.1,bP.eM e.2 x.val (YG.1 hb e (YA he)) this.2.1,fun hp=>by cases hp⟩
 |lit rs=>
  obtain⟨l,vals,h1,h2,h4,h5,h6,h7,h8⟩:=h
  exact⟨l,vals,hι _ h1,h2,h4,h5,h6,h7,fun i r hr=>by have:=h8 i r hr;simp_all⟩
 |bK es hh=>
  obtain⟨l,xs,clock,h1,h2,h3,h4⟩:=h
  refine⟨l,xs,clock,hι _ h1,h2,h3,h4.len,fun i e x he hx=>?_,fun i j e e' x x' b he mq hx hx' hn sy=>h4.inj i j e e' x x' b he mq hx hx' (by simp_all) (by simp_all)⟩
  obtain⟨g1,g2,g3⟩:=h4.at_ i e x he hx
  refine⟨g1,fun hn=>g2 (by simp_all),fun q hq=>?_⟩
  subst hq;simp only[cE]at hb;exact bP.eM (.ptr q 0 0) x.val hb (g3 (σ q) rfl)
 |bL z fs hh=>
  obtain⟨l,xs,clock,h1,h2,h3,h4⟩:=h
  refine⟨l,xs,clock,hι _ h1,h2,h3,h4.1,fun i e x he hx=>?_,fun i j x y b h5 h6 h7 h8=>h4.2.2 i j x y b h5 h6 (by simp_all) (by simp_all)⟩
  obtain⟨g1,g2,g3⟩:=h4.2.1 i e x he hx
  refine⟨g1,fun hn=>g2 (by simp_all),fun q hq=>?_⟩
  subst hq;simp only[cE]at hb;exact bP.eM (.an q z) x.val hb (g3 (σ q) rfl)
end Go.Ab
