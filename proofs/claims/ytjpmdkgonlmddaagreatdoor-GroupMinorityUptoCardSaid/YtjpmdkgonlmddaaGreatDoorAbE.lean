import Derived.Test.YtjpmdkgonlmddaaGreatDoorAbD
import Derived.Lib.LazyBuf
set_option linter.unusedVariables false
open Go.MapKept (Stamped)
namespace Go.Ab
theorem Zke{w:World}{z:Nat}{fs fs':List (AV×List (List AV))}{h:Option (Nat×Nat)}{l:Loc}{b:Nat}(hb:foot w (.fmap z fs' h) l b):foot w (.fmap z fs none) l b:=by
 rcases hb with hb|⟨xs,c,i,e,h1,h2,h3,h4⟩
 ·exact .inl hb
 ·exact .inr ⟨xs,c,i,e,h1,h2,by simp,h4⟩
section
variable {C:Cx}{S:Nat→Prop}{w:World}{ι:Imap}{P:Program}{un:Nat→Prop}{f:FS}{a:Act}{id:Nat}{o:Oper}
 {next:Act→World→Prop} {Q:Exit→Act→World→Prop}
theorem Zdm.ofF{z:Nat}{fs:List (AV×List (List AV))}{h:Option (Nat×Nat)}{xs:Array MapEntry}(hF:FRep S w ι z fs h xs):Zdm false S w ι (keysF fs) xs.toList:=by
 refine⟨by simp[keysF,hF.1],fun i e x he hx=>?_⟩
 simp only[keysF,Yl,Ye]at he
 obtain⟨e0,he0,rfl⟩:=he
 have:=hF.2.1 i e0 x he0 (by simp_all)
 exact⟨this.1,.imm _ _ (.undef _),fun hp=>by cases hp⟩
theorem ListV.place{z:Nat}{rs:List (List AV)}{v:Value}(h:ListV S w z rs v):
 ∃L:Option Loc,(∀(ι':Imap) (k:Nat),ι' k=some L→Rep S w ι' (.osw k z) v∧ObjOk S w ι' k (.rows true rs))∧∀l2,L=some l2→vblk v=some l2.blk∧∃c,Zbo w l2.blk 0=some c:=by
 rcases h with ⟨_,rfl,a,rfl⟩|⟨l,h1,h0,h2,vals,h3,h4,h5,h6⟩
 ·exact⟨none,fun ι' k hk=>⟨.oswv k z a hk,.inl ⟨hk,rfl⟩⟩,fun l2 e=>by cases e⟩
 ·refine⟨some l,fun ι' k hk=>⟨?_,.inr ⟨l,vals,hk,h3,h4,h5,h6⟩⟩,fun l2 e=>?_⟩
  ·rcases ZcP h2 with ⟨l',a,cap,q,rfl,b2,b3,b4,bz,ba⟩|⟨q,_⟩
   ·injection q with q;injection q with q;subst q
    exact .osw k z cap a l hk b2 b3 b4 bz ba
   ·cases q
  ·injection e with e;subst e
   exact⟨h1,(h4 0).1 h0⟩
theorem ListV.of{z:Nat}{rs:List (List AV)}{q:Nat}{v:Value}(hz:0<z)(hl:∀row,row∈rs→row.length=z)(hv:Rep S w ι (.osw q z) v)(ho:ObjOk S w ι q (.rows true rs)):
 ListV S w z rs v∧∀b,vblk v=some b→∃lq,ι q=some (some lq)∧b=lq.blk:=by
 rcases ZcP hv with ⟨l,ad,cap,hq,rfl,b2,b3,b4,bz,ba⟩|⟨hq,ad,rfl⟩
 ·rcases ho with ⟨q',_⟩|⟨l',vals,q',hcnt,hm,hat,hrep⟩
  ·simp_all
  ·rw[hq]at q';injection q' with q';injection q' with q';subst q'
   by_cases hc:cap=0
   ·subst hc
    have h0:l.cnt=0:=by omega
    rw[h0]
    refine⟨.inl ⟨by rfl,Yt.1 (by omega),_,rfl⟩,fun b hb=>by simp[vblk]at hb⟩
   ·obtain rfl:=ba hc
    have hez:l.esz=z:=by
     by_cases h0:l.cnt=0
     ·omega
     ·obtain⟨r,hr⟩:∃r,rs[0]? =some r:=⟨_,Y3 (by omega)⟩
      have h1:=hat.2.1 0 (by omega)
      have h2:=(hrep.get hr).1
      grind
    have hpos:0<cap*l.esz:=Nat.mul_pos (by omega) (by omega)
    refine⟨.inr ⟨l,by simp[vblk,hc],by omega,.osw 0 z cap _ l rfl b2 b3 b4 bz ba,vals,hcnt,hm,hat,fun i r hr=>?_⟩,fun b hb=>⟨l,hq,?_⟩⟩
    ·have:=hrep i r hr;simp_all
    ·simp only[vblk,hc,Y9,Y1]at hb;omega
 ·have hrs:rs=[]:=by
   rcases ho with ⟨_,h⟩|⟨l',vals,q',_⟩
   ·exact h
   ·simp_all
  have hv0:vblk (.slice ad 0 0)=none:=by cases ad<;>rfl
  exact⟨.inl ⟨hv0,hrs,_,rfl⟩,fun b hb=>by simp_all⟩
theorem Zjk:Stamped #[] 0:=⟨fun x h=>by simp at h,by simp,by simp⟩
theorem Zjj{xs:Array MapEntry}{clock:Nat}{k v:Value}(h:Stamped xs clock)(hk:∀x,x∈xs.toList→x.key≠k):Stamped (xs.push {key:=k,val:=v,born:=clock}) (clock+1):=by
 refine⟨fun x hx=>?_,?_,?_⟩
 ·simp only[Vf,Yy,YB]at hx
  rcases hx with hx|rfl
  ·have:=h.1 x hx;omega
  simp
 ·simp only[Vf,Yb,Yp,List.map_nil]
  refine Vg.2 ⟨h.2.1,by simp,fun a ha b hb=>?_⟩
  obtain⟨x,hx,rfl⟩:=YK.1 ha
  have:=h.1 x hx
  grind
 ·simp only[Vf,Yb,Yp,List.map_nil]
  refine Vg.2 ⟨h.2.2,by simp,fun a ha b hb=>?_⟩
  grind
theorem Zky{xs:Array MapEntry}{clock j:Nat}{k v:Value}{x0:MapEntry}(h:Stamped xs clock)(hx:xs[j]? =some x0)(hk:k=x0.key):Stamped (xs.modify j fun e=>{e with key:=k,val:=v}) clock:=by
 have hb:∀{α:Type} (g:MapEntry→α),(g {x0 with key:=k,val:=v}=g x0)→((xs.modify j fun e=>{e with key:=k,val:=v}).toList.map g)=xs.toList.map g:=by
  intro α g hg;apply Ve;intro i
  rw[Yl,Yl,Wg,Wg,Vl]
  by_cases e:j=i
  ·simp_all
  ·grind
 refine⟨fun x hx'=>?_,by rw[hb (·.born) rfl];exact h.2.1,by rw[hb (·.key) hk];exact h.2.2⟩
 have:=WM (f:=(·.born)) hx'
 rw[hb (·.born) rfl]at this
 obtain⟨y,hy,e⟩:=YK.1 this
 rw[←e];exact h.1 y hy
theorem Zlg{xs:Array MapEntry}{clock j:Nat}(h:Stamped xs clock)(hj:j<xs.size):Stamped (xs.eraseIdx j hj) clock:=by
 have hs:(xs.eraseIdx j hj).toList.Sublist xs.toList:=by
  rw[Array.toList_eraseIdx];exact List.eraseIdx_sublist _ _
 exact⟨fun x hx=>h.1 x (hs.subset hx),h.2.1.sublist (hs.map _),h.2.2.sublist (hs.map _)⟩
theorem ZpM{kt:TypeId}{k k':AV}{u v:Value}(h:keyEq P kt k k'=some true)(hu:Rep S w ι k u)(hv:IRep S w k' v):u=v:=by
 unfold keyEq at h;split at h
 ·split at h
  ·rename_i e;subst e
   cases hv;rw[hu.int_inv];simp_all
  ·cases h
 ·rename_i a b _
  have hv':=(Rep.imm (ι:=ι) _ _ hv).str_inv
  rw[hu.str_inv,hv'];simp_all
 ·cases hv
  rw[hu.bool_inv];simp_all
 ·split at h
  ·rename_i e
   obtain⟨rfl,rfl⟩:=e
   rw[Zfc hu,Zfc (Rep.imm (ι:=ι) _ _ hv)]
   simp_all
  ·cases h
 ·cases h
theorem Zrb{kt:TypeId}{k k':AV}{u v:Value}(h:keyEq P kt k k'=some false)(hu:Rep S w ι k u)(hv:IRep S w k' v):v≠u:=by
 intro e;subst e;unfold keyEq at h;split at h
 ·split at h
  ·rename_i e;subst e
   have h1:=hu.int_inv
   have h2:=(Rep.imm (ι:=ι) _ _ hv).int_inv
   simp_all
  ·cases h
 ·have h1:=hu.str_inv
  have h2:=(Rep.imm (ι:=ι) _ _ hv).str_inv
  simp_all
 ·have h1:=hu.bool_inv
  have h2:=(Rep.imm (ι:=ι) _ _ hv).bool_inv
  simp_all
 ·split at h
  ·rename_i e
   obtain⟨rfl,rfl⟩:=e
   have h1:=Zfc hu
   have h2:=Zfc (Rep.imm (ι:=ι) _ _ hv)
   simp_all
  ·cases h
 ·cases h
theorem Zkh{kt:TypeId}{k:AV}:∀(es:List (AV×AV)) (i:Nat),ZbR P kt k es i none→∀(j:Nat) e,es[j]? =some e→keyEq P kt k e.1=some false
 | [],_,_,j,e,he=>by simp at he
 |e0::es,i,h,j,e,he=>by
  rcases h with ⟨_,h⟩|⟨h1,h2⟩
  ·cases h
  ·cases j with
   |zero=>simp_all
   |succ j=>exact Zkh es (i+1) h2 j e (by simp_all)
theorem Zk0{kt:TypeId}{k:AV}{u:Value}{p:Bool}{es:List (AV×AV)}{xs:Array MapEntry}(hr:ZbR P kt k es 0 none)(hM:Zdm p S w ι es xs.toList)(hu:Rep S w ι k u):∀x,x∈xs.toList→x.key≠u:=by
 intro x hx
 obtain⟨j,hj⟩:=Wj hx
 have hl:j<es.length:=by rw[hM.1];exact Zap hj
 have he:=Y3 hl
 exact Zrb (Zkh es 0 hr j _ he) hu (hM.2 j _ x he hj).1
theorem Inv.lend(h:Inv C S ι un f a w)(hid:un id){o z:Nat}{fs:List (AV×List (List AV))}{i:Nat}{e:AV×List (List AV)}(ho:f.os o=some (.fmap z fs none))(he:fs[i]? =some e)
 {l:Loc} {xs:Array MapEntry} {clock:Nat} {x:MapEntry} (hl:ι o=some (some l)) (hheap:w.heap[l.blk]? =some (.map xs clock)) (hx:xs[i]? =some x):
 ∃ι',ι.le ι'∧Rep S w ι' (.osw id z) x.val∧Inv C S ι' (fun y=>un y∧y≠id) {f with os:=updO f.os [(id,some (.rows true e.2)),(o,some (.fmap z fs (some (i,id))))]} a w:=by
 have hnone:=h.un id hid
 obtain⟨l',xs',clock',hl',hheap',hlim,hF⟩:=h.ob o _ ho
 rw[hl]at hl';injection hl' with hl';injection hl' with hl';subst hl'
 rw[hheap]at hheap';injection hheap' with hheap';injection hheap' with e1 e2;subst e1;subst e2
 have hoid:o≠id:=h.notId hid ho
 obtain⟨L,hL1,hL2⟩:=((hF.2.1 i e x he hx).2.1 (by simp)).place
 have hι:=ZnK (ι:=ι) (id:=id) (x:=L) hnone
 have hιid:(fun o=>if o=id then some L else ι o) id=some L:=by simp
 have hblk:∀l2,L=some l2→foot w (.fmap z fs none) l l2.blk:=fun l2 e=>.inr ⟨xs,clock,i,x,hheap,hx,by simp,(hL2 l2 e).1⟩
 refine⟨fun o=>if o=id then some L else ι o,hι,(hL1 _ id hιid).1,?_⟩
 have hw:ZbH S w w:=fun _ _=>rfl
 have hosU:∀k y,updO f.os [(id,some (.rows true e.2)),(o,some (.fmap z fs (some (i,id))))] k=some y→(k=id∧y=.rows true e.2)∨(k=o∧y=.fmap z fs (some (i,id)))∨(k≠id∧k≠o∧f.os k=some y):=by
  intro k y hy;simp only[updO]at hy
  by_cases e1:k=id
  ·simp_all
  ·grind
 have hιk:∀k,k≠id→∀l2,(if k=id then some L else ι k)=some (some l2)→ι k=some (some l2):=fun k hk l2 e=>by simp_all
 have hlid:∀l2,(if id=id then some L else ι id)=some (some l2)→L=some l2:=fun l2 e=>by simp_all
 refine h.turn (fun _ x=>x) hw hι ?_ ?_ ?_ h.sb h.sn (fun k hk=>by simp only[hk.2,Y9];exact h.un k hk.1) h.fr
 ·intro k y hy
  rcases hosU k y hy with ⟨rfl,rfl⟩|⟨rfl,rfl⟩|⟨h1,h2,h3⟩
  ·simp_all
  ·refine⟨l,xs,clock,hι _ _ hl,hheap,hlim,hF.1,fun j e' x' he' hx'=>?_,fun j j' x1 x2 b h1 h2 h3 h4 h5 h6=>hF.2.2 j j' x1 x2 b h1 h2 (by simp) (by simp) h5 h6⟩
   obtain⟨g1,g2,g3⟩:=hF.2.1 j e' x' he' hx'
   grind
  ·exact(h.ob k y h3).mono (fun _ x=>x) hw hι (fun _ _ _ _ _=>rfl)
 ·intro k y hy hly l2 hl2 b hb
  rcases hosU k y hy with ⟨rfl,rfl⟩|⟨rfl,rfl⟩|⟨h1,h2,h3⟩
  ·rw[Za7 rfl hb]
   exact h.own o _ ho rfl l hl _ (hblk l2 (hlid l2 hl2))
  ·exact h.own k _ ho rfl l2 (hιk k hoid l2 hl2) b (Zke hb)
  ·exact h.own k y h3 hly l2 (hιk k h1 l2 hl2) b hb
 ·have cross:∀l2 b,L=some l2→b=l2.blk→∀l3,ι o=some (some l3)→foot w (.fmap z fs (some (i,id))) l3 b→False:=by
   intro l2 b hL hb l3 hl3 hf
   rw[hl]at hl3;injection hl3 with hl3;injection hl3 with hl3;subst hl3
   obtain⟨hv,c,hc⟩:=hL2 l2 hL
   subst hb
   rcases hf with hf|⟨xs2,c2,j,e2,g1,g2,g3,g4⟩
   ·simp only[Zbo,World.cell?,hf,hheap]at hc
    cases hc
   ·rw[hheap]at g1;injection g1 with g1;injection g1 with q1 q2;subst q1
    have:=hF.2.2 i j x e2 l2.blk hx g2 (by simp) (by simp) hv g4
    simp_all
  intro k1 k2 y1 y2 hy1 hy2 hv1 hv2 l1 l2 e1 e2 b hb1 hb2
  rcases hosU k1 y1 hy1 with ⟨rfl,rfl⟩|⟨rfl,rfl⟩|⟨h1,h2,h3⟩<;>rcases hosU k2 y2 hy2 with ⟨g0,g⟩|⟨g0,g⟩|⟨g1,g2,g3⟩
  ·omega
  ·subst g0;subst g
   exact(cross l1 b (hlid l1 e1) (Za7 rfl hb1) l2 (hιk k2 hoid l2 e2) hb2).elim
  ·have hb:=hblk l1 (hlid l1 e1)
   rw[←Za7 rfl hb1]at hb
   exact absurd (h.inj o k2 _ y2 ho g3 rfl hv2 l l2 hl (hιk k2 g1 l2 e2) b hb hb2) (fun e=>g2 e.symm)
  ·subst g0;subst g
   exact(cross l2 b (hlid l2 e2) (Za7 rfl hb2) l1 (hιk k1 hoid l1 e1) hb1).elim
  ·omega
  ·exact absurd (h.inj k1 k2 _ y2 ho g3 rfl hv2 l1 l2 (hιk k1 hoid l1 e1) (hιk k2 g1 l2 e2) b (Zke hb1) hb2) (fun e=>g2 e.symm)
  ·subst g0;subst g
   have hb:=hblk l2 (hlid l2 e2)
   rw[←Za7 rfl hb2]at hb;exact absurd (h.inj k1 o y1 _ h3 ho hv1 rfl l1 l (hιk k1 h1 l1 e1) hl b hb1 hb) h2
  ·subst g0;subst g
   exact h.inj k1 k2 y1 _ h3 ho hv1 rfl l1 l2 (hιk k1 h1 l1 e1) (hιk k2 hoid l2 e2) b hb1 (Zke hb2)
  ·exact h.inj k1 k2 y1 y2 h3 g3 hv1 hv2 l1 l2 (hιk k1 h1 l1 e1) (hιk k2 g1 l2 e2) b hb1 hb2
theorem Zgw{z:Nat}{fs:List (AV×List (List AV))}{hh:Option (Nat×Nat)}{l:Loc}{xs:Array MapEntry}{clock i:Nat}{x:MapEntry}(hheap:w.heap[l.blk]? =some (.map xs clock))
 (hx:xs[i]? =some x) (hn:hh.map (·.1)≠some i) {b:Nat} (hv:vblk x.val=some b):foot w (.fmap z fs hh) l b:=.inr ⟨xs,clock,i,x,hheap,hx,hn,hv⟩
theorem Inv.fturn(h:Inv C S ι un f a w){o z:Nat}{fs fs':List (AV×List (List AV))}{hh:Option (Nat×Nat)}(ho:f.os o=some (.fmap z fs hh)){l:Loc}(hl:ι o=some (some l))
 {xs xs':Array MapEntry} {clock clock':Nat} (hheap:w.heap[l.blk]? =some (.map xs clock)) (hlim:FLim xs' clock') {V:List Nat} (hV:o∉V)
 (hent:∀(i:Nat) x,xs'[i]? =some x→(∃j,xs[j]? =some x∧hh.map (·.1)≠some j)∨∀b,vblk x.val=some b→∃q lq y,q∈V∧f.os q=some y∧y.live=true∧ι q=some (some lq)∧b=lq.blk)
 (hF:∀w':World,ZbH S w w'→(∀b,b≠l.blk→w'.heap[b]? =w.heap[b]?)→FRep S w' ι z fs' none xs'):
 Inv C S ι un {f with os:=updO f.os ((o,some (.fmap z fs' none))::V.map fun q=>(q,none))} a {w with heap:=w.heap.setIfInBounds l.blk (.map xs' clock')}:=by
 obtain⟨hO,hS,hlt⟩:=h.own o _ ho rfl l hl _ (.inl rfl)
 have hother:∀b,b≠l.blk→(w.heap.setIfInBounds l.blk (Obj.map xs' clock'))[b]? =w.heap[b]? :=fun b hb=>Ww (fun e=>hb e.symm)
 have hw:ZbH S w {w with heap:=w.heap.setIfInBounds l.blk (.map xs' clock')}:=fun b hb=>hother b (fun e=>hS (e▸hb))
 have hself:(w.heap.setIfInBounds l.blk (Obj.map xs' clock'))[l.blk]? =some (.map xs' clock'):=by simp[hlt]
 have hoth:∀o' y,f.os o'=some y→y.live=true→o'≠o→∀l',ι o'=some (some l')→∀b,foot w y l' b→(w.heap.setIfInBounds l.blk (Obj.map xs' clock'))[b]? =w.heap[b]? :=fun o' y hy hly e l' hl' b hb=>
  hother b (fun eb=>e (h.inj o' o y _ hy ho hly rfl l' l hl' hl b hb (.inl eb)))
 have hosU:∀k y,updO f.os ((o,some (.fmap z fs' none))::V.map fun q=>(q,none)) k=some y→(k=o∧y=.fmap z fs' none)∨(k≠o∧k∉V∧f.os k=some y):=by
  intro k y hy
  have hn:∀(V:List Nat) (k:Nat),updO f.os (V.map fun q=>(q,none)) k=if k∈V then none else f.os k:=by
   intro V
   induction V with
   |nil=>intro k;rfl
   |cons q r ih=>
    intro k;simp only[Yp,updO,ih,Yj]
    grind
  simp only[updO]at hy
  by_cases e2:k=o
  ·simp_all
  ·simp_all
 have hfoot:∀b,foot {w with heap:=w.heap.setIfInBounds l.blk (.map xs' clock')} (.fmap z fs' none) l b→
  foot w (.fmap z fs hh) l b∨∃q lq y,q∈V∧f.os q=some y∧y.live=true∧ι q=some (some lq)∧b=lq.blk:=by
  rintro b (hb|⟨ys,c,i,x,h1,h2,h3,h4⟩)
  ·exact .inl (.inl hb)
  ·rw[show({w with heap:=w.heap.setIfInBounds l.blk (.map xs' clock')}:World).heap[l.blk]? =_ from hself]at h1
   injection h1 with h1;injection h1 with q1 q2;subst q1
   rcases hent i x h2 with ⟨j,hj,hn⟩|hq
   ·exact .inl (Zgw hheap hj hn h4)
   simp_all
 refine h.turn (fun _ x=>x) hw (Imap.le_refl _) ?_ ?_ ?_ (fun b hb=>by simpa using h.sb b hb) h.sn h.un ?_
 ·intro k y hy
  rcases hosU k y hy with ⟨rfl,rfl⟩|⟨h1,h2,h3⟩
  ·exact⟨l,xs',clock',hl,hself,hlim,hF _ hw hother⟩
  ·refine(h.ob k y h3).mono (fun _ x=>x) hw (Imap.le_refl _) (fun l' hl' hy' b hb=>hother _ (fun eb=>h1 (h.inj k o y _ h3 ho hy' rfl l' l hl' hl b hb (.inl eb))))
 ·intro k y hy hly l' hl' b hb
  have hsz:(w.heap.setIfInBounds l.blk (Obj.map xs' clock')).size=w.heap.size:=by simp
  rcases hosU k y hy with ⟨rfl,rfl⟩|⟨h1,h2,h3⟩
  ·rw[hl]at hl';injection hl' with hl';injection hl' with hl';subst hl'
   rcases hfoot b hb with hb|⟨q,lq,y,hq,hy,hlv,hlq,rfl⟩
   ·have:=h.own k _ ho rfl l hl b hb
    simp_all
   ·have:=h.own q y hy hlv lq hlq _ (.inl rfl)
    simp_all
  ·have:=h.own k y h3 hly l' hl' b (Zao (hoth k y h3 hly h1 l' hl') hb)
   simp_all
 ·have cross:∀k y,f.os k=some y→y.live=true→k≠o→k∉V→∀l',ι k=some (some l')→∀b,foot {w with heap:=w.heap.setIfInBounds l.blk (.map xs' clock')} y l' b→
   foot {w with heap:=w.heap.setIfInBounds l.blk (.map xs' clock')} (.fmap z fs' none) l b→False:=by
   intro k y hy hly hne hkV l' hl' b hb hb2
   have hb':=Zao (hoth k y hy hly hne l' hl') hb
   rcases hfoot b hb2 with hb2|⟨q,lq,y2,hq,hy2,hlv,hlq,rfl⟩
   ·exact hne (h.inj k o y _ hy ho hly rfl l' l hl' hl b hb' hb2)
   ·have:=h.inj k q y y2 hy hy2 hly hlv l' lq hl' hlq _ hb' (.inl rfl)
    simp_all
  intro k1 k2 y1 y2 hy1 hy2 hv1 hv2 l1 l2 e1 e2 b hb1 hb2
  rcases hosU k1 y1 hy1 with ⟨rfl,rfl⟩|⟨h1,h2,h3⟩<;>rcases hosU k2 y2 hy2 with ⟨g0,g⟩|⟨g1,g2,g3⟩
  ·omega
  ·grind
  ·grind
  ·exact h.inj k1 k2 y1 y2 h3 g3 hv1 hv2 l1 l2 e1 e2 b (Zao (hoth k1 y1 h3 hv1 h1 l1 e1) hb1) (Zao (hoth k2 y2 g3 hv2 g1 l2 e2) hb2)
 ·refine⟨h.fr.os,h.fr.output,by simpa using h.fr.size,fun b hb hn=>?_⟩
  have:=hother b (fun e=>hn (by simp_all))
  exact this.trans (h.fr.old b hb hn)
theorem FRep.ne_blk{z:Nat}{fs:List (AV×List (List AV))}{hh:Option (Nat×Nat)}{xs:Array MapEntry}{l:Loc}{clock:Nat}(hheap:w.heap[l.blk]? =some (.map xs clock))(hF:FRep S w ι z fs hh xs)
 {i:Nat} {x:MapEntry} (hx:xs[i]? =some x) (hn:hh.map (·.1)≠some i) {b:Nat} (hb:vblk x.val=some b):b≠l.blk:=by
 intro e;subst e
 obtain⟨e,he⟩:∃e,fs[i]? =some e:=⟨_,Y3 (by rw[hF.1];grind)⟩
 obtain⟨L,_,hL2⟩:=((hF.2.1 i e x he hx).2.1 hn).place
 rcases(hF.2.1 i e x he hx).2.1 hn with ⟨hv,_⟩|⟨l2,h1,h0,_,vals,_,h4,_⟩
 ·simp_all
 ·rw[hb]at h1;injection h1 with h1
  obtain⟨c,hc⟩:=(h4 0).1 h0
  simp only[Zbo,World.cell?,←h1,hheap]at hc;cases hc
theorem Inv.fput(h:Inv C S ι un f a w){o z:Nat}{fs:List (AV×List (List AV))}{hh:Option (Nat×Nat)}(ho:f.os o=some (.fmap z fs hh)){l:Loc}(hl:ι o=some (some l))
 {xs xs':Array MapEntry} {clock clock':Nat} (hheap:w.heap[l.blk]? =some (.map xs clock)) {q:Nat} {rs rs':List (List AV)} (hq:f.os q=some (.rows true rs)) (hne:q≠o) {u:Value}
 (hV:ListV S w z rs' u) (hVb:∀b,vblk u=some b→∃lq,ι q=some (some lq)∧b=lq.blk) (j:Nat) (k:AV) (y:MapEntry) (fs':List (AV×List (List AV)))
 (hlen:fs'.length=xs'.size) (hlim:FLim xs' clock') (hfj:fs'[j]? =some (k,rs')) (hxj:xs'[j]? =some y) (hyv:y.val=u) (hky:IRep S w k y.key)
 (hrest:∀i,i≠j→fs'[i]? =fs[i]? ∧xs'[i]? =xs[i]? ∧hh.map (·.1)≠some i):
 Inv C S ι un {f with os:=updO f.os [(o,some (.fmap z fs' none)),(q,none)]} a {w with heap:=w.heap.setIfInBounds l.blk (.map xs' clock')}:=by
 obtain⟨l',xs2,clock2,hl',hheap',hlim2,hF⟩:=h.ob o _ ho
 rw[hl]at hl';injection hl' with hl';injection hl' with hl';subst hl'
 rw[hheap]at hheap';injection hheap' with hheap';injection hheap' with e1 e2;subst e1;subst e2
 have hvq:∀b,vblk u=some b→b≠l.blk:=fun b hb e=>by
  obtain⟨lq,hlq,hb2⟩:=hVb b hb
  exact hne (h.inj q o _ _ hq ho rfl rfl lq l hlq hl b (.inl hb2) (.inl e))
 have:=h.fturn ho hl hheap hlim (clock':=clock') (fs':=fs') (V:=[q]) (by grind) (fun i x hx=>?_) (fun w' hw hoth=>⟨hlen,fun i e x he hx=>?_,fun i i' x x' b hx hx' _ _ hv hv'=>?_⟩)
 ·exact this
 ·by_cases hi:i=j
  ·subst hi
   rw[hxj]at hx;injection hx with hx;subst hx
   right;intro b hb;rw[hyv]at hb
   obtain⟨lq,h1,h2⟩:=hVb b hb
   exact⟨q,lq,_,by simp,hq,rfl,h1,h2⟩
  grind
 ·by_cases hi:i=j
  ·subst hi
   rw[hxj]at hx;injection hx with hx;subst hx
   rw[hfj]at he;injection he with he;subst he
   refine⟨hky.mono (fun _ h=>h) hw,fun _=>?_,fun q hq=>by cases hq⟩
   rw[hyv]
   exact hV.mono (fun _ h=>h) hw (fun b hb=>hoth b (hvq b hb))
  ·obtain⟨h1,h2,h3⟩:=hrest i hi
   rw[h1]at he;rw[h2]at hx
   obtain⟨g1,g2,g3⟩:=hF.2.1 i e x he hx
   exact⟨g1.mono (fun _ h=>h) hw,fun _=>(g2 h3).mono (fun _ h=>h) hw (fun b hb=>hoth b (hF.ne_blk hheap hx h3 hb)),fun q hq=>by cases hq⟩
 ·by_cases hi:i=j<;>by_cases hi':i'=j
  ·omega
  ·subst hi
   rw[hxj]at hx;injection hx with hx;subst hx
   rw[hyv]at hv
   obtain⟨lq,hlq,hb2⟩:=hVb b hv
   obtain⟨_,h2,h3⟩:=hrest i' hi'
   rw[h2]at hx';exact absurd (h.inj q o _ _ hq ho rfl rfl lq l hlq hl b (.inl hb2) (Zgw hheap hx' h3 hv')) hne
  ·subst hi'
   rw[hxj]at hx';injection hx' with hx';subst hx'
   rw[hyv]at hv'
   obtain⟨lq,hlq,hb2⟩:=hVb b hv'
   obtain⟨_,h2,h3⟩:=hrest i hi
   rw[h2]at hx;exact absurd (h.inj q o _ _ hq ho rfl rfl lq l hlq hl b (.inl hb2) (Zgw hheap hx h3 hv)) hne
  ·obtain⟨_,h2,h3⟩:=hrest i hi
   obtain⟨_,h2',h3'⟩:=hrest i' hi'
   rw[h2]at hx;rw[h2']at hx';exact hF.2.2 i i' x x' b hx hx' h3 h3' hv hv'
theorem Inv.fsub(h:Inv C S ι un f a w){o z:Nat}{fs:List (AV×List (List AV))}{hh:Option (Nat×Nat)}(ho:f.os o=some (.fmap z fs hh)){l:Loc}(hl:ι o=some (some l))
 {xs xs':Array MapEntry} {clock clock':Nat} (hheap:w.heap[l.blk]? =some (.map xs clock)) (fs':List (AV×List (List AV))) (g:Nat→Nat) (hg:∀i j,g i=g j→i=j)
 (hlen:fs'.length=xs'.size) (hlim:FLim xs' clock') (hrest:∀i,fs'[i]? =fs[g i]? ∧xs'[i]? =xs[g i]? ∧hh.map (·.1)≠some (g i)):
 Inv C S ι un {f with os:=updO f.os [(o,some (.fmap z fs' none))]} a {w with heap:=w.heap.setIfInBounds l.blk (.map xs' clock')}:=by
 obtain⟨l',xs2,clock2,hl',hheap',hlim2,hF⟩:=h.ob o _ ho
 rw[hl]at hl';injection hl' with hl';injection hl' with hl';subst hl'
 rw[hheap]at hheap';injection hheap' with hheap';injection hheap' with e1 e2;subst e1;subst e2
 have:=h.fturn ho hl hheap hlim (clock':=clock') (fs':=fs') (V:=[]) (by simp) (fun i x hx=>?_) (fun w' hw hoth=>⟨hlen,fun i e x he hx=>?_,fun i i' x x' b hx hx' _ _ hv hv'=>?_⟩)
 ·exact this
 ·grind
 ·obtain⟨h1,h2,h3⟩:=hrest i
  rw[h1]at he;rw[h2]at hx
  obtain⟨g1,g2,g3⟩:=hF.2.1 _ e x he hx
  exact⟨g1.mono (fun _ h=>h) hw,fun _=>(g2 h3).mono (fun _ h=>h) hw (fun b hb=>hoth b (hF.ne_blk hheap hx h3 hb)),fun q hq=>by cases hq⟩
 ·obtain⟨_,h2,h3⟩:=hrest i
  obtain⟨_,h2',h3'⟩:=hrest i'
  rw[h2]at hx;rw[h2']at hx';exact hg _ _ (hF.2.2 _ _ x x' b hx hx' h3 h3' hv hv')
theorem Zo9{o:Nat}{p:Bool}{rs:List (List AV)}{l:Loc}{vals:Nat→List Value}(hl:ι o=some (some l))(hcnt:rs.length=l.cnt)(hm:Mine w l)
 (hat:ZgS w l rs.length vals) (hrep:Zcy p S w ι rs vals) {off n:Nat} {z:List AV} {zs:List Value} (hz:IRepL S w z zs) (hone:∀v,v∈zs→v.oneCell'=true) (hzl:zs.length=l.esz)
 (hn:off+n≤rs.length) (hw:ZbH S w (w.setCells l.blk (l.base+off*l.esz) (List.replicate n zs).flatten)):
 ObjOk S (w.setCells l.blk (l.base+off*l.esz) (List.replicate n zs).flatten) ι o (.rows p (rs.take off++(List.replicate n z++rs.drop (off+n)))):=by
 have hlen:(rs.take off++(List.replicate n z++rs.drop (off+n))).length=rs.length:=by simp;omega
 have hfl:(List.replicate n zs).flatten.length=n*l.esz:=by simp[hzl]
 have hfit:l.base+(off*l.esz+n*l.esz)≤l.size:=by
  have:(off+n)*l.esz≤rs.length*l.esz:=Yo _ hn
  rw[YT]at this
  have:=hat.1
  omega
 have hget:∀(i:Nat) r,(rs.take off++(List.replicate n z++rs.drop (off+n)))[i]? =some r→((off≤i∧i<off+n)∧r=z)∨(¬(off≤i∧i<off+n)∧rs[i]? =some r):=by
  intro i r hr
  rcases YX i off with q|q
  ·grind
  ·grind
 refine .inr ⟨l,fun i=>if off≤i∧i<off+n then zs else vals i,hl,by omega,hm.setCells _ _,⟨by rw[hlen];exact hat.1,fun i hi=>?_,fun i j v hi hv=>?_⟩,fun i r hr=>?_⟩
 ·rw[hlen]at hi
  by_cases e:off≤i∧i<off+n
  ·simp_all
  ·simp only[e,Y9];exact hat.2.1 i hi
 ·rw[hlen]at hi
  by_cases e:off≤i∧i<off+n
  ·simp only[e,and_self,Yh]at hv
   have hjl:j<l.esz:=by
    rw[←hzl]
    rcases YX j zs.length with h|h
    ·exact h
    ·simp_all
   have hk:(i-off)*l.esz+j<n*l.esz:=by
    have:(i-off+1)*l.esz≤n*l.esz:=Yo _ (by omega)
    rw[YT]at this;omega
   have hpos:off*l.esz+((i-off)*l.esz+j)=i*l.esz+j:=by
    rw[←Wx,←YT,show off+(i-off)=i by omega]
   have:=Wy l.blk (List.replicate n zs).flatten (l.base+off*l.esz) w (fun q hq=>by
    obtain⟨u,hu⟩:=(hm (l.base+off*l.esz+q)).1 (by omega)
    simp_all) ((i-off)*l.esz+j) (by omega)
   rw[show l.base+off*l.esz+((i-off)*l.esz+j)=l.base+(i*l.esz+j) by omega]at this
   refine⟨this.trans ?_,hone v (YA hv)⟩
   have h9:=Zns (n:=l.esz) n ((i-off)*l.esz+j) zs hzl hk
   rw[Y3 (by omega)]at h9
   rw[h9,Nat.add_comm,Nat.add_mul_mod_self_right,Wf hjl];exact hv
  ·simp only[e,Y9]at hv
   have hjl:j<l.esz:=by
    rw[←hat.2.1 i hi]
    rcases YX j (vals i).length with h|h
    ·exact h
    ·simp_all
   have h9:=hat.2.2 i j v hi hv
   refine⟨?_,h9.2⟩
   show(w.setCells l.blk (l.base+off*l.esz) (List.replicate n zs).flatten).cell? _=some v
   rw[Wa l.blk _ _ w _ (fun _ _=>by
    simp only
    rcases YX i off with q|q
    ·left
     have:(i+1)*l.esz≤off*l.esz:=Yo _ q
     grind
    ·right
     have:(off+n)*l.esz≤i*l.esz:=Yo _ (by omega)
     grind)]
   exact h9.1
 ·rcases hget i r hr with ⟨e,rfl⟩|⟨e,hr⟩
  ·simp only[e,and_self,Yh]
   cases p with
   |false=>simp only[Yr,Y9];exact(hz.rep (ι:=ι)).mono (fun _ x=>x) hw (Imap.le_refl _)
   |true=>simp only[Yh];exact hz.mono (fun _ x=>x) hw
  ·simp only[e,Y9]
   have hrw:=hrep i r hr
   cases p with
   |false=>simp only[Yr,Y9]at hrw⊢;exact hrw.mono (fun _ x=>x) hw (Imap.le_refl _)
   |true=>simp only[Yh]at hrw⊢;exact hrw.mono (fun _ x=>x) hw
theorem Zqm{cs:List AV}{blk:Obj}{vs:Array Value}{t:TypeId}{k z:Nat}(hk:cs[k]? =some .esl)(hn:Goes C un id o f (.ptr id 0 0) [(id,some (.rows false [setAt cs k [.osw (id+1) z]])),(id+1,some (.rows true []))] next)
 (h:Inv C S ι un f a w) (hd:∀d,o.dst=some d→C.N.lo≤d∧d<C.N.n) (hid:∀x,id≤x→x<id+W→un x)
 (hb:blk=.cells vs t) (hvs:RepL S w ι cs vs.toList) (hone:∀v,v∈vs.toList→v.oneCell'=true) (hrun:(execOp a.eval o).run P w=.ok (.value (.pointer (some ⟨w.heap.size,0,none⟩))) (w.alloc blk)):
 o.wp P a w next Q:=by
 unfold Oper.wp;rw[hrun,Oper.upon_value];subst hb
 have hlen:=hvs.1
 simp only[Array.length_toList]at hlen
 have hkl:=Zap hk
 obtain⟨ι1,hle1,hι1,h1⟩:=h.void (id:=id+1) (hid (id+1) (by omega) (by simp[W])) true
 have hcl:(setAt cs k [AV.osw (id+1) z]).length=cs.length:=Zc8 _ _ _ (by grind)
 have hvs1:RepL S w ι1 (setAt cs k [.osw (id+1) z]) vs.toList:=by
  refine⟨by simp_all,fun j x v hx hv=>?_⟩
  unfold setAt at hx
  rcases WR j k with q|q|q
  ·rw[Yn (by grind),W7,if_pos q]at hx
   exact(hvs.2 j x v hx hv).mono (fun _ x=>x) (fun _ _=>rfl) hle1
  ·subst q
   rw[Yc (by grind)]at hx
   simp only[Yw,Wh (WB hkl),WJ,YH,List.getElem?_cons_zero,Y1]at hx
   subst hx
   have:=hvs.2 j _ v hk hv
   cases this with
   |imm _ _ h=>cases h with|esl ad=>exact .oswv (id+1) z ad hι1
  ·rw[Yc (by grind),Yw,Wh (WB hkl),Yc (by grind),YM]at hx
   simp only[List.length_singleton]at hx
   rw[show k+1+(j-k-1)=j by omega]at hx
   exact(hvs.2 j x v hx hv).mono (fun _ x=>x) (fun _ _=>rfl) hle1
 generalize setAt cs k [AV.osw (id+1) z]=cs' at hn hcl hvs1
 obtain⟨ι',hle,hι',hinv⟩:=h1.alloc (id:=id) ⟨hid id (Yg _) (by simp[W]),by omega⟩ (.cells vs t) ⟨w.heap.size,0,cs'.length,cs'.length,1⟩ rfl (.rows false [cs']) rfl (fun _ h=>Za7 rfl h) (fun ι' hle hι'=>by
  refine .inr ⟨_,fun _=>vs.toList,hι',rfl,fun j=>⟨fun hj=>?_,fun _=>by simp⟩,⟨by simp,fun i hi=>by grind,fun i j v hi hv=>?_⟩,fun i r hr=>?_⟩
  ·simp_all
  ·simp only[List.length_singleton]at hi
   have:i=0:=by omega
   subst this;simp only[V6,YR,Zbo]
   rw[World.cell?_alloc_new]
   grind
  ·have:i=0:=by have:=Zap hr;simp at this;omega
   subst this
   simp only[List.getElem?_cons_zero,Y1]at hr
   subst hr;simp only[Yr,Y9]
   exact hvs1.mono (fun _ x=>x) (fun b hb=>Zem w _ b (h1.sb b hb)) hle)
 have e:updO (updO f.os [(id+1,some (.rows true []))]) [(id,some (.rows false [cs']))]=updO f.os [(id,some (.rows false [cs'])),(id+1,some (.rows true []))]:=by
  funext x
  simp only[updO]
 have hinv2:Inv C S ι' (fun x=>(un x∧x≠id+1)∧x≠id) {f with os:=updO f.os [(id,some (.rows false [cs'])),(id+1,some (.rows true []))]} a (w.alloc (.cells vs t)):=by
  rw[←e];exact hinv
 refine Inv.goes hn hinv2 (fun x hx=>⟨⟨hx.1,fun e=>hx.2 ⟨by omega,by subst e;simp[W]⟩⟩,fun e=>hx.2 ⟨by omega,by subst e;simp[W]⟩⟩) ?_ hd
 have:=Rep.ptr (S:=S) (w:=w.alloc (.cells vs t)) (ι:=ι') id 0 0 _ hι'
 simp_all
theorem Zrm{op:Op}{v:AV}{U:List (Nat×Option AO)}{RO:List Nat}(hop:o.op=op)(h:Inv C S ι un f a w)
 (hst:FStep P (evA C.G f.g) f.os id op v U RO) (hid:∀x,id≤x→x<id+W→un x) (hd:∀d,o.dst=some d→C.N.lo≤d∧d<C.N.n) (hn:Goes C un id o f v U next):o.wp P a w next Q:=by
 have unw:∀x,un x∧¬(id≤x∧x<id+W)→un x∧x≠id:=fun x hx=>unW hx
 have lift:∀{s:Sem Value} {v':Value} {w':World},(execOp a.eval o)=(do pure (Next.value (←s)):Sem Next)→s.run P w=.ok v' w'→(execOp a.eval o).run P w=.ok (.value v') w':=by
  intro s v' w' e h1;rw[e];simp only[Y6,h1,Result.andThen_ok,Sem.run_pure]
 cases hst with
 |look t kt m k ok ob z fs i e hm ho ht hk hr he=>
  have hmv:=h.ev m;have hkv:=h.ev k
  rw[hm]at hmv
  obtain⟨l,hl,hmm⟩:=hmv.mapo_inv
  obtain⟨l',xs,clock,hl',hheap,hxl,hF⟩:=h.ob ob _ ho
  rw[hl]at hl';injection hl' with hl';injection hl' with hl';subst hl'
  obtain⟨hki,hck,⟨d,hd'⟩,hsb⟩:=Zdv hk hkv
  obtain⟨e',hfe,her,hey⟩:=Zc5 hd' hk hkv (Zdm.ofF hF) hr
  unfold keyT at ht;split at ht
  ·rename_i kk ee hut
   injection ht with ht;subst ht
   have hfk:(Instr.findKey kk (a.eval k) xs.toList).run P w=.ok e' w:=hfe
   obtain⟨⟨j',y⟩,rfl⟩:∃p,e'=some p:=by cases e' with|none=>grind|some p=>simp
   simp only[Yq,Y1]at her;subst her
   obtain⟨x0,hx0,hy0⟩:=hey j' y rfl
   obtain⟨ι',hle,hrep,hinv⟩:=h.lend (hidW hid) ho he hl hheap (x:=x0) (by simp_all)
   have hrun:(execOp a.eval o).run P w=.ok (.value (if ok then .tuple #[y,.bool true]else y)) w:=by
    unfold execOp;rw[hop];simp only[hmm,Instr.lookup,Y6,Y5 hut,Result.andThen_ok,ZbB hheap,Sem.run_pure,hck,hfk]
   unfold Oper.wp;rw[hrun,Oper.upon_value];rw[hy0]at hrep
   refine Inv.goes hn hinv unw ?_ hd
   cases ok
   ·exact hrep
   ·exact RepL.tupr (RepL.cons hrep (RepL.cons (.imm _ _ (.bool _)) .nil))
  grind
 |peek t kt m k ob z fs hh r hm ho ht hk hr hz=>
  have hmv:=h.ev m;have hkv:=h.ev k
  rw[hm]at hmv
  obtain⟨l,hl,hmm⟩:=hmv.mapo_inv
  obtain⟨l',xs,clock,hl',hheap,hxl,hF⟩:=h.ob ob _ ho
  rw[hl]at hl';injection hl' with hl';injection hl' with hl';subst hl'
  obtain⟨hki,hck,⟨d,hd'⟩,hsb⟩:=Zdv hk hkv
  obtain⟨e',hfe,her,hey⟩:=Zc5 hd' hk hkv (Zdm.ofF hF) hr
  unfold keyT at ht;split at ht
  ·rename_i kk ee hut
   injection ht with ht;subst ht
   have hfk:(Instr.findKey kk (a.eval k) xs.toList).run P w=.ok e' w:=hfe
   have fin:∀v':Value,(execOp a.eval o).run P w=.ok (.value (.tuple #[v',.bool r.isSome])) w→o.wp P a w next Q:=fun v' hrun=>
    ZaK hn h hd hrun (RepL.tupr (RepL.cons (.imm _ _ (.undef _)) (RepL.cons (.imm _ _ (.bool _)) .nil)))
   cases e' with
   |some p=>
    obtain⟨j,y⟩:=p
    simp only[Yq]at her;subst her
    refine fin y ?_
    unfold execOp;rw[hop];simp only[hmm,Instr.lookup,Y6,Y5 hut,Result.andThen_ok,ZbB hheap,Sem.run_pure,hck,hfk];rfl
   |none=>
    simp only[Option.map_none]at her;subst her
    obtain⟨vt,zv,hvt,hz⟩:=hz
    have hvt':ee=vt:=by unfold valT at hvt;rw[hut]at hvt;simpa using hvt
    subst hvt';unfold zeroV at hz;split at hz
    ·cases hz
    ·rename_i i hi
     split at hz
     ·rename_i zv' hzv
      refine fin zv' ?_
      have hzr:(zeroValue ee).run P w=.ok zv' w:=by simp[zeroValue,typeInfo,hi,hzv]
      unfold execOp;rw[hop];simp only[hmm,Instr.lookup,Y6,Y5 hut,Result.andThen_ok,ZbB hheap,Sem.run_pure,hck,hfk,hzr];rfl
     grind
  grind
 |lookNo t kt m k ok ob z fs hh v hm ho ht hk hr hv=>
  have hmv:=h.ev m;have hkv:=h.ev k
  rw[hm]at hmv
  obtain⟨l,hl,hmm⟩:=hmv.mapo_inv
  obtain⟨l',xs,clock,hl',hheap,hxl,hF⟩:=h.ob ob _ ho
  rw[hl]at hl';injection hl' with hl';injection hl' with hl';subst hl'
  obtain⟨hki,hck,⟨d,hd'⟩,hsb⟩:=Zdv hk hkv
  obtain⟨e',hfe,her,hey⟩:=Zc5 hd' hk hkv (Zdm.ofF hF) hr
  unfold keyT at ht;split at ht
  ·rename_i kk ee hut
   injection ht with ht;subst ht
   have hfk:(Instr.findKey kk (a.eval k) xs.toList).run P w=.ok e' w:=hfe
   cases e' with
   |some p=>grind
   |none=>
    obtain⟨vt,zv,hvt,hz,hwk⟩:=hv
    have hvt':ee=vt:=by unfold valT at hvt;rw[hut]at hvt;simpa using hvt
    subst hvt';unfold zeroV at hz;split at hz
    ·cases hz
    ·rename_i i hi
     split at hz
     ·rename_i zv' hzv
      injection hz with hz;subst hz
      have hzr:(zeroValue ee).run P w=.ok zv' w:=by simp[zeroValue,typeInfo,hi,hzv]
      have hrun:(execOp a.eval o).run P w=.ok (.value (if ok then .tuple #[zv',.bool false]else zv')) w:=by
       unfold execOp;rw[hop];simp only[hmm,Instr.lookup,Y6,Y5 hut,Result.andThen_ok,ZbB hheap,Sem.run_pure,hck,hfk,hzr]
      refine ZaK hn h hd hrun ?_
      have:=hwk.rep _ (Rep.imm (S:=S) (w:=w) (ι:=ι) _ _ (Zfd zv'))
      cases ok
      ·exact this
      ·exact RepL.tupr (RepL.cons this (RepL.cons (.imm _ _ (.bool _)) .nil))
     grind
  grind
 |len x ts args t ob z fs hh ha hts ht hx ho=>
  have hxv:=h.ev x
  rw[hx]at hxv
  obtain⟨l,hl,hmm⟩:=hxv.mapo_inv
  obtain⟨l',xs,clock,hl',hheap,hxl,hF⟩:=h.ob ob _ ho
  rw[hl]at hl';injection hl' with hl';injection hl' with hl';subst hl'
  obtain⟨kt,hkt⟩:=YQ.1 ht
  unfold keyT at hkt;split at hkt
  ·rename_i kk ee hut
   have hrun:(execOp a.eval o).run P w=.ok (.value (.int .i64 fs.length)) w:=by
    unfold execOp;rw[hop]
    have hxs:(args.map a.eval)[0]? =some (.map (some l.blk)):=by simp[ha,hmm]
    simp[resolve,invoke,builtin,Builtin.len_,hts,hxs,Y5 hut,goInt,ZbB hheap,hF.1]
   exact ZaK hn h hd hrun (.imm _ _ (.int _ _))
  grind
 |mk t z hk=>
  have hrun:(execOp a.eval o).run P w=.ok (.value (.map (some w.heap.size))) (w.alloc (.map #[] 0)):=by
   unfold execOp;rw[hop];simp only[Instr.makeMap,Option.map_none,Y6,Sem.run_pure,run_newObj,Result.andThen_ok];rfl
  unfold Oper.wp;rw[hrun,Oper.upon_value]
  have hh:(w.alloc (.map #[] 0)).heap[w.heap.size]? =some (.map #[] 0):=by show(w.heap.push _)[w.heap.size]? =_;simp
  obtain⟨ι',hle,hι',hinv⟩:=h.alloc (hidW hid) (.map #[] 0) ⟨w.heap.size,0,0,0,0⟩ rfl (.fmap z [] none) rfl (fun b hb=>by
   rcases hb with hb|⟨xs,c,i,e,h1,h2,_⟩
   all_goals simp_all) (fun ι' hle hι'=>
   ⟨_,#[],0,hι',hh,⟨by simp,Zjk⟩,rfl,fun i e x h=>by simp at h,fun i j x y b h=>by simp at h⟩)
  exact Inv.goes hn hinv unw (.mapo id _ hι') hd
 |upd _ t kt m k x hop' ob z q fs hh r rs hm ho ht hk hr hho hlim hx hq hlw hz0 hne=>
  have hmv:=h.ev m;have hkv:=h.ev k;have hxv:=h.ev x
  rw[hm]at hmv;rw[hx]at hxv
  obtain⟨l,hl,hmm⟩:=hmv.mapo_inv
  obtain⟨l',xs,clock,hl',hheap,hxl,hF⟩:=h.ob ob _ ho
  rw[hl]at hl';injection hl' with hl';injection hl' with hl';subst hl'
  obtain⟨hki,hck,⟨d,hd'⟩,hsb⟩:=Zdv hk hkv
  obtain⟨e',hfe,her,hey⟩:=Zc5 hd' hk hkv (Zdm.ofF hF) hr
  obtain⟨hV,hVb⟩:=ListV.of hz0 hlw hxv (h.ob q _ hq)
  unfold keyT at ht;split at ht
  ·rename_i kk ee hut
   injection ht with ht;subst ht
   have hfk:(Instr.findKey kk (a.eval k) xs.toList).run P w=.ok e' w:=hfe
   have hex:(execOp a.eval o)=(do Instr.mapUpdate t (a.eval m) (a.eval k) (a.eval x);pure .skip:Sem Next):=by
    unfold execOp;rw[hop];rcases hop' with rfl|rfl<;>rfl
   cases r with
   |none=>
    have he:e'=none:=by cases e' with|none=>rfl|some p=>grind
    subst he
    have hrun:(execOp a.eval o).run P w=.ok .skip {w with heap:=w.heap.setIfInBounds l.blk (.map (xs.push {key:=a.eval k,val:=a.eval x,born:=clock}) (clock+1))}:=by
     rw[hex,hmm];simp only[Instr.mapUpdate,Y6,Y5 hut,Result.andThen_ok,ZbB hheap,hck,hfk,Zex _ hheap,Sem.run_pure]
    unfold Oper.wp;rw[hrun,Oper.upon_skip]
    have hh0:hh=none:=by
     rcases hho with h|⟨i,q,_,h⟩
     ·exact h
     ·cases h
    subst hh0
    have hinv:=h.fput ho hl hheap hq hne hV hVb fs.length (evA C.G f.g k) {key:=a.eval k,val:=a.eval x,born:=clock} (putF fs none (evA C.G f.g k) rs)
     (xs':=xs.push {key:=a.eval k,val:=a.eval x,born:=clock}) (clock':=clock+1) (by simp[putF,hF.1]) ⟨by simp only[Array.size_push];have:=hF.1;omega,Zjj hxl.2 (Zk0 hr (Zdm.ofF hF) hkv)⟩
     (by simp[putF]) (by rw[hF.1];simp) rfl hki (fun i hi=>⟨by
      simp only[putF]
      grind,by
      rw[V2]
      split
      ·rename_i e;exact absurd (e.trans hF.1.symm) hi
      ·rfl,by simp⟩)
    exact Inv.goes hn hinv (fun x hx=>hx.1) (.imm _ _ (.undef _)) hd
   |some j=>
    obtain⟨⟨j',y⟩,rfl⟩:∃p,e'=some p:=by cases e' with|none=>grind|some p=>simp
    simp only[Yq,Y1]at her;subst her
    obtain⟨x0,hx0,hy0⟩:=hey j' y rfl
    obtain⟨_,e0,he0,hke⟩:=Zk1 _ 0 _ hr j' rfl
    rw[Nat.sub_zero]at he0
    have hsbk:=ZkV hke hkv ((Zdm.ofF hF).2 j' e0 x0 he0 hx0).1
    have hxj:xs[j']? =some x0:=by rw[←Wg];exact hx0
    have hrun:(execOp a.eval o).run P w=.ok .skip {w with heap:=w.heap.setIfInBounds l.blk (.map (xs.modify j' fun e=>{e with key:=a.eval k,val:=a.eval x}) clock)}:=by
     rw[hex,hmm];simp only[Instr.mapUpdate,Y6,Y5 hut,Result.andThen_ok,ZbB hheap,hck,hfk,hxj,Yq,Yu,Instr.keyThatStays,hsbk,Yh,Zex _ hheap,Sem.run_pure]
    unfold Oper.wp;rw[hrun,Oper.upon_skip]
    have hjl:j'<fs.length:=by rw[hF.1];exact(Wm.1 hxj).1
    have hinv:=h.fput ho hl hheap hq hne hV hVb j' (evA C.G f.g k) {x0 with key:=a.eval k,val:=a.eval x} (putF fs (some j') (evA C.G f.g k) rs)
     (xs':=xs.modify j' fun e=>{e with key:=a.eval k,val:=a.eval x}) (clock':=clock) (by simp[putF,hF.1]) ⟨by simpa using hxl.1,Zky hxl.2 hxj (ZpM hke hkv ((Zdm.ofF hF).2 j' e0 x0 he0 hx0).1)⟩
     (by simp[putF,hjl]) (by grind) rfl hki (fun i hi=>⟨by
      simp only[putF]
      grind,by
      grind,by
      rcases hho with h|⟨i0,q0,h1,h2⟩
      all_goals grind⟩)
    exact Inv.goes hn hinv (fun x hx=>hx.1) (.imm _ _ (.undef _)) hd
  grind
 |del t tk kt m k ob z fs hh r hm ho ht hk hr hho=>
  have hmv:=h.ev m;have hkv:=h.ev k
  rw[hm]at hmv
  obtain⟨l,hl,hmm⟩:=hmv.mapo_inv
  obtain⟨l',xs,clock,hl',hheap,hxl,hF⟩:=h.ob ob _ ho
  rw[hl]at hl';injection hl' with hl';injection hl' with hl';subst hl'
  obtain⟨hki,hck,⟨d,hd'⟩,hsb⟩:=Zdv hk hkv
  obtain⟨e',hfe,her,hey⟩:=Zc5 hd' hk hkv (Zdm.ofF hF) hr
  unfold keyT at ht;split at ht
  ·rename_i kk ee hut
   injection ht with ht;subst ht
   have hfk:(Instr.findKey kk (a.eval k) xs.toList).run P w=.ok e' w:=hfe
   cases r with
   |none=>
    have he:e'=none:=by cases e' with|none=>rfl|some p=>grind
    subst he
    have hrun:(execOp a.eval o).run P w=.ok (.value (.tuple #[])) {w with heap:=w.heap.setIfInBounds l.blk (.map xs clock)}:=by
     unfold execOp;rw[hop];simp[resolve,invoke,builtin,Builtin.delete_,Y5 hut,hmm,ZbB hheap,hck,hfk,Zex _ hheap]
    unfold Oper.wp;rw[hrun,Oper.upon_value]
    have hh0:hh=none:=by
     rcases hho with h|⟨i,q,_,h⟩
     ·exact h
     ·cases h
    subst hh0
    have hinv:=h.fsub ho hl hheap (delF fs none) (fun i=>i) (fun _ _ e=>e) (xs':=xs) (clock':=clock) hF.1 hxl (fun i=>⟨rfl,rfl,by simp⟩)
    exact Inv.goes hn hinv (fun x hx=>hx.1) (.tup [] #[] rfl (fun j x v h=>by simp at h)) hd
   |some j=>
    obtain⟨⟨j',y⟩,rfl⟩:∃p,e'=some p:=by cases e' with|none=>grind|some p=>simp
    simp only[Yq,Y1]at her;subst her
    obtain⟨x0,hx0,hy0⟩:=hey j' y rfl
    have hjl:j'<xs.size:=by have:=Zap hx0;simpa using this
    have hrun:(execOp a.eval o).run P w=.ok (.value (.tuple #[])) {w with heap:=w.heap.setIfInBounds l.blk (.map (xs.eraseIdxIfInBounds j') clock)}:=by
     unfold execOp;rw[hop];simp[resolve,invoke,builtin,Builtin.delete_,Y5 hut,hmm,ZbB hheap,hck,hfk,Zex _ hheap]
    unfold Oper.wp;rw[hrun,Oper.upon_value]
    have hxe:xs.eraseIdxIfInBounds j'=xs.eraseIdx j' hjl:=by simp[Array.eraseIdxIfInBounds,hjl]
    have hinv:=h.fsub ho hl hheap (delF fs (some j')) (fun i=>if i<j' then i else i+1) (fun i j e=>by
     grind) (xs':=xs.eraseIdxIfInBounds j') (clock':=clock)
     (by rw[hxe];simp[delF,List.length_eraseIdx,hF.1,hjl]) (by rw[hxe];exact⟨by have:=hxl.1;grind,Zlg hxl.2 hjl⟩) (fun i=>⟨by
      simp only[delF]
      grind,by
      grind,by
      rcases hho with h|⟨i0,q0,h1,h2⟩
      all_goals grind⟩)
    exact Inv.goes hn hinv (fun x hx=>hx.1) (.tup [] #[] rfl (fun j x v h=>by simp at h)) hd
  grind
 |copy t ts d s ob off len p rs q sz ho hdst hs ht hr hr'=>
  have hdv:=h.ev d;have hsv:=h.ev s
  obtain⟨e,i,zv,ht',hi,_,_,hsz,_⟩:=Zfx ht
  obtain⟨k,hk⟩:∃k,k=min len q.2.1.length:=⟨_,rfl⟩
  obtain⟨us,hF,hsr⟩:=ZlX (P:=P) (p:=q.1) (rs:=q.2.1) (ro:=q.2.2) h.ob hsv hs hr' k (by omega)
  obtain⟨dv,cap,hdval,hplace⟩:∃dv cap,a.eval d=.slice dv len cap∧off+len≤rs.length∧((∃l,ι ob=some (some l)∧len≤cap∧l.cnt=rs.length∧(cap≠0→dv=some ⟨l.blk,l.base+off*l.esz,none⟩))∨len=0):=by
   have hcnt:∀l,ι ob=some (some l)→l.cnt=rs.length:=fun l hl=>by
    rcases h.ob ob _ ho with ⟨g,_⟩|⟨l',vals,g,hc,_⟩
    all_goals simp_all
   rcases hdst with ⟨z,hd',rfl,rfl⟩|⟨room,hd',hroom⟩
   ·rw[hd']at hdv
    rcases ZcP hdv with ⟨l,ad,cap,hlo,hv,h2,h3,h4,hz,ha⟩|⟨hlo,ad,hv⟩
    ·grind
    ·have:rs=[]:=by
      rcases h.ob ob _ ho with ⟨_,h⟩|⟨l',vals,g,_⟩
      ·exact h
      ·simp_all
     simp_all
   ·rw[hd']at hdv
    rcases Zil hdv with ⟨l,ad,cap,hlo,hv,h1,h2,h3,h4,h5,ha⟩|⟨hlo,rfl,rfl,rfl,ad,hv⟩
    all_goals grind
  obtain⟨hfit,hplace⟩:=hplace
  have hlen:=hsr.len w
  have hcl:=hsr.cells w rfl
  have hmin:Nat.min q.2.1.length len=k:=by rw[hk];exact Nat.min_comm _ _
  rw[←hk]at hn
  have same:∀{p':Bool},k=0→ObjOk S w ι ob (.rows p' rs)→Inv C S ι un {f with os:=updO f.os [(ob,some (.rows p' (rs.take off++(q.2.1.take k++rs.drop (off+k)))))]} a w:=by
   intro p' hk0 hob
   have e1:rs.take off++(q.2.1.take k++rs.drop (off+k))=rs:=by rw[hk0];simp
   rw[e1]
   refine h.turn (fun _ x=>x) (fun _ _=>rfl) (Imap.le_refl _) (fun k2 y hy=>?_) (fun k2 y hy hly l2 hl2 b hb=>?_) (fun k1 k2 y1 y2 hy1 hy2 hv1 hv2 l1 l2 e1 e2 b hb1 hb2=>?_) h.sb h.sn h.un h.fr
   ·simp only[updO]at hy
    by_cases e:k2=ob
    ·simp_all
    ·rw[if_neg e]at hy;exact h.ob k2 y hy
   ·simp only[updO]at hy
    by_cases e:k2=ob
    ·rw[if_pos e]at hy;injection hy with hy;subst hy;subst e
     have hb':=Za7 rfl hb
     exact h.own k2 _ ho rfl l2 hl2 b (.inl hb')
    ·rw[if_neg e]at hy;exact h.own k2 y hy hly l2 hl2 b hb
   ·have tr:∀k2 y,updO f.os [(ob,some (.rows p' rs))] k2=some y→y.live=true→∀l2 b,foot w y l2 b→∃y',f.os k2=some y'∧y'.live=true∧foot w y' l2 b:=by
     intro k2 y hy hv l2 b hb;simp only[updO]at hy
     by_cases e:k2=ob
     ·rw[if_pos e]at hy;injection hy with hy;subst hy;subst e
      exact⟨_,ho,rfl,.inl (Za7 rfl hb)⟩
     ·simp_all
    obtain⟨z1,g1,g2,g3⟩:=tr k1 y1 hy1 hv1 l1 b hb1
    obtain⟨z2,j1,j2,j3⟩:=tr k2 y2 hy2 hv2 l2 b hb2
    exact h.inj k1 k2 z1 z2 g1 j1 g2 j2 l1 l2 e1 e2 b g3 j3
  have weak:ObjOk S w ι ob (.rows (p&&q.1) rs):=by
   rcases h.ob ob _ ho with ⟨g,g2⟩|⟨l,vals,g,g2,g3,g4,g5⟩
   ·exact .inl ⟨g,g2⟩
   ·refine .inr ⟨l,vals,g,g2,g3,g4,fun j r hr=>?_⟩
    have:=g5 j r hr
    cases p
    ·simp_all
    ·simp only[Yh]at this
     cases q.1
     ·simp only[Bool.and_false,Yr,Y9];exact this.rep
     simp_all
  by_cases hk0:k=0
  ·have hus:us=[]:=by
    have:=hF.len
    rw[hk0]at this
    exact Yt.1 (by grind)
   have hrun:(execOp a.eval o).run P w=.ok (.value (.int .i64 (k:Nat))) w:=by
    unfold execOp;rw[hop];subst hus
    cases dv with
    |none=>simp[resolve,invoke,builtin,Builtin.copy_,Y5 ht',hdval,hlen,sizeOf,typeInfo,hi,hmin,hsz,hcl,goInt]
    |some ad=>simp[storeCells,resolve,invoke,builtin,Builtin.copy_,Y5 ht',hdval,hlen,sizeOf,typeInfo,hi,hmin,hsz,hcl,goInt]
   unfold Oper.wp;rw[hrun,Oper.upon_value]
   exact Inv.goes hn (same hk0 weak) (fun x hx=>hx.1) (.imm _ _ (.int _ _)) hd
  ·rcases hplace with ⟨l,hlo,hlc,hcnt,hadr⟩|h0
   ·obtain rfl:=hadr (by omega)
    rcases h.ob ob _ ho with ⟨g,_⟩|⟨l',vals,g,hc,hm,hat,hrep⟩
    ·simp_all
    ·rw[g]at hlo;injection hlo with hlo;injection hlo with hlo;subst hlo
     have hez:l'.esz=sz:=by
      obtain⟨r,hrr⟩:∃r,rs[0]? =some r:=⟨_,Y3 (by omega)⟩
      have g1:=hat.2.1 0 (by omega)
      have g2:=(hrep.get hrr).1
      have g3:=hr r (YA hrr)
      omega
     have hkl:(q.2.1.take k).length=k:=by simp;omega
     have husl:us.length=k*l'.esz:=by rw[hF.len,hkl,hez]
     have hsize:(off+k)*l'.esz≤rs.length*l'.esz:=Yo _ (by omega)
     rw[YT]at hsize
     have hat1:=hat.1
     have hst:=WY (P:=P) l'.blk (l'.base+off*l'.esz) us 0 w (fun j hj=>by
      obtain⟨u,hu⟩:=(hm (l'.base+off*l'.esz+j)).1 (by omega)
      grind) (fun j hj=>by
      simp only[Nat.add_zero]
      exact(hm (l'.base+off*l'.esz+j)).2 (.inl (by omega))) hF.one
     simp only[Nat.add_zero]at hst
     have hrun:(execOp a.eval o).run P w=.ok (.value (.int .i64 (k:Nat))) (w.setCells l'.blk (l'.base+off*l'.esz) us):=by
      unfold execOp;rw[hop];simp[resolve,invoke,builtin,Builtin.copy_,Y5 ht',hdval,hlen,sizeOf,typeInfo,hi,hmin,hsz,hcl,hst,goInt]
     unfold Oper.wp;rw[hrun,Oper.upon_value]
     have hinv:=h.writes ho rfl g (x':=.rows (p&&q.1) (rs.take off++(q.2.1.take k++rs.drop (off+k)))) rfl (l'.base+off*l'.esz) us (fun hw=>by
      obtain⟨A,hA,hAc⟩:=ZiQ hat hrep 0 off (by omega)
      obtain⟨B,hB,hBc⟩:=ZiQ hat hrep (off+k) (rs.length-(off+k)) (by omega)
      rw[V9]at hA
      have hB2:(rs.drop (off+k)).take (rs.length-(off+k))=rs.drop (off+k):=YS (by simp)
      rw[hB2]at hB
      have hAl:A.length=off*l'.esz:=by rw[hA.len,Yw,Wh (by omega)]
      have hF':Flat q.1 S w ι l'.esz (q.2.1.take k) us:=by rw[hez];exact hF
      have hall:=(hA.append (hF'.append hB)).mono (fun _ x=>x) hw (Imap.le_refl _)
      have hlen':(rs.take off++(q.2.1.take k++rs.drop (off+k))).length=rs.length:=by simp;omega
      have hcell:∀(j:Nat) v,(A++(us++B))[j]? =some v→Zbo (w.setCells l'.blk (l'.base+off*l'.esz) us) l'.blk (l'.base+j)=some v:=by
       intro j v hv
       rcases YX j A.length with hj|hj
       ·rw[Yn hj]at hv
        have:=hAc j v hv
        simp only[V6,Nat.add_zero]at this
        show(w.setCells l'.blk (l'.base+off*l'.esz) us).cell? _=some v
        rw[Wa l'.blk us _ w _ (fun _ _=>by grind)]
        exact this
       ·rw[Yc hj]at hv
        rcases YX (j-A.length) us.length with hj2|hj2
        ·rw[Yn hj2]at hv
         have:=Wy l'.blk us (l'.base+off*l'.esz) w (fun q hq=>by
          obtain⟨u,hu⟩:=(hm (l'.base+off*l'.esz+q)).1 (by omega)
          grind) (j-A.length) hj2
         grind
        ·rw[Yc hj2]at hv
         have:=hBc (j-A.length-us.length) v hv
         rw[show l'.base+(off+k)*l'.esz+(j-A.length-us.length)=l'.base+j by grind]at this
         show(w.setCells l'.blk (l'.base+off*l'.esz) us).cell? _=some v
         rw[Wa l'.blk us _ w _ (fun _ _=>by grind)]
         exact this
      have e1:(p&&(q.1&&p))=(p&&q.1):=by cases p<;>cases q.1<;>rfl
      rw[e1]at hall
      exact .inr ⟨l',_,g,by omega,hm.setCells _ _,hall.at hcell (by grind),hall.rows⟩)
     exact Inv.goes hn hinv (fun x hx=>hx.1) (.imm _ _ (.int _ _)) hd
   omega
 |delM t tk kt m k ob p es r hm ho ht hk hr=>
  have hmv:=h.ev m;have hkv:=h.ev k
  rw[hm]at hmv
  obtain⟨l,hl,hmm⟩:=hmv.mapo_inv
  obtain⟨l',xs,clock,hl',hheap,hmr,hxl⟩:=h.ob ob _ ho
  rw[hl]at hl';injection hl' with hl';injection hl' with hl';subst hl'
  obtain⟨hki,hck,⟨d,hd'⟩,hsb⟩:=Zdv hk hkv
  obtain⟨e',hfe,her,hey⟩:=Zc5 hd' hk hkv hmr hr
  unfold keyT at ht;split at ht
  ·rename_i kk ee hut
   injection ht with ht;subst ht
   have hfk:(Instr.findKey kk (a.eval k) xs.toList).run P w=.ok e' w:=hfe
   cases r with
   |none=>
    have he:e'=none:=by cases e' with|none=>rfl|some p=>grind
    subst he
    have hrun:(execOp a.eval o).run P w=.ok (.value (.tuple #[])) {w with heap:=w.heap.setIfInBounds l.blk (.map xs clock)}:=by
     unfold execOp;rw[hop];simp[resolve,invoke,builtin,Builtin.delete_,Y5 hut,hmm,ZbB hheap,hck,hfk,Zex _ hheap]
    unfold Oper.wp;rw[hrun,Oper.upon_value]
    have hinv:=h.sets ho hl (p':=p) (es':=delE es none) (xs':=xs) (clock':=clock) hxl (fun hw=>hmr.mono (fun _ x=>x) hw (Imap.le_refl _))
    exact Inv.goes hn hinv (fun x hx=>hx.1) (.tup [] #[] rfl (fun j x v h=>by simp at h)) hd
   |some j=>
    obtain⟨⟨j',y⟩,rfl⟩:∃p,e'=some p:=by cases e' with|none=>grind|some p=>simp
    simp only[Yq,Y1]at her;subst her
    obtain⟨x0,hx0,hy0⟩:=hey j' y rfl
    have hjl:j'<xs.size:=by have:=Zap hx0;simpa using this
    have hrun:(execOp a.eval o).run P w=.ok (.value (.tuple #[])) {w with heap:=w.heap.setIfInBounds l.blk (.map (xs.eraseIdxIfInBounds j') clock)}:=by
     unfold execOp;rw[hop];simp[resolve,invoke,builtin,Builtin.delete_,Y5 hut,hmm,ZbB hheap,hck,hfk,Zex _ hheap]
    unfold Oper.wp;rw[hrun,Oper.upon_value]
    have hxe:xs.eraseIdxIfInBounds j'=xs.eraseIdx j' hjl:=by simp[Array.eraseIdxIfInBounds,hjl]
    have hinv:=h.sets ho hl (p':=p) (es':=delE es (some j')) (xs':=xs.eraseIdxIfInBounds j') (clock':=clock) (by grind) (fun hw=>by
     have hmr':=hmr.mono (fun _ x=>x) hw (Imap.le_refl _)
     have hxl2:(xs.eraseIdxIfInBounds j').toList=xs.toList.eraseIdx j':=by rw[hxe,Array.toList_eraseIdx]
     rw[hxl2]
     have hl0:=hmr.1
     have hjl2:j'<xs.toList.length:=by simpa using hjl
     refine⟨by simp only[delE];grind,fun i e x h1 h2=>?_⟩
     simp only[delE]at h1
     rw[List.getElem?_eraseIdx]at h1 h2
     by_cases hi:i<j'
     ·rw[if_pos hi]at h1 h2;exact hmr'.2 i e x h1 h2
     ·rw[if_neg hi]at h1 h2;exact hmr'.2 (i+1) e x h1 h2)
    exact Inv.goes hn hinv (fun x hx=>hx.1) (.tup [] #[] rfl (fun j x v h=>by simp at h)) hd
  grind
 |nilqW t t' e x ob z p rs hx ho ht=>
  have hv:=h.ev x
  rw[hx]at hv
  obtain⟨ad,len,cap,hvv,hp⟩:∃ad len cap,a.eval x=.slice ad len cap∧(ad.isNone=true→rs=[]):=by
   rcases ZcP hv with ⟨l,ab,cap,q,hvv,_⟩|⟨q,ab,hvv⟩
   ·simp_all
   ·refine⟨_,_,_,hvv,fun _=>?_⟩
    rcases h.ob ob _ ho with ⟨_,h⟩|⟨l,vals,q',_⟩
    all_goals simp_all
  refine ZaK hn h hd (v':=.bool ad.isNone) (lift (by unfold execOp;rw[hop]) ?_) (.imm _ _ (.anyb _ _ hp))
  rw[hvv]
  simp only[show a.eval (.const (.slice none 0 0))=.slice none 0 0 from rfl,eqGuard_at_slice,Y6,Sem.run_pure,Result.andThen_ok]
  exact run_eql_slice_nil w t e ad len cap ht
 |clr t x ob off len room p rs z sz hx ho ht hz hr hbr=>
  have hv:=h.ev x
  rw[hx]at hv
  have same:∀{rs'},rs'=rs→({f with os:=updO f.os [(ob,some (.rows p rs'))]}:FS)=f:=fun e=>by
   rw[e]
   have:updO f.os [(ob,some (AO.rows p rs))]=f.os:=by
    funext k
    simp only[updO]
    by_cases e:k=ob
    ·simp_all
    ·grind
   rw[this]
  obtain⟨e,i,zv,ht',hi,hzv,hb,hsz,hzs,hzl,hzr,hza⟩:=Zhq (S:=S) (w:=w) hz ht
  by_cases hl0:len=0
  ·subst hl0
   have hrun:(execOp a.eval o).run P w=.ok (.value (.tuple #[])) w:=by
    obtain⟨ad,cap,hvv⟩:∃ad cap,a.eval x=.slice ad 0 cap:=by
     generalize a.eval x=v' at hv
     cases hv with
     |imm _ _ hh=>cases hh
     |osl=>simp
     |oslv=>simp
    unfold execOp;rw[hop]
    cases ad with
    |none=>simp[resolve,invoke,builtin,Builtin.clear_,Y5 ht',hvv]
    |some ad=>simp[resolve,invoke,builtin,Builtin.clear_,Y5 ht',hvv]
   unfold Oper.wp;rw[hrun,Oper.upon_value]
   refine Inv.goes hn (S':=S) (ι':=ι) (un':=un) ?_ (fun x hx=>hx.1) (.tup [] #[] rfl (fun j x v h=>by simp at h)) hd
   simp_all
  ·obtain⟨ad,cap,l,hvv,hlo,h1,h2,h3,h4,h5,ha⟩:∃ad cap l,a.eval x=.slice (some ad) len cap∧ι ob=some (some l)∧len≤room∧room≤cap∧l.base+(off+cap)*l.esz≤l.size∧len≤LIM∧off+room≤l.cnt∧
    (cap≠0→ad=⟨l.blk,l.base+off*l.esz,none⟩):=by
    generalize a.eval x=v' at hv
    cases hv with
    |imm _ _ hh=>cases hh
    |osl _ _ _ _ cap a l g g1 g2 g3 g4 g5 ga=>grind
    |oslv=>omega
   have hadd:=ha (by omega)
   subst hadd
   rcases h.ob ob _ ho with ⟨q,_⟩|⟨l',vals,q,hcnt,hm,hat,hrep⟩
   ·simp_all
   ·rw[q]at hlo;injection hlo with hlo;injection hlo with hlo;subst hlo
    have hez:l'.esz=sz:=by
     obtain⟨r,hrr⟩:∃r,rs[0]? =some r:=⟨_,Y3 (by omega)⟩
     have g1:=hat.2.1 0 (by omega)
     have g2:=(hrep.get hrr).1
     have g3:=hr r (YA hrr)
     omega
    have hzc:(Builtin.zeroCells zv.cells len).toList=(List.replicate len zv.cells.toList).flatten:=by
     have:=ZiK zv.cells len
     exact this
    have hone:∀v,v∈(List.replicate len zv.cells.toList).flatten→v.oneCell'=true:=by
     intro v hv;simp only[List.mem_flatten,List.mem_replicate]at hv
     obtain⟨l,⟨_,rfl⟩,hv⟩:=hv
     exact Zly hzr hza v hv
    have hfl:(List.replicate len zv.cells.toList).flatten.length=len*sz:=by simp[hzs]
    have hsize:(off+len)*l'.esz≤rs.length*l'.esz:=Yo _ (by omega)
    rw[YT,hez]at hsize
    have hat1:=hat.1
    rw[hez]at hat1
    have hst:=WY (P:=P) l'.blk (l'.base+off*l'.esz) (List.replicate len zv.cells.toList).flatten 0 w (fun j hj=>by
     obtain⟨u,hu⟩:=(hm (l'.base+off*l'.esz+j)).1 (by grind)
     simp_all) (fun j hj=>by
     simp only[Nat.add_zero]
     exact(hm (l'.base+off*l'.esz+j)).2 (.inl (by grind))) hone
    simp only[Nat.add_zero]at hst
    obtain⟨m,hm'⟩:∃m,len=m+1:=⟨len-1,by omega⟩
    have hrun:(execOp a.eval o).run P w=.ok (.value (.tuple #[])) (w.setCells l'.blk (l'.base+off*l'.esz) (List.replicate len zv.cells.toList).flatten):=by
     unfold execOp;rw[hop];subst hm';simp[resolve,invoke,builtin,Builtin.clear_,Y5 ht',hvv,zeroValue,typeInfo,hi,hzv,hzc,hst]
    unfold Oper.wp;rw[hrun,Oper.upon_value]
    have hinv:=h.writes ho rfl q (x':=.rows p (rs.take off++(List.replicate len z++rs.drop (off+len)))) rfl (l'.base+off*l'.esz) (List.replicate len zv.cells.toList).flatten (fun hw=>
     Zo9 q hcnt hm hat hrep hzr (Zly hzr hza) (by simp_all) (by omega) hw)
    exact Inv.goes hn hinv (fun x hx=>hx.1) (.tup [] #[] rfl (fun j x v h=>by simp at h)) hd
 |litS t len parts z cs ht hz hlim hlim2 hpos hcl hall hfr hf=>
  obtain⟨e,i,zv,ht',hi,hzv,hb,hsz,hzs,hzl,hzr,hza⟩:=Zhq (S:=S) (w:=w) hz ht
  obtain⟨cells',w1',h1,_,hrun⟩:=ZsI hop h ht hz hlim hcl hall hf
  obtain⟨c1,c2,c3⟩:=ZnW 1 len cs hcl
  have hF:Flat true S w ι 1 (chunk 1 len cs) cells'.toList:=by
   refine⟨c2,by rw[←h1.1,hcl,c3],ZfF h1 hall,?_⟩
   rw[c1];simpa[RepP]using h1.free hfr
  unfold Oper.wp;rw[hrun,Oper.upon_value]
  have hcell:∀(j:Nat) v,cells'.toList[j]? =some v→Zbo (w.alloc (.cells cells' w1' (0,0))) w.heap.size (0+j)=some v:=by
   intro j v hv;simp only[Zbo,YR]
   rw[ZlJ,←Wg]
   exact hv
  have hcs:cells'.size=len:=by have:=h1.1;simp only[Array.length_toList]at this;omega
  obtain⟨ι',hle,hι',hinv⟩:=h.alloc (hidW hid) (.cells cells' w1' (0,0)) ⟨w.heap.size,0,1,cells'.size,(chunk 1 len cs).length⟩ rfl (.lit (chunk 1 len cs)) rfl (fun _ h=>Za7 rfl h) (fun ι' hle hι'=>by
   have hF':Flat true S (w.alloc (.cells cells' w1' (0,0))) ι' 1 (chunk 1 len cs) cells'.toList:=hF.mono (fun _ x=>x) (fun b hb=>Zem w _ b (h.sb b hb)) hle
   have hA:=Flat.at (l:=⟨w.heap.size,0,1,cells'.size,(chunk 1 len cs).length⟩) hF' hcell (by simp_all)
   exact⟨_,_,hι',⟨cells',w1',by show(w.heap.push _)[w.heap.size]? =_;simp,rfl⟩,rfl,by omega,rfl,hA,hF'.rows⟩)
  refine Inv.goes hn hinv (fun x hx=>unW hx) ?_ hd
  rw[←c3]
  exact Rep.osw id 1 (chunk 1 len cs).length _ _ hι' (Yg _) (by simp_all) (by simp_all) (fun h0 _=>rfl) (fun _=>rfl)
 |allocV t cs k z hz hk=>
  obtain⟨zv,h1,h2,h3⟩:=ZlO (w:=w) (S:=S) (ι:=ι) hz
  refine Zqm hk hn h hd hid rfl h2 h3 (t:=t) ?_
  refine lift (by unfold execOp;rw[hop]) ?_
  simp only[Instr.alloc,Y6,h1,Result.andThen_ok,newVar,newRow,run_newObj,Sem.run_pure,World.alloc]
 |boxV t x cs k z hc hk=>
  obtain⟨h2,h3⟩:=ZeD hc (h.ev x)
  refine Zqm hk hn h hd hid rfl h2 (ZfF h2 h3) (t:=t) ?_
  refine lift (by unfold execOp;rw[hop]) ?_
  rfl
 |buildV t parts cs k z hb hk=>
  obtain⟨v',h1,h2⟩:=ZnZ (P:=P) (w:=w) h.ev hb
  obtain⟨vs,rfl,hvl,hvr⟩:=h2.agg_inv
  obtain⟨ι1,hle1,hι1,hv1⟩:=h.void (id:=id) (hid id (Yg _) (by simp[W])) true
  have hkl:=Zap hk
  have hcl:(setAt cs k [AV.osw id z]).length=cs.length:=Zc8 _ _ _ (by grind)
  have hvs1:RepL S w ι1 (setAt cs k [.osw id z]) vs.toList:=by
   refine⟨by omega,fun j x v hx hv=>?_⟩
   unfold setAt at hx
   rcases WR j k with q|q|q
   ·rw[Yn (by grind),W7,if_pos q]at hx
    exact(hvr j x v hx hv).mono (fun _ x=>x) (fun _ _=>rfl) hle1
   ·subst q
    rw[Yc (by grind)]at hx
    simp only[Yw,Wh (WB hkl),WJ,YH,List.getElem?_cons_zero,Y1]at hx
    subst hx
    have:=hvr j _ v hk hv
    cases this with
    |imm _ _ h=>cases h with|esl ad=>exact .oswv id z ad hι1
   ·rw[Yc (by grind),Yw,Wh (WB hkl),Yc (by grind),YM]at hx
    simp only[List.length_singleton]at hx
    rw[show k+1+(j-k-1)=j by omega]at hx
    exact(hvr j x v hx hv).mono (fun _ x=>x) (fun _ _=>rfl) hle1
  have hrun:(execOp a.eval o).run P w=.ok (.value (.agg vs)) w:=by
   refine lift (by unfold execOp;rw[hop]) ?_
   simpa using h1
  unfold Oper.wp;rw[hrun,Oper.upon_value]
  exact Inv.goes hn hv1 (fun x hx=>unw x hx) hvs1.agg hd
 |cnv s d x ob rs hx ho ht=>
  obtain⟨rfl,e,hs,he⟩:=Zrr ht
  have hv:=h.ev x
  rw[hx]at hv
  obtain⟨l,vals,hl,⟨c,ce,hheap,hsz⟩,hesz,hpos,hcnt,hat,hrep⟩:=h.ob ob _ ho
  rcases ZcP hv with ⟨l',ad,cap,q,hvv,g1,g2,g3,g4,ga⟩|⟨q,ab,hvv⟩
  ·rw[hl]at q;injection q with q;injection q with q;subst q
   have had:=ga (by omega)
   subst had
   have hrun:(execOp a.eval o).run P w=.ok (.value (.slice (some ⟨l.blk,l.base,none⟩) l.cnt cap)) (w.freeze ⟨l.blk,c.size,none⟩ 1):=by
    have hsh:w.shape? l.blk=some (ce,c.size):=by unfold World.shape?;rw[hheap]
    unfold execOp;rw[hop];simp[hvv,convert,Y5 hs,Y5 he,markStringish,hsh]
   unfold Oper.wp;rw[hrun,Oper.upon_value]
   have hnew:(w.freeze ⟨l.blk,c.size,none⟩ 1).heap[l.blk]? =some (.cells c ce (c.size,c.size+1)):=by
    unfold World.freeze
    rw[if_neg (by decide)]
    simp only[Vl,hheap]
    simp
   have hoth:∀b,b≠l.blk→(w.freeze ⟨l.blk,c.size,none⟩ 1).heap[b]? =w.heap[b]? :=by
    intro b hb;unfold World.freeze
    rw[if_neg (by decide)]
    simp only[Vl]
    rw[if_neg (fun e=>hb e.symm)]
   have hwsz:(w.freeze ⟨l.blk,c.size,none⟩ 1).heap.size=w.heap.size:=by
    unfold World.freeze
    rw[if_neg (by decide)]
    simp
   have hcell:∀j,Zbo (w.freeze ⟨l.blk,c.size,none⟩ 1) l.blk j=Zbo w l.blk j:=by
    intro j;simp only[Zbo,World.cell?,hnew,hheap]
   have hinv:=h.changes (w':=w.freeze ⟨l.blk,c.size,none⟩ 1) ho rfl hl (x':=.rows true rs) rfl (by rfl) (by rfl) hwsz hoth (fun hw=>by
    refine .inr ⟨l,vals,hl,hcnt,fun j=>⟨fun hj=>?_,fun hj=>?_⟩,⟨hat.1,hat.2.1,fun i j v hi hv=>by rw[hcell];exact hat.2.2 i j v hi hv⟩,hrep.mono (fun _ x=>x) hw (Imap.le_refl _)⟩
    ·rw[hcell];exact(ZjO.mine ⟨c,ce,hheap,hsz⟩ j).1 hj
    ·rcases hj with hj|hj
     ·simp only[World.frozen?,hnew]
      grind
     omega)
   refine Inv.goes hn hinv (fun x hx=>hx.1) ?_ hd
   exact .osw ob 1 cap _ l hl g1 g2 g3 g4 ga
  simp_all
end
theorem ZjP(base:Nat→Option AO):∀(U U':List (Nat×Option AO)),updO base (U++U')=updO (updO base U') U:=by
 intro U
 induction U with
 |nil=>intro U';rfl
 |cons e r ih=>intro U';funext o;simp only[YH,updO,ih]
theorem ZmH{id:Nat}:∀{os:List (Nat×AO)} (base:Nat→Option AO) (o:Nat),
 updO base (ZgN id os) o=if id≤o∧(lk os (o-id)).isSome then(lk os (o-id)).map (renO (id+ ·))else base o:=by
 intro os
 induction os with
 |nil=>intro base o;simp[ZgN,updO,lk]
 |cons e r ih=>
  intro base o
  have:=ih base o
  simp only[ZgN,Yp,updO]at this⊢
  by_cases h:o=id+e.1
  ·subst h
   rw[if_pos rfl];simp[lk]
  ·rw[if_neg h,this]
   by_cases h1:id≤o
   ·have:o-id≠e.1:=by omega
    simp[lk,this]
   grind
theorem ZgW(σ:Nat→Nat):∀l:List AV,renL σ l=l.map (renAV σ):=by
 intro l
 induction l with
 |nil=>rfl
 |cons x r ih=>simp[renL,ih]
theorem Rep.ren{S:Nat→Prop}{w:World}{ι ι':Imap}{σ:Nat→Nat}(hσ:∀o y,ι o=some y→ι' (σ o)=some y){x:AV}{v:Value}(h:Rep S w ι x v):
 Rep S w ι' (renAV σ x) v:=by
 induction h with
 |imm x v h=>
  induction h with
  |agg cs vs hl _ ih=>
   simp only[renAV,ZgW]
   refine .agg _ vs (by simp_all) (fun j x v hx hv=>?_)
   grind
  |tup cs vs hl _ ih=>
   simp only[renAV,ZgW]
   refine .tup _ vs (by simp_all) (fun j x v hx hv=>?_)
   grind
  |fn f cs vs hl _ ih=>
   simp only[renAV,ZgW]
   refine .fn f _ vs (by simp_all) (fun j x v hx hv=>?_)
   grind
  |int k n=>exact .imm _ _ (.int k n)
  |bool b=>exact .imm _ _ (.bool b)
  |str s=>exact .imm _ _ (.str s)
  |esl a=>exact .imm _ _ (.esl a)
  |snil=>exact .imm _ _ .snil
  |sl xs a cap sz vals h1 h2 h3 h4 h5 h6=>exact .imm _ _ (.sl xs a cap sz vals h1 h2 h3 h4 h5 h6)
  |rp row off blk base vals h1 h2 h3 h4=>exact .imm _ _ (.rp row off blk base vals h1 h2 h3 h4)
  |con v h=>exact .imm _ _ (.con v h)
  |undef v=>exact .imm _ _ (.undef v)
  |anyb p b h=>exact .imm _ _ (.anyb p b h)
 |agg cs vs hl _ ih=>
  simp only[renAV,ZgW]
  refine .agg _ vs (by simp_all) (fun j x v hx hv=>?_)
  grind
 |tup cs vs hl _ ih=>
  simp only[renAV,ZgW]
  refine .tup _ vs (by simp_all) (fun j x v hx hv=>?_)
  grind
 |fn f cs vs hl _ ih=>
  simp only[renAV,ZgW]
  refine .fn f _ vs (by simp_all) (fun j x v hx hv=>?_)
  grind
 |ptr o r c l h=>exact .ptr (σ o) r c l (hσ o _ h)
 |osl o off len room cap a l h h1 h2 h3 h4 h5 ha=>exact .osl (σ o) off len room cap a l (hσ o _ h) h1 h2 h3 h4 h5 ha
 |oslv o a h=>exact .oslv (σ o) a (hσ o _ h)
 |osw o z cap a l h h2 h3 h4 hz ha=>exact .osw (σ o) z cap a l (hσ o _ h) h2 h3 h4 hz ha
 |oswv o z a h=>exact .oswv (σ o) z a (hσ o _ h)
 |mapo o l h=>exact .mapo (σ o) l (hσ o _ h)
theorem RepL.ren{S:Nat→Prop}{w:World}{ι ι':Imap}{σ:Nat→Nat}(hσ:∀o y,ι o=some y→ι' (σ o)=some y){cs:List AV}{vs:List Value}(h:RepL S w ι cs vs):
 RepL S w ι' (renL σ cs) vs:=by
 rw[ZgW]
 refine⟨by simpa using h.1,fun j x v hx hv=>?_⟩
 rw[Yl]at hx
 cases hj:cs[j]? with
 |none=>simp_all
 |some y=>rw[hj]at hx;simp only[Yq,Y1]at hx;subst hx;exact(h.2 j y v hj hv).ren hσ
theorem ObjOk.ren{S:Nat→Prop}{w:World}{ι ι':Imap}{σ:Nat→Nat}(hσ:∀o y,ι o=some y→ι' (σ o)=some y){o:Nat}{x:AO}(h:ObjOk S w ι o x):
 ObjOk S w ι' (σ o) (renO σ x):=by
 cases x with
 |rows p rs=>
  cases p with
  |true=>
   rcases h with ⟨h,rfl⟩|⟨l,vals,h1,h2,h3,h4,h5⟩
   ·exact .inl ⟨hσ _ _ h,rfl⟩
   ·refine .inr ⟨l,vals,hσ _ _ h1,h2,h3,h4,fun i r hr=>?_⟩
    have:=h5 i r hr
    simp_all
  |false=>
   rcases h with ⟨h,rfl⟩|⟨l,vals,h1,h2,h3,h4,h5⟩
   ·exact .inl ⟨hσ _ _ h,rfl⟩
   ·refine .inr ⟨l,vals,hσ _ _ h1,by simp_all,h3,by simp_all,fun i r hr=>?_⟩
    rw[Yl]at hr
    cases hj:rs[i]? with
    |none=>simp_all
    |some y=>
     rw[hj]at hr;simp only[Yq,Y1]at hr;subst hr
     have:=h5 i y hj
     simp only[Yr,Y9]at this⊢;exact this.ren hσ
 |froz rs=>
  rcases h with ⟨h,rfl⟩|⟨l,vals,h1,h2,h3,h4,h5⟩
  ·exact .inl ⟨hσ _ _ h,rfl⟩
  ·exact .inr ⟨l,vals,hσ _ _ h1,h2,h3,h4,fun i r hr=>by have:=h5 i r hr;simp_all⟩
 |mapo p es=>
  obtain⟨l,xs,clock,h1,h2,h3,h4⟩:=h
  cases p with
  |true=>
   exact⟨l,xs,clock,hσ _ _ h1,h2,⟨h3.1,fun i e x he hx=>⟨(h3.2 i e x he hx).1,.imm _ _ ((h3.2 i e x he hx).2.2 rfl),(h3.2 i e x he hx).2.2⟩⟩,h4⟩
  |false=>
  refine⟨l,xs,clock,hσ _ _ h1,h2,⟨by simpa using h3.1,fun i e x he hx=>?_⟩,h4⟩
  rw[Yl]at he
  cases hj:es[i]? with
  |none=>simp_all
  |some y=>
   rw[hj]at he;simp only[Yq,Y1]at he;subst he
   exact⟨(h3.2 i y x hj hx).1,(h3.2 i y x hj hx).2.1.ren hσ,fun hp=>by cases hp⟩
 |lit rs=>
  obtain⟨l,vals,h1,h2,h4,h5,h6,h7,h8⟩:=h
  exact⟨l,vals,hσ _ _ h1,h2,h4,h5,h6,h7,fun i r hr=>by have:=h8 i r hr;simp_all⟩
 |gmap es hh=>
  obtain⟨l,xs,clock,h1,h2,h3,h4⟩:=h
  refine⟨l,xs,clock,hσ _ _ h1,h2,h3,h4.len,fun i e x he hx=>?_,fun i j e e' x x' b he he' hx hx' hn hn'=>h4.inj i j e e' x x' b he he' hx hx' (by simp_all) (by simp_all)⟩
  obtain⟨g1,g2,g3⟩:=h4.at_ i e x he hx
  refine⟨g1,fun hn=>g2 (by simp_all),fun q hq=>?_⟩
  simp only[Ye]at hq
  obtain⟨⟨i',q'⟩,hq1,hq2⟩:=hq
  injection hq2 with e1 e2
  simp only at e1 e2;subst e1;subst e2;exact(g3 q' hq1).ren hσ
 |fmap z fs hh=>
  obtain⟨l,xs,clock,h1,h2,h3,h4⟩:=h
  refine⟨l,xs,clock,hσ _ _ h1,h2,h3,h4.1,fun i e x he hx=>?_,fun i j x y b h5 h6 h7 h8=>h4.2.2 i j x y b h5 h6 (by simp_all) (by simp_all)⟩
  obtain⟨g1,g2,g3⟩:=h4.2.1 i e x he hx
  refine⟨g1,fun hn=>g2 (by simp_all),fun q hq=>?_⟩
  simp only[Ye]at hq
  obtain⟨⟨i',q'⟩,hq1,hq2⟩:=hq
  injection hq2 with e1 e2
  simp only at e1 e2;subst e1;subst e2;exact(g3 q' hq1).ren hσ
theorem Zcq(σ:Nat→Nat)(x:AO):(renO σ x).live=x.live:=by
 cases x with
 |rows p rs=>cases p<;>rfl
 |froz rs=>rfl
 |mapo p es=>cases p<;>rfl
 |lit rs=>rfl
 |fmap z fs hh=>rfl
 |gmap es hh=>rfl
theorem ZeS{w:World}{σ:Nat→Nat}{x:AO}{l:Loc}{b:Nat}(h:foot w (renO σ x) l b):foot w x l b:=by
 cases x with
 |rows p rs=>cases p<;>exact h
 |froz rs=>exact h
 |mapo p es=>cases p<;>exact h
 |lit rs=>exact h
 |gmap es hh=>
  rcases h with h|⟨xs,c,i,e,x,h1,h2,h3,h4,h5⟩
  ·exact .inl h
  ·exact .inr ⟨xs,c,i,e,x,h1,h2,h3,by simp_all,h5⟩
 |fmap z fs hh=>
  rcases h with h|⟨xs,c,i,e,h1,h2,h3,h4⟩
  ·exact .inl h
  ·exact .inr ⟨xs,c,i,e,h1,h2,by simp_all,h4⟩
theorem Zje{w:World}{σ:Nat→Nat}{x:AO}{l:Loc}{b:Nat}(h:foot w x l b):foot w (renO σ x) l b:=by
 cases x with
 |rows p rs=>cases p<;>exact h
 |froz rs=>exact h
 |mapo p es=>cases p<;>exact h
 |lit rs=>exact h
 |gmap es hh=>
  rcases h with h|⟨xs,c,i,e,x,h1,h2,h3,h4,h5⟩
  ·exact .inl h
  ·exact .inr ⟨xs,c,i,e,x,h1,h2,h3,by simp_all,h5⟩
 |fmap z fs hh=>
  rcases h with h|⟨xs,c,i,e,h1,h2,h3,h4⟩
  ·exact .inl h
  ·exact .inr ⟨xs,c,i,e,h1,h2,by simp_all,h4⟩
theorem Zg3{w:World}{σ:Nat→Nat}{x y:AO}{l:Loc}{b:Nat}(h:WkO y (renO σ x))(hb:foot w x l b):foot w y l b:=by
 rcases h with h|⟨p,rs,rs',rfl,h,_⟩|⟨rs,rs',rfl,h,_⟩
 ·rw[←h];exact Zje hb
 ·have:=Zje (σ:=σ) hb
  rw[h]at this;exact .inl (Za7 rfl this)
 ·have:=Zje (σ:=σ) hb
  rw[h]at this;exact .inl (Za7 rfl this)
def ιback(ι:Imap)(σ:Nat→Nat)(n:Nat):Imap:=fun o=>if o<n then ι (σ o)else none
mutual
theorem Rep.unren{S:Nat→Prop}{w:World}{ι:Imap}{σ:Nat→Nat}{n:Nat}:∀(v:AV) (x:Value),idsB n v=true→Rep S w ι (renAV σ v) x→Rep S w (ιback ι σ n) v x
 |.ptr o r c,x,hb,h=>by
  obtain⟨l,hl,rfl⟩:=h.ptr_inv
  exact .ptr o r c l (by simp only[ιback];rw[if_pos (YD hb)];exact hl)
 |.osl o off len room,x,hb,h=>by
  have hι:∀y,ι (σ o)=some y→ιback ι σ n o=some y:=fun y hy=>by simp only[ιback];rw[if_pos (YD hb)];exact hy
  rcases Zil h with ⟨l,a,cap,q,rfl,h1,h2,h3,h4,h5,ha⟩|⟨q,rfl,rfl,rfl,a,rfl⟩
  ·exact .osl o off len room cap a l (hι _ q) h1 h2 h3 h4 h5 ha
  ·exact .oslv o a (hι _ q)
 |.osw o z,x,hb,h=>by
  have hι:∀y,ι (σ o)=some y→ιback ι σ n o=some y:=fun y hy=>by simp only[ιback];rw[if_pos (YD hb)];exact hy
  rcases ZcP h with ⟨l,a,cap,q,rfl,h2,h3,h4,hz,ha⟩|⟨q,a,rfl⟩
  ·exact .osw o z cap a l (hι _ q) h2 h3 h4 hz ha
  ·exact .oswv o z a (hι _ q)
 |.mapo o,x,hb,h=>by
  obtain⟨l,hl,rfl⟩:=h.mapo_inv
  exact .mapo o l (by simp only[ιback];rw[if_pos (YD hb)];exact hl)
 |.agg cs,x,hb,h=>by
  obtain⟨vs,rfl,hL⟩:=h.agg_inv
  exact RepL.agg (RepL.unren cs vs.toList hb hL)
 |.tup cs,x,hb,h=>by
  obtain⟨vs,rfl,hL⟩:=h.tup_inv
  exact RepL.tupr (RepL.unren cs vs.toList hb hL)
 |.fn f cs,x,hb,h=>by
  obtain⟨vs,rfl,hL⟩:=h.fn_inv
  exact RepL.fnr (RepL.unren cs vs.toList hb hL)
 |.int k m,x,_,h=>.imm _ _ (h.free rfl)
 |.bool b,x,_,h=>.imm _ _ (h.free rfl)
 |.str s,x,_,h=>.imm _ _ (h.free rfl)
 |.esl,x,_,h=>.imm _ _ (h.free rfl)
 |.sl xs,x,_,h=>.imm _ _ (h.free rfl)
 |.rp row c,x,_,h=>.imm _ _ (h.free rfl)
 |.con v,x,_,h=>.imm _ _ (h.free rfl)
 |.undef,x,_,h=>.imm _ _ (.undef _)
 |.anyb p,x,_,h=>by
  cases h with
  |imm _ _ h=>cases h with|anyb _ b h=>exact .imm _ _ (.anyb p b h)
theorem RepL.unren{S:Nat→Prop}{w:World}{ι:Imap}{σ:Nat→Nat}{n:Nat}:∀(cs:List AV) (vs:List Value),idsBL n cs=true→RepL S w ι (renL σ cs) vs→RepL S w (ιback ι σ n) cs vs
 | [],vs,_,h=>by
  have:=h.1
  simp only[renL,Yx]at this
  cases vs with
  |nil=>exact .nil
  |cons v r=>grind
 |c::cs,vs,hb,h=>by
  simp only[idsBL,Y8]at hb;simp only[renL]at h
  cases vs with
  |nil=>have:=h.1;grind
  |cons v r=>
   have h1:Rep S w ι (renAV σ c) v:=h.2 0 _ _ rfl rfl
   have h2:RepL S w ι (renL σ cs) r:=⟨by simpa using h.1,fun j x v hx hv=>h.2 (j+1) x v (by simp_all) (by simp_all)⟩
   exact RepL.cons (Rep.unren c v hb.1 h1) (RepL.unren cs r hb.2 h2)
end
theorem ObjOk.unren{S:Nat→Prop}{w:World}{ι:Imap}{σ:Nat→Nat}{n o:Nat}{x:AO}(ho:o<n)(hb:idsBO n x=true)(h:ObjOk S w ι (σ o) (renO σ x)):
 ObjOk S w (ιback ι σ n) o x:=by
 have hι:∀y,ι (σ o)=some y→ιback ι σ n o=some y:=fun y hy=>by simp only[ιback];simp_all
 cases x with
 |rows p rs=>
  cases p with
  |true=>
   rcases h with ⟨q,rfl⟩|⟨l,vals,h1,h2,h3,h4,h5⟩
   ·exact .inl ⟨hι _ q,rfl⟩
   ·exact .inr ⟨l,vals,hι _ h1,h2,h3,h4,fun i r hr=>by have:=h5 i r hr;simp_all⟩
  |false=>
   simp only[renO]at h
   rcases h with ⟨q,hrs⟩|⟨l,vals,h1,h2,h3,h4,h5⟩
   ·exact .inl ⟨hι _ q,by simp_all⟩
   ·refine .inr ⟨l,vals,hι _ h1,by simp_all,h3,by simp_all,fun i r hr=>?_⟩
    have hmap:(rs.map (renL σ))[i]? =some (renL σ r):=by rw[Yl,hr];rfl
    have:=h5 i _ hmap
    simp only[Yr,Y9]at this⊢
    refine RepL.unren r _ ?_ this
    simp only[idsBO]at hb
    grind
 |froz rs=>
  rcases h with ⟨q,rfl⟩|⟨l,vals,h1,h2,h3,h4,h5⟩
  ·exact .inl ⟨hι _ q,rfl⟩
  ·exact .inr ⟨l,vals,hι _ h1,h2,h3,h4,fun i r hr=>by have:=h5 i r hr;simp_all⟩
 |mapo p es=>
  cases p with
  |true=>
   obtain⟨l,xs,clock,h1,h2,h3,h4⟩:=h
   exact⟨l,xs,clock,hι _ h1,h2,⟨h3.1,fun i e x he hx=>⟨(h3.2 i e x he hx).1,.imm _ _ ((h3.2 i e x he hx).2.2 rfl),(h3.2 i e x he hx).2.2⟩⟩,h4⟩
  |false=>
  obtain⟨l,xs,clock,h1,h2,h3,h4⟩:=h
  refine⟨l,xs,clock,hι _ h1,h2,⟨by simpa using h3.1,fun i e x he hx=>?_⟩,h4⟩
  have hmap:(es.map fun e=>(e.1,renAV σ e.2))[i]? =some (e.1,renAV σ e.2):=by rw[Yl,he];rfl
  have:=h3.2 i _ x hmap hx
  simp only[idsBO]at hb
  exact⟨this.1,Rep.unren e.2 x.val (YF.1 hb e (YA he)) this.2.1,fun hp=>by cases hp⟩
 |lit rs=>
  obtain⟨l,vals,h1,h2,h4,h5,h6,h7,h8⟩:=h
  exact⟨l,vals,hι _ h1,h2,h4,h5,h6,h7,fun i r hr=>by have:=h8 i r hr;simp_all⟩
 |gmap es hh=>
  obtain⟨l,xs,clock,h1,h2,h3,h4⟩:=h
  refine⟨l,xs,clock,hι _ h1,h2,h3,h4.len,fun i e x he hx=>?_,fun i j e e' x x' b he he' hx hx' hn hn'=>h4.inj i j e e' x x' b he he' hx hx' (by simp_all) (by simp_all)⟩
  obtain⟨g1,g2,g3⟩:=h4.at_ i e x he hx
  refine⟨g1,fun hn=>g2 (by simp_all),fun q hq=>?_⟩
  subst hq;simp only[idsBO]at hb;exact Rep.unren (.ptr q 0 0) x.val hb (g3 (σ q) rfl)
 |fmap z fs hh=>
  obtain⟨l,xs,clock,h1,h2,h3,h4⟩:=h
  refine⟨l,xs,clock,hι _ h1,h2,h3,h4.1,fun i e x he hx=>?_,fun i j x y b h5 h6 h7 h8=>h4.2.2 i j x y b h5 h6 (by simp_all) (by simp_all)⟩
  obtain⟨g1,g2,g3⟩:=h4.2.1 i e x he hx
  refine⟨g1,fun hn=>g2 (by simp_all),fun q hq=>?_⟩
  subst hq;simp only[idsBO]at hb;exact Rep.unren (.osw q z) x.val hb (g3 (σ q) rfl)
end Go.Ab
