import Derived.Test.YtjpmdkgonlmddaaGreatDoorAbD
import Derived.Lib.LazyBuf
set_option linter.unusedVariables false
open Go.MapKept (Stamped)
namespace Go.Ab
theorem JN{w:World}{z:Nat}{fs dO:List (AV×List (List AV))}{h:Option (Nat×Nat)}{l:Loc}{b:Nat}(j:c6 w (.cw z dO h) l b):c6 w (.cw z fs none) l b:=by
 rcases j with j|⟨xs,c,i,e,h1,p,h3,o⟩
 ·exact .inl j
 ·exact .inr ⟨xs,c,i,e,h1,p,by simp,o⟩
section
variable {C:Cx}{S:Nat→Prop}{w:World}{ι:bp}{P:Program}{un:Nat→Prop}{f:FS}{a:Act}{id:Nat}{o:Oper}
 {next:Act→World→Prop} {Q:Exit→Act→World→Prop}
theorem jH.vw{z:Nat}{fs:List (AV×List (List AV))}{h:Option (Nat×Nat)}{xs:Array MapEntry}(o:lN S w ι z fs h xs):jH false S w ι (fy fs) xs.toList:=by
 refine⟨by simp[fy,o.1],λ i e x p hx=>?_⟩
 simp only[fy,YD,Yq]at p;obtain⟨e0,j,rfl⟩:=p;have:=o.2.1 i e0 x j (by simp_all)
 exact⟨this.1,.cu _ _ (.undef _),λ q=>by cases q⟩
theorem iX.place{z:Nat}{rs:List (List AV)}{v:Value}(h:iX S w z rs v):
 ∃L:Option Loc,(∀(ι':bp) (k:Nat),ι' k=some L→cz S w ι' (.bf k z) v∧cX S w ι' k (.rows true rs))∧∀l2,L=some l2→gn v=some l2.bB∧∃c,fC w l2.bB 0=some c:=by
 rcases h with ⟨_,rfl,a,rfl⟩|⟨l,h1,h0,A,bc,x,j,o,E⟩
 ·exact⟨none,λ ι' k i=>⟨.fW k z a i,.inl ⟨i,rfl⟩⟩,λ l2 e=>by cases e⟩
 ·refine⟨some l,λ ι' k i=>⟨?_,.inr ⟨l,bc,i,x,j,o,E⟩⟩,λ l2 e=>?_⟩
  ·rcases kZ A with ⟨l',a,cap,q,rfl,p,u,C,B,y⟩|⟨q,_⟩
   ·injection q with q;injection q with q;subst q;exact .bf k z cap a l i p u C B y
   ·cases q
  ·injection e with e;subst e;exact⟨h1,(j 0).1 h0⟩
theorem iX.of{z:Nat}{rs:List (List AV)}{q:Nat}{v:Value}(hz:0<z)(hl:∀row∈rs,row.length=z)(Q:cz S w ι (.bf q z) v)(ho:cX S w ι q (.rows true rs)):
 iX S w z rs v∧∀b,gn v=some b→∃J,ι q=some (some J)∧b=J.bB:=by
 rcases kZ Q with ⟨l,ad,cap,E,rfl,O,U,M,V,F⟩|⟨E,ad,rfl⟩
 ·rcases ho with ⟨o,_⟩|⟨l',bc,o,p,R,u,j⟩
  ·simp_all
  ·rw[E]at o;injection o with o;injection o with o;subst o;by_cases x:cap=0
   ·subst x;have h0:l.eA=0:=by omega
    rw[h0];refine⟨.inl ⟨by rfl,YR.1 (by omega),_,rfl⟩,λ b y=>by simp[gn]at y⟩
   ·obtain rfl:=F x;have T:l.bX=z:=by
     by_cases h0:l.eA=0
     ·omega
     ·obtain⟨r,A⟩:∃r,rs[0]? =some r:=⟨_,Y3 (by omega)⟩
      have h1:=u.2.1 0 (by omega)
      have h2:=(j.get A).1;grind
    have H:0<cap*l.bX:=Nat.mul_pos (by omega) (by omega)
    refine⟨.inr ⟨l,by simp[gn,x],by omega,.bf 0 z cap _ l rfl O U M V F,bc,p,R,u,λ i r A=>?_⟩,λ b y=>⟨l,E,?_⟩⟩
    ·have:=j i r A;simp_all
    ·simp only[gn,x,Ym,Y5]at y;omega
 ·have C:rs=[]:=by
   rcases ho with ⟨_,h⟩|⟨l',bc,o,_⟩
   ·exact h
   ·simp_all
  have B:gn (.slice ad 0 0)=none:=by cases ad<;>rfl
  exact⟨.inl ⟨B,C,_,rfl⟩,λ b y=>by simp_all⟩
theorem Pv:Stamped #[] 0:=⟨λ x h=>by simp at h,by simp,by simp⟩
theorem Pw{xs:Array MapEntry}{i:Nat}{k v:Value}(h:Stamped xs i)(hk:∀x∈xs.toList,x.key≠k):Stamped (xs.push {key:=k,val:=v,born:=i}) (i+1):=by
 refine⟨λ x j=>?_,?_,?_⟩
 ·simp only[U4,YA,Yu]at j;rcases j with j|rfl
  ·have:=h.1 x j;omega
  simp
 ·simp only[U4,Yj,Yy,VH];refine VF.2 ⟨h.2.1,by simp,λ a o b p=>?_⟩
  obtain⟨x,j,rfl⟩:=W0.1 o;have:=h.1 x j;grind
 ·simp only[U4,Yj,Yy,VH];refine VF.2 ⟨h.2.2,by simp,λ a o b p=>?_⟩
  grind
theorem Zlb{xs:Array MapEntry}{o j:Nat}{k v:Value}{x0:MapEntry}(h:Stamped xs o)(hx:xs[j]? =some x0)(u:k=x0.key):Stamped (xs.modify j λ e=>{e with key:=k,val:=v}) o:=by
 have q:∀{α:Type} (g:MapEntry→α),(g {x0 with key:=k,val:=v}=g x0)→((xs.modify j λ e=>{e with key:=k,val:=v}).toList.map g)=xs.toList.map g:=by
  intro α g hg;apply U3;intro i;rw[YD,YD,WG,WG,Ug];by_cases e:j=i
  ·simp_all
  ·grind
 refine⟨λ x p=>?_,by rw[q (·.born) rfl];exact h.2.1,by rw[q (·.key) u];exact h.2.2⟩
 have:=WY (f:=(·.born)) p;rw[q (·.born) rfl]at this;obtain⟨y,z,e⟩:=W0.1 this;rw[←e];exact h.1 y z
theorem ZlX{xs:Array MapEntry}{i j:Nat}(h:Stamped xs i)(hj:j<xs.size):Stamped (xs.eraseIdx j hj) i:=by
 have o:(xs.eraseIdx j hj).toList.Sublist xs.toList:=by
  rw[Array.toList_eraseIdx];exact List.eraseIdx_sublist _ _
 exact⟨λ x p=>h.1 x (o.subset p),h.2.1.sublist (o.map _),h.2.2.sublist (o.map _)⟩
theorem ZqU{kt:TypeId}{k k':AV}{u v:Value}(h:dE P kt k k'=some true)(i:cz S w ι k u)(j:cE S w k' v):u=v:=by
 unfold dE at h;split at h
 ·split at h
  ·rename_i e;subst e;cases j;rw[i.bU];simp_all
  ·cases h
 ·rename_i a b _;have o:=(cz.cu (ι:=ι) _ _ j).dk;rw[i.dk,o];simp_all
 ·cases j;rw[i.dJ];simp_all
 ·split at h
  ·rename_i e;obtain⟨rfl,rfl⟩:=e;rw[sk i,sk (cz.cu (ι:=ι) _ _ j)];simp_all
  ·cases h
 ·cases h
theorem XE{kt:TypeId}{k k':AV}{u v:Value}(h:dE P kt k k'=some false)(i:cz S w ι k u)(j:cE S w k' v):v≠u:=by
 intro e;subst e;unfold dE at h;split at h
 ·split at h
  ·rename_i e;subst e;have h1:=i.bU;have o:=(cz.cu (ι:=ι) _ _ j).bU;simp_all
  ·cases h
 ·have h1:=i.dk;have o:=(cz.cu (ι:=ι) _ _ j).dk;simp_all
 ·have h1:=i.dJ;have o:=(cz.cu (ι:=ι) _ _ j).dJ;simp_all
 ·split at h
  ·rename_i e;obtain⟨rfl,rfl⟩:=e;have h1:=sk i;have o:=sk (cz.cu (ι:=ι) _ _ j);simp_all
  ·cases h
 ·cases h
theorem Pe{kt:TypeId}{k:AV}:∀(es:List (AV×AV)) (i:Nat),gM P kt k es i none→∀(j:Nat) e,es[j]? =some e→dE P kt k e.1=some false
 | [],_,_,j,e,he=>by simp at he
 |e0::es,i,h,j,e,he=>by
  rcases h with ⟨_,h⟩|⟨h1,o⟩
  ·cases h
  ·cases j with
   |zero=>simp_all
   |succ j=>exact Pe es (i+1) o j e (by simp_all)
theorem O6{kt:TypeId}{k:AV}{u:Value}{p:Bool}{es:List (AV×AV)}{xs:Array MapEntry}(y:gM P kt k es 0 none)(o:jH p S w ι es xs.toList)(q:cz S w ι k u):∀x∈xs.toList,x.key≠u:=by
 intro x z;obtain⟨j,hj⟩:=WM z;have A:j<es.length:=by rw[o.1];exact fD hj
 have i:=Y3 A;exact XE (Pe es 0 y j _ i) q (o.2 j _ x i hj).1
theorem Inv.GL(h:Inv C S ι un f a w)(hid:un id){o z:Nat}{fs:List (AV×List (List AV))}{i:Nat}{e:AV×List (List AV)}(ho:f.os o=some (.cw z fs none))(he:fs[i]? =some e)
 {l:Loc} {xs:Array MapEntry} {E:Nat} {x:MapEntry} (hl:ι o=some (some l)) (q:w.heap[l.bB]? =some (.map xs E)) (hx:xs[i]? =some x):
 ∃ι',ι.le ι'∧cz S w ι' (.bf id z) x.val∧Inv C S ι' (λ y=>un y∧y≠id) {f with os:=bw f.os [(id,some (.rows true e.2)),(o,some (.cw z fs (some (i,id))))]} a w:=by
 have X:=h.un id hid;obtain⟨l',fF,cK,M,p,cS,hF⟩:=h.ob o _ ho;rw[hl]at M;injection M with M;injection M with M;subst M;rw[q]at p;injection p with p;injection p with e1 Q;subst e1;subst Q;have A:o≠id:=h.ri hid ho;obtain⟨L,BH,zd⟩:=((hF.2.1 i e x he hx).2.1 (by simp)).place
 have hι:=EC (ι:=ι) (id:=id) (x:=L) X;have hιid:(λ o=>if o=id then some L else ι o) id=some L:=by simp
 have R:∀l2,L=some l2→c6 w (.cw z fs none) l l2.bB:=λ l2 e=>.inr ⟨xs,E,i,x,q,hx,by simp,(zd l2 e).1⟩
 refine⟨λ o=>if o=id then some L else ι o,hι,(BH _ id hιid).1,?_⟩;have hw:gA S w w:=λ _ _=>rfl
 have H:∀k y,bw f.os [(id,some (.rows true e.2)),(o,some (.cw z fs (some (i,id))))] k=some y→(k=id∧y=.rows true e.2)∨(k=o∧y=.cw z fs (some (i,id)))∨(k≠id∧k≠o∧f.os k=some y):=by
  intro k y hy;simp only[bw]at hy;by_cases e1:k=id
  ·simp_all
  ·grind
 have hιk:∀k,k≠id→∀l2,(if k=id then some L else ι k)=some (some l2)→ι k=some (some l2):=λ k hk l2 e=>by simp_all
 have u:∀l2,(if id=id then some L else ι id)=some (some l2)→L=some l2:=λ l2 e=>by simp_all
 refine h.iC (λ _ x=>x) hw hι ?_ ?_ ?_ h.sb h.sn (λ k hk=>by simp only[hk.2,Ym];exact h.un k hk.1) h.fr
 ·intro k y hy;rcases H k y hy with ⟨rfl,rfl⟩|⟨rfl,rfl⟩|⟨h1,h2,V⟩
  ·simp_all
  ·refine⟨l,xs,E,hι _ _ hl,q,cS,hF.1,λ j e' x' xn mL=>?_,λ j j' x1 x2 b h1 h2 V h4 h5 h6=>hF.2.2 j j' x1 x2 b h1 h2 (by simp) (by simp) h5 h6⟩
   obtain⟨U,g2,g3⟩:=hF.2.1 j e' x' xn mL;grind
  ·exact(h.ob k y V).mono (λ _ x=>x) hw hι (λ _ _ _ _ _=>rfl)
 ·intro k y hy mB l2 ll b T;rcases H k y hy with ⟨rfl,rfl⟩|⟨rfl,rfl⟩|⟨h1,h2,V⟩
  ·rw[iY rfl T];exact h.own o _ ho rfl l hl _ (R l2 (u l2 ll))
  ·exact h.own k _ ho rfl l2 (hιk k A l2 ll) b (JN T)
  ·exact h.own k y V mB l2 (hιk k h1 l2 ll) b T
 ·have O:∀l2 b,L=some l2→b=l2.bB→∀l3,ι o=some (some l3)→c6 w (.cw z fs (some (i,id))) l3 b→False:=by
   intro l2 b hL T l3 J hf;rw[hl]at J;injection J with J;injection J with J;subst J;obtain⟨hv,c,hc⟩:=zd l2 hL;subst T;rcases hf with hf|⟨DK,c2,j,Q,U,g2,g3,g4⟩
   ·simp only[fC,World.cell?,hf,q]at hc;cases hc
   ·rw[q]at U;injection U with U;injection U with q1 q2;subst q1;have:=hF.2.2 i j x Q l2.bB hx g2 (by simp) (by simp) hv g4
    simp_all
  intro k1 k2 y1 y2 mw nS Z Y l1 l2 e1 Q b F B;rcases H k1 y1 mw with ⟨rfl,rfl⟩|⟨rfl,rfl⟩|⟨h1,h2,V⟩<;>rcases H k2 y2 nS with ⟨g0,g⟩|⟨g0,g⟩|⟨U,g2,g3⟩
  ·omega
  ·subst g0;subst g;exact(O l1 b (u l1 e1) (iY rfl F) l2 (hιk k2 A l2 Q) B).elim
  ·have T:=R l1 (u l1 e1);rw[←iY rfl F]at T;exact absurd (h.inj o k2 _ y2 ho g3 rfl Y l l2 hl (hιk k2 U l2 Q) b T B) (λ e=>g2 e.symm)
  ·subst g0;subst g;exact(O l2 b (u l2 Q) (iY rfl B) l1 (hιk k1 A l1 e1) F).elim
  ·omega
  ·exact absurd (h.inj k1 k2 _ y2 ho g3 rfl Y l1 l2 (hιk k1 A l1 e1) (hιk k2 U l2 Q) b (JN F) B) (λ e=>g2 e.symm)
  ·subst g0;subst g;have T:=R l2 (u l2 Q);rw[←iY rfl B]at T;exact absurd (h.inj k1 o y1 _ V ho Z rfl l1 l (hιk k1 h1 l1 e1) hl b F T) h2
  ·subst g0;subst g;exact h.inj k1 k2 y1 _ V ho Z rfl l1 l2 (hιk k1 h1 l1 e1) (hιk k2 A l2 Q) b F (JN B)
  ·exact h.inj k1 k2 y1 y2 V g3 Z Y l1 l2 (hιk k1 h1 l1 e1) (hιk k2 U l2 Q) b F B
theorem Ft{z:Nat}{fs:List (AV×List (List AV))}{p:Option (Nat×Nat)}{l:Loc}{xs:Array MapEntry}{j i:Nat}{x:MapEntry}(o:w.heap[l.bB]? =some (.map xs j))
 (q:xs[i]? =some x) (hn:p.map (·.1)≠some i) {b:Nat} (u:gn x.val=some b):c6 w (.cw z fs p) l b:=.inr ⟨xs,j,i,x,o,q,hn,u⟩
theorem Inv.rW(h:Inv C S ι un f a w){o z:Nat}{fs dO:List (AV×List (List AV))}{hh:Option (Nat×Nat)}(ho:f.os o=some (.cw z fs hh)){l:Loc}(T:ι o=some (some l))
 {xs fF:Array MapEntry} {clock cK:Nat} (Z:w.heap[l.bB]? =some (.map xs clock)) (cS:oy fF cK) {V:bL} (hV:o∉V)
 (HY:∀(i:Nat) x,fF[i]? =some x→(∃j,xs[j]? =some x∧hh.map (·.1)≠some j)∨∀b,gn x.val=some b→∃q R y,q∈V∧f.os q=some y∧y.live=true∧ι q=some (some R)∧b=R.bB)
 (hF:∀w':World,gA S w w'→(∀b,b≠l.bB→w'.heap[b]? =w.heap[b]?)→lN S w' ι z dO none fF):
 Inv C S ι un {f with os:=bw f.os ((o,some (.cw z dO none))::V.map λ q=>(q,none))} a {w with heap:=w.heap.setIfInBounds l.bB (.map fF cK)}:=by
 obtain⟨hO,hS,iU⟩:=h.own o _ ho rfl l T _ (.inl rfl);have u:∀b,b≠l.bB→(w.heap.setIfInBounds l.bB (Obj.map fF cK))[b]? =w.heap[b]? :=λ b A=>V6 (λ e=>A e.symm);have hw:gA S w {w with heap:=w.heap.setIfInBounds l.bB (.map fF cK)}:=λ b A=>u b (λ e=>hS (e▸A))
 have M:(w.heap.setIfInBounds l.bB (Obj.map fF cK))[l.bB]? =some (.map fF cK):=by simp[iU]
 have F:∀o' y,f.os o'=some y→y.live=true→o'≠o→∀l',ι o'=some (some l')→∀b,c6 w y l' b→(w.heap.setIfInBounds l.bB (Obj.map fF cK))[b]? =w.heap[b]? :=λ o' y H B e l' p b A=>
  u b (λ eb=>e (h.inj o' o y _ H ho B rfl l' l p T b A (.inl eb)))
 have E:∀k y,bw f.os ((o,some (.cw z dO none))::V.map λ q=>(q,none)) k=some y→(k=o∧y=.cw z dO none)∨(k≠o∧k∉V∧f.os k=some y):=by
  intro k y H;have hn:∀(V:bL) (k:Nat),bw f.os (V.map λ q=>(q,none)) k=if k∈V then none else f.os k:=by
   intro V;induction V with
   |nil=>intro k;rfl
   |cons q r ih=>
    intro k;simp only[Yy,bw,ih,Yr];grind
  simp only[bw]at H;by_cases e2:k=o
  ·simp_all
  ·simp_all
 have O:∀b,c6 {w with heap:=w.heap.setIfInBounds l.bB (.map fF cK)} (.cw z dO none) l b→
  c6 w (.cw z fs hh) l b∨∃q R y,q∈V∧f.os q=some y∧y.live=true∧ι q=some (some R)∧b=R.bB:=by
  rintro b (A|⟨ys,c,i,x,h1,h2,Q,h4⟩)
  ·exact .inl (.inl A)
  ·rw[show({w with heap:=w.heap.setIfInBounds l.bB (.map fF cK)}:World).heap[l.bB]? =_ from M]at h1
   injection h1 with h1;injection h1 with q1 q2;subst q1;rcases HY i x h2 with ⟨j,hj,hn⟩|hq
   ·exact .inl (Ft Z hj hn h4)
   simp_all
 refine h.iC (λ _ x=>x) hw (bp.le_refl _) ?_ ?_ ?_ (λ b A=>by simpa using h.sb b A) h.sn h.un ?_
 ·intro k y H;rcases E k y H with ⟨rfl,rfl⟩|⟨h1,h2,Q⟩
  ·exact⟨l,fF,cK,T,M,cS,hF _ hw u⟩
  ·refine(h.ob k y Q).mono (λ _ x=>x) hw (bp.le_refl _) (λ l' p uc b A=>u _ (λ eb=>h1 (h.inj k o y _ Q ho uc rfl l' l p T b A (.inl eb))))
 ·intro k y H B l' p b A;have fg:(w.heap.setIfInBounds l.bB (Obj.map fF cK)).size=w.heap.size:=by simp
  rcases E k y H with ⟨rfl,rfl⟩|⟨h1,h2,Q⟩
  ·rw[T]at p;injection p with p;injection p with p;subst p;rcases O b A with A|⟨q,R,y,hq,H,U,Y,rfl⟩
   ·have:=h.own k _ ho rfl l T b A;simp_all
   ·have:=h.own q y H U R Y _ (.inl rfl);simp_all
  ·have:=h.own k y Q B l' p b (ft (F k y Q B h1 l' p) A);simp_all
 ·have vN:∀k y,f.os k=some y→y.live=true→k≠o→k∉V→∀l',ι k=some (some l')→∀b,c6 {w with heap:=w.heap.setIfInBounds l.bB (.map fF cK)} y l' b→
   c6 {w with heap:=w.heap.setIfInBounds l.bB (.map fF cK)} (.cw z dO none) l b→False:=by
   intro k y H B iF RG l' p b A J;have BA:=ft (F k y H B iF l' p) A;rcases O b J with J|⟨q,R,y2,hq,X,U,Y,rfl⟩
   ·exact iF (h.inj k o y _ H ho B rfl l' l p T b BA J)
   ·have:=h.inj k q y y2 H X B U l' R p Y _ BA (.inl rfl);simp_all
  intro k1 k2 y1 y2 mw X iR jX l1 l2 e1 e2 b lB J;rcases E k1 y1 mw with ⟨rfl,rfl⟩|⟨h1,h2,Q⟩<;>rcases E k2 y2 X with ⟨g0,g⟩|⟨g1,g2,g3⟩
  ·omega
  ·grind
  ·grind
  ·exact h.inj k1 k2 y1 y2 Q g3 iR jX l1 l2 e1 e2 b (ft (F k1 y1 Q iR h1 l1 e1) lB) (ft (F k2 y2 g3 jX g1 l2 e2) J)
 ·refine⟨h.fr.os,h.fr.output,by simpa using h.fr.size,λ b A hn=>?_⟩
  have:=u b (λ e=>hn (by simp_all))
  exact this.trans (h.fr.old b A hn)
theorem lN.nQ{z:Nat}{fs:List (AV×List (List AV))}{u:Option (Nat×Nat)}{xs:Array MapEntry}{l:Loc}{o:Nat}(j:w.heap[l.bB]? =some (.map xs o))(p:lN S w ι z fs u xs)
 {i:Nat} {x:MapEntry} (A:xs[i]? =some x) (hn:u.map (·.1)≠some i) {b:Nat} (C:gn x.val=some b):b≠l.bB:=by
 intro e;subst e;obtain⟨e,q⟩:∃e,fs[i]? =some e:=⟨_,Y3 (by rw[p.1];grind)⟩
 obtain⟨L,_,B⟩:=((p.2.1 i e x q A).2.1 hn).place;rcases(p.2.1 i e x q A).2.1 hn with ⟨hv,_⟩|⟨l2,h1,h0,_,bc,_,E,_⟩
 ·simp_all
 ·rw[C]at h1;injection h1 with h1;obtain⟨c,y⟩:=(E 0).1 h0;simp only[fC,World.cell?,←h1,j]at y;cases y
theorem Inv.BM(h:Inv C S ι un f a w){o z:Nat}{fs:List (AV×List (List AV))}{hh:Option (Nat×Nat)}(ho:f.os o=some (.cw z fs hh)){l:Loc}(hl:ι o=some (some l))
 {xs fF:Array MapEntry} {clock cK:Nat} (B:w.heap[l.bB]? =some (.map xs clock)) {q:Nat} {rs oH:List (List AV)} (hq:f.os q=some (.rows true rs)) (iF:q≠o) {u:Value}
 (hV:iX S w z oH u) (Q:∀b,gn u=some b→∃O,ι q=some (some O)∧b=O.bB) (j:Nat) (k:AV) (y:MapEntry) (dO:List (AV×List (List AV)))
 (hlen:dO.length=fF.size) (cS:oy fF cK) (R1:dO[j]? =some (k,oH)) (U:fF[j]? =some y) (X:y.val=u) (RF:cE S w k y.key)
 (A:∀i,i≠j→dO[i]? =fs[i]? ∧fF[i]? =xs[i]? ∧hh.map (·.1)≠some i):
 Inv C S ι un {f with os:=bw f.os [(o,some (.cw z dO none)),(q,none)]} a {w with heap:=w.heap.setIfInBounds l.bB (.map fF cK)}:=by
 obtain⟨l',DK,xw,H,p,jx,hF⟩:=h.ob o _ ho;rw[hl]at H;injection H with H;injection H with H;subst H;rw[B]at p;injection p with p;injection p with e1 e2;subst e1;subst e2;have G6:∀b,gn u=some b→b≠l.bB:=λ b hb e=>by
  obtain⟨O,M,J⟩:=Q b hb;exact iF (h.inj q o _ _ hq ho rfl rfl O l M hl b (.inl J) (.inl e))
 have:=h.rW ho hl B cS (cK:=cK) (dO:=dO) (V:=[q]) (by grind) (λ i x E=>?_) (λ w' hw nX=>⟨hlen,λ i e x he E=>?_,λ i i' x x' b E F _ _ hv T=>?_⟩)
 ·exact this
 ·by_cases Y:i=j
  ·subst Y;rw[U]at E;injection E with E;subst E;right;intro b hb;rw[X]at hb;obtain⟨O,h1,R⟩:=Q b hb;exact⟨q,O,_,by simp,hq,rfl,h1,R⟩
  grind
 ·by_cases Y:i=j
  ·subst Y;rw[U]at E;injection E with E;subst E;rw[R1]at he;injection he with he;subst he;refine⟨RF.mono (λ _ h=>h) hw,λ _=>?_,λ q hq=>by cases hq⟩
   rw[X];exact hV.mono (λ _ h=>h) hw (λ b hb=>nX b (G6 b hb))
  ·obtain⟨h1,R,Z⟩:=A i Y;rw[h1]at he;rw[R]at E;obtain⟨g1,g2,g3⟩:=hF.2.1 i e x he E;exact⟨g1.mono (λ _ h=>h) hw,λ _=>(g2 Z).mono (λ _ h=>h) hw (λ b hb=>nX b (hF.nQ B E Z hb)),λ q hq=>by cases hq⟩
 ·by_cases Y:i=j<;>by_cases pS:i'=j
  ·omega
  ·subst Y;rw[U]at E;injection E with E;subst E;rw[X]at hv;obtain⟨O,M,J⟩:=Q b hv;obtain⟨_,R,Z⟩:=A i' pS;rw[R]at F;exact absurd (h.inj q o _ _ hq ho rfl rfl O l M hl b (.inl J) (Ft B F Z T)) iF
  ·subst pS;rw[U]at F;injection F with F;subst F;rw[X]at T;obtain⟨O,M,J⟩:=Q b T;obtain⟨_,R,Z⟩:=A i Y;rw[R]at E;exact absurd (h.inj q o _ _ hq ho rfl rfl O l M hl b (.inl J) (Ft B E Z hv)) iF
  ·obtain⟨_,R,Z⟩:=A i Y;obtain⟨_,SG,LM⟩:=A i' pS;rw[R]at E;rw[SG]at F;exact hF.2.2 i i' x x' b E F Z LM hv T
theorem Inv.BL(h:Inv C S ι un f a w){o z:Nat}{fs:List (AV×List (List AV))}{hh:Option (Nat×Nat)}(ho:f.os o=some (.cw z fs hh)){l:Loc}(hl:ι o=some (some l))
 {xs fF:Array MapEntry} {E cK:Nat} (y:w.heap[l.bB]? =some (.map xs E)) (dO:List (AV×List (List AV))) (g:Nat→Nat) (hg:∀i j,g i=g j→i=j)
 (M:dO.length=fF.size) (H:oy fF cK) (u:∀i,dO[i]? =fs[g i]? ∧fF[i]? =xs[g i]? ∧hh.map (·.1)≠some (g i)):
 Inv C S ι un {f with os:=bw f.os [(o,some (.cw z dO none))]} a {w with heap:=w.heap.setIfInBounds l.bB (.map fF cK)}:=by
 obtain⟨l',DK,Q,A,p,Z,R⟩:=h.ob o _ ho;rw[hl]at A;injection A with A;injection A with A;subst A;rw[y]at p;injection p with p;injection p with e1 e2;subst e1;subst e2;have:=h.rW ho hl y H (cK:=cK) (dO:=dO) (V:=[]) (by simp) (λ i x B=>?_) (λ w' hw J=>⟨M,λ i e x he B=>?_,λ i i' x x' b B F _ _ hv X=>?_⟩)
 ·exact this
 ·grind
 ·obtain⟨h1,U,O⟩:=u i;rw[h1]at he;rw[U]at B;obtain⟨g1,g2,g3⟩:=R.2.1 _ e x he B;exact⟨g1.mono (λ _ h=>h) hw,λ _=>(g2 O).mono (λ _ h=>h) hw (λ b hb=>J b (R.nQ y B O hb)),λ q hq=>by cases hq⟩
 ·obtain⟨_,U,O⟩:=u i;obtain⟨_,T,Y⟩:=u i';rw[U]at B;rw[T]at F;exact hg _ _ (R.2.2 _ _ x x' b B F O Y hv X)
theorem Z8{o:Nat}{p:Bool}{rs:List (List AV)}{l:Loc}{bc:Nat→List Value}(hl:ι o=some (some l))(V:rs.length=l.eA)(Y:lh w l)
 (A:p9 w l rs.length bc) (R:ka p S w ι rs bc) {off n:Nat} {z:List AV} {y:List Value} (X:cy S w z y) (H:∀v∈y,v.oneCell'=true) (E:y.length=l.bX)
 (hn:off+n≤rs.length) (U:gA S w (w.setCells l.bB (l.base+off*l.bX) (List.replicate n y).flatten)):
 cX S (w.setCells l.bB (l.base+off*l.bX) (List.replicate n y).flatten) ι o (.rows p (rs.take off++(List.replicate n z++rs.drop (off+n)))):=by
 have B:(rs.take off++(List.replicate n z++rs.drop (off+n))).length=rs.length:=by simp;omega
 have oc:(List.replicate n y).flatten.length=n*l.bX:=by simp[E]
 have Z:l.base+(off*l.bX+n*l.bX)≤l.size:=by
  have:(off+n)*l.bX≤rs.length*l.bX:=YK _ hn;rw[Wg]at this;have:=A.1;omega
 have M:∀(i:Nat) r,(rs.take off++(List.replicate n z++rs.drop (off+n)))[i]? =some r→((off≤i∧i<off+n)∧r=z)∨(¬(off≤i∧i<off+n)∧rs[i]? =some r):=by
  intro i r T;rcases Wo i off with q|q
  ·grind
  ·grind
 refine .inr ⟨l,λ i=>if off≤i∧i<off+n then y else bc i,hl,by omega,Y.setCells _ _,⟨by rw[B];exact A.1,λ i F=>?_,λ i j v F O=>?_⟩,λ i r T=>?_⟩
 ·rw[B]at F;by_cases e:off≤i∧i<off+n
  ·simp_all
  ·simp only[e,Ym];exact A.2.1 i F
 ·rw[B]at F;by_cases e:off≤i∧i<off+n
  ·simp only[e,and_self,Yz]at O;have Q:j<l.bX:=by
    rw[←E];rcases Wo j y.length with h|h
    ·exact h
    ·simp_all
   have hk:(i-off)*l.bX+j<n*l.bX:=by
    have:(i-off+1)*l.bX≤n*l.bX:=YK _ (by omega)
    rw[Wg]at this;omega
   have nW:off*l.bX+((i-off)*l.bX+j)=i*l.bX+j:=by
    rw[←WW,←Wg,show off+(i-off)=i by omega]
   have:=V9 l.bB (List.replicate n y).flatten (l.base+off*l.bX) w (λ q hq=>by
    obtain⟨u,hu⟩:=(Y (l.base+off*l.bX+q)).1 (by omega)
    simp_all) ((i-off)*l.bX+j) (by omega)
   rw[show l.base+off*l.bX+((i-off)*l.bX+j)=l.base+(i*l.bX+j) by omega]at this
   refine⟨this.trans ?_,H v (YO O)⟩;have J:=Nf (n:=l.bX) n ((i-off)*l.bX+j) y E hk;rw[Y3 (by omega)]at J
   rw[J,Nat.add_comm,Nat.add_mul_mod_self_right,WE Q];exact O
  ·simp only[e,Ym]at O;have Q:j<l.bX:=by
    rw[←A.2.1 i F];rcases Wo j (bc i).length with h|h
    ·exact h
    ·simp_all
   have J:=A.2.2 i j v F O;refine⟨?_,J.2⟩;show(w.setCells l.bB (l.base+off*l.bX) (List.replicate n y).flatten).cell? _=some v;rw[Wy l.bB _ _ w _ (λ _ _=>by
    simp only;rcases Wo i off with q|q
    ·left;have:(i+1)*l.bX≤off*l.bX:=YK _ q;grind
    ·right;have:(off+n)*l.bX≤i*l.bX:=YK _ (by omega)
     grind)]
   exact J.1
 ·rcases M i r T with ⟨e,rfl⟩|⟨e,T⟩
  ·simp only[e,and_self,Yz];cases p with
   |false=>simp only[YN,Ym];exact(X.rep (ι:=ι)).mono (λ _ x=>x) U (bp.le_refl _)
   |true=>simp only[Yz];exact X.mono (λ _ x=>x) U
  ·simp only[e,Ym];have C:=R i r T;cases p with
   |false=>simp only[YN,Ym]at C⊢;exact C.mono (λ _ x=>x) U (bp.le_refl _)
   |true=>simp only[Yz]at C⊢;exact C.mono (λ _ x=>x) U
theorem Mz{cs:List AV}{bB:Obj}{vs:Array Value}{t:TypeId}{k z:Nat}(Y:cs[k]? =some .dK)(hn:gK C un id o f (.ptr id 0 0) [(id,some (.rows false [setAt cs k [.bf (id+1) z]])),(id+1,some (.rows true []))] next)
 (h:Inv C S ι un f a w) (hd:∀d,o.dst=some d→C.N.lo≤d∧d<C.N.n) (E:∀x,id≤x→x<id+W→un x)
 (U:bB=.cells vs t) (u:bA S w ι cs vs.toList) (X:∀v∈vs.toList,v.oneCell'=true) (F:(execOp a.eval o).run P w=.ok (.value (.pointer (some ⟨w.heap.size,0,none⟩))) (w.alloc bB)):
 o.wp P a w next Q:=by
 unfold Oper.wp;rw[F,YT];subst U;have H:=u.1;simp only[WA]at H;have M:=fD Y;obtain⟨ι1,y,hι1,h1⟩:=h.void (id:=id+1) (E (id+1) (by omega) (by simp[W])) true
 have V:(setAt cs k [AV.bf (id+1) z]).length=cs.length:=u6 _ _ _ (by grind)
 have A:bA S w ι1 (setAt cs k [.bf (id+1) z]) vs.toList:=by
  refine⟨by simp_all,λ j x v p R=>?_⟩
  unfold setAt at p;rcases U5 j k with q|q|q
  ·rw[Yt (by grind),Ww,if_pos q]at p
   exact(u.2 j x v p R).mono (λ _ x=>x) (λ _ _=>rfl) y
  ·subst q;rw[Yl (by grind)]at p
   simp only[Y9,YY (Vh M),V7,YC,Yv,Y5]at p;subst p;have:=u.2 j _ v Y R;cases this with
   |cu _ _ h=>cases h with|dK ad=>exact .fW (id+1) z ad hι1
  ·rw[Yl (by grind),Y9,YY (Vh M),Yl (by grind),YP]at p
   simp only[W9]at p;rw[show k+1+(j-k-1)=j by omega]at p
   exact(u.2 j x v p R).mono (λ _ x=>x) (λ _ _=>rfl) y
 generalize setAt cs k [AV.bf (id+1) z]=zi at hn V A;obtain⟨ι',J,hι',O⟩:=h1.alloc (id:=id) ⟨E id (Yg _) (by simp[W]),by omega⟩ (.cells vs t) ⟨w.heap.size,0,zi.length,zi.length,1⟩ rfl (.rows false [zi]) rfl (λ _ h=>iY rfl h) (λ ι' J hι'=>by
  refine .inr ⟨_,λ _=>vs.toList,hι',rfl,λ j=>⟨λ hj=>?_,λ _=>by simp⟩,⟨by simp,λ i Z=>by grind,λ i j v Z R=>?_⟩,λ i r T=>?_⟩
  ·simp_all
  ·simp only[W9]at Z;have:i=0:=by omega
   subst this;simp only[VV,Wf,fC];rw[World.cell?_alloc_new];grind
  ·have:i=0:=by have:=fD T;simp at this;omega
   subst this;simp only[Yv,Y5]at T;subst T;simp only[YN,Ym];exact A.mono (λ _ x=>x) (λ b U=>so w _ b (h1.sb b U)) J)
 have e:bw (bw f.os [(id+1,some (.rows true []))]) [(id,some (.rows false [zi]))]=bw f.os [(id,some (.rows false [zi])),(id+1,some (.rows true []))]:=by
  funext x;simp only[bw]
 have B:Inv C S ι' (λ x=>(un x∧x≠id+1)∧x≠id) {f with os:=bw f.os [(id,some (.rows false [zi])),(id+1,some (.rows true []))]} a (w.alloc (.cells vs t)):=by
  rw[←e];exact O
 refine Inv.goes hn B (λ x p=>⟨⟨p.1,λ e=>p.2 ⟨by omega,by subst e;simp[W]⟩⟩,λ e=>p.2 ⟨by omega,by subst e;simp[W]⟩⟩) ?_ hd
 have:=cz.ptr (S:=S) (w:=w.alloc (.cells vs t)) (ι:=ι') id 0 0 _ hι';simp_all
theorem Zc{op:Op}{v:AV}{U:List (Nat×Option AO)}{RO:bL}(V:o.op=op)(h:Inv C S ι un f a w)
 (iE:eO P (ig C.G f.g) f.os id op v U RO) (hid:∀x,id≤x→x<id+W→un x) (hd:∀d,o.dst=some d→C.N.lo≤d∧d<C.N.n) (hn:gK C un id o f v U next):o.wp P a w next Q:=by
 have Ax:∀x,un x∧¬(id≤x∧x<id+W)→un x∧x≠id:=λ x R=>qs R;have lift:∀{s:Sem Value} {v':Value} {w':World},(execOp a.eval o)=(do pure (Next.value (←s)):Sem Next)→s.run P w=.ok v' w'→(execOp a.eval o).run P w=.ok (.value v') w':=by
  intro s v' w' e h1;rw[e];simp only[Yc,h1,Y6,Yd]
 cases iE with
 |look t kt m k ok ob z fs i e hm ho T hk hr he=>
  have jY:=h.ev m;have X:=h.ev k;rw[hm]at jY;obtain⟨l,hl,j6⟩:=jY.dx;obtain⟨l',xs,J,H,E,jL,hF⟩:=h.ob ob _ ho;rw[hl]at H;injection H with H;injection H with H;subst H;obtain⟨j7,kK,⟨d,lp⟩,jO⟩:=qh hk X;obtain⟨e',oe,ji,mC⟩:=qO lp hk X (jH.vw hF) hr;unfold dL at T;split at T
  ·rename_i kk ee Y;injection T with T;subst T;have kJ:(Instr.findKey kk (a.eval k) xs.toList).run P w=.ok e' w:=oe;obtain⟨⟨j',y⟩,rfl⟩:∃p,e'=some p:=by cases e' with|none=>grind|some p=>simp
   simp only[YE,Y5]at ji;subst ji;obtain⟨x0,iZ,rz⟩:=mC j' y rfl;obtain⟨ι',hle,du,M⟩:=h.GL (ja hid) ho he hl E (x:=x0) (by simp_all)
   have F:(execOp a.eval o).run P w=.ok (.value (if ok then .tuple #[y,.bool true]else y)) w:=by
    unfold execOp;rw[V];simp only[j6,Instr.lookup,Yc,Yb Y,Y6,mF E,Yd,kK,kJ]
   unfold Oper.wp;rw[F,YT];rw[rz]at du;refine Inv.goes hn M Ax ?_ hd;cases ok
   ·exact du
   ·exact bA.kz (bA.cons du (bA.cons (.cu _ _ (.bool _)) .nil))
  grind
 |tO t kt m k ob z fs hh r hm ho T hk hr hz=>
  have jY:=h.ev m;have X:=h.ev k;rw[hm]at jY;obtain⟨l,hl,j6⟩:=jY.dx;obtain⟨l',xs,J,H,E,jL,hF⟩:=h.ob ob _ ho;rw[hl]at H;injection H with H;injection H with H;subst H;obtain⟨j7,kK,⟨d,lp⟩,jO⟩:=qh hk X;obtain⟨e',oe,ji,mC⟩:=qO lp hk X (jH.vw hF) hr;unfold dL at T;split at T
  ·rename_i kk ee Y;injection T with T;subst T;have kJ:(Instr.findKey kk (a.eval k) xs.toList).run P w=.ok e' w:=oe;have fin:∀v':Value,(execOp a.eval o).run P w=.ok (.value (.tuple #[v',.bool r.isSome])) w→o.wp P a w next Q:=λ v' F=>
    im hn h hd F (bA.kz (bA.cons (.cu _ _ (.undef _)) (bA.cons (.cu _ _ (.bool _)) .nil)))
   cases e' with
   |some p=>
    obtain⟨j,y⟩:=p;simp only[YE]at ji;subst ji;refine fin y ?_;unfold execOp;rw[V];simp only[j6,Instr.lookup,Yc,Yb Y,Y6,mF E,Yd,kK,kJ];rfl
   |none=>
    simp only[V8]at ji;subst ji;obtain⟨vt,zv,lj,hz⟩:=hz;have mz:ee=vt:=by unfold gT at lj;rw[Y]at lj;simpa using lj
    subst mz;unfold zeroV at hz;split at hz
    ·cases hz
    ·rename_i i hi;split at hz
     ·rename_i qn qv;refine fin qn ?_;have qx:(zeroValue ee).run P w=.ok qn w:=by simp[zeroValue,typeInfo,hi,qv]
      unfold execOp;rw[V];simp only[j6,Instr.lookup,Yc,Yb Y,Y6,mF E,Yd,kK,kJ,qx];rfl
     grind
  grind
 |ic t kt m k ok ob z fs hh v hm ho T hk hr Z=>
  have jY:=h.ev m;have X:=h.ev k;rw[hm]at jY;obtain⟨l,hl,j6⟩:=jY.dx;obtain⟨l',xs,J,H,E,jL,hF⟩:=h.ob ob _ ho;rw[hl]at H;injection H with H;injection H with H;subst H;obtain⟨j7,kK,⟨d,lp⟩,jO⟩:=qh hk X;obtain⟨e',oe,ji,mC⟩:=qO lp hk X (jH.vw hF) hr;unfold dL at T;split at T
  ·rename_i kk ee Y;injection T with T;subst T;have kJ:(Instr.findKey kk (a.eval k) xs.toList).run P w=.ok e' w:=oe;cases e' with
   |some p=>grind
   |none=>
    obtain⟨vt,zv,lj,hz,ke⟩:=Z;have mz:ee=vt:=by unfold gT at lj;rw[Y]at lj;simpa using lj
    subst mz;unfold zeroV at hz;split at hz
    ·cases hz
    ·rename_i i hi;split at hz
     ·rename_i qn qv;injection hz with hz;subst hz;have qx:(zeroValue ee).run P w=.ok qn w:=by simp[zeroValue,typeInfo,hi,qv]
      have F:(execOp a.eval o).run P w=.ok (.value (if ok then .tuple #[qn,.bool false]else qn)) w:=by
       unfold execOp;rw[V];simp only[j6,Instr.lookup,Yc,Yb Y,Y6,mF E,Yd,kK,kJ,qx]
      refine im hn h hd F ?_;have:=ke.rep _ (cz.cu (S:=S) (w:=w) (ι:=ι) _ _ (uP qn));cases ok
      ·exact this
      ·exact bA.kz (bA.cons this (bA.cons (.cu _ _ (.bool _)) .nil))
     grind
  grind
 |len x ts args t ob z fs hh ha ui T R ho=>
  have pM:=h.ev x;rw[R]at pM;obtain⟨l,hl,j6⟩:=pM.dx;obtain⟨l',xs,J,H,E,jL,hF⟩:=h.ob ob _ ho;rw[hl]at H;injection H with H;injection H with H;subst H;obtain⟨kt,xh⟩:=Wj.1 T;unfold dL at xh;split at xh
  ·rename_i kk ee Y;have F:(execOp a.eval o).run P w=.ok (.value (.int .i64 fs.length)) w:=by
    unfold execOp;rw[V];have sO:(args.map a.eval)[0]? =some (.map (some l.bB)):=by simp[ha,j6]
    simp[resolve,invoke,builtin,Builtin.len_,ui,sO,Yb Y,goInt,mF E,hF.1]
   exact im hn h hd F (.cu _ _ (.int _ _))
  grind
 |mk t z hk=>
  have F:(execOp a.eval o).run P w=.ok (.value (.map (some w.heap.size))) (w.alloc (.map #[] 0)):=by
   unfold execOp;rw[V];simp only[Instr.makeMap,V8,Yc,Yd,Vk,Y6];rfl
  unfold Oper.wp;rw[F,YT];have hh:(w.alloc (.map #[] 0)).heap[w.heap.size]? =some (.map #[] 0):=by show(w.heap.push _)[w.heap.size]? =_;simp
  obtain⟨ι',hle,hι',M⟩:=h.alloc (ja hid) (.map #[] 0) ⟨w.heap.size,0,0,0,0⟩ rfl (.cw z [] none) rfl (λ b hb=>by
   rcases hb with hb|⟨xs,c,i,e,h1,h2,_⟩
   all_goals simp_all) (λ ι' hle hι'=>
   ⟨_,#[],0,hι',hh,⟨by simp,Pv⟩,rfl,λ i e x h=>by simp at h,λ i j x y b h=>by simp at h⟩)
  exact Inv.goes hn M Ax (.bm id _ hι') hd
 |fq _ t kt m k x rJ ob z q fs hh r rs hm ho T hk hr Bp cS R hq Rz ub iF=>
  have jY:=h.ev m;have X:=h.ev k;have pM:=h.ev x;rw[hm]at jY;rw[R]at pM;obtain⟨l,hl,j6⟩:=jY.dx;obtain⟨l',xs,J,H,E,jL,hF⟩:=h.ob ob _ ho;rw[hl]at H;injection H with H;injection H with H;subst H;obtain⟨j7,kK,⟨d,lp⟩,jO⟩:=qh hk X;obtain⟨e',oe,ji,mC⟩:=qO lp hk X (jH.vw hF) hr;obtain⟨hV,zc⟩:=iX.of ub Rz pM (h.ob q _ hq);unfold dL at T;split at T
  ·rename_i kk ee Y;injection T with T;subst T;have kJ:(Instr.findKey kk (a.eval k) xs.toList).run P w=.ok e' w:=oe;have hex:(execOp a.eval o)=(do Instr.mapUpdate t (a.eval m) (a.eval k) (a.eval x);pure .skip:Sem Next):=by
    unfold execOp;rw[V];rcases rJ with rfl|rfl<;>rfl
   cases r with
   |none=>
    have he:e'=none:=by cases e' with|none=>rfl|some p=>grind
    subst he;have F:(execOp a.eval o).run P w=.ok .skip {w with heap:=w.heap.setIfInBounds l.bB (.map (xs.push {key:=a.eval k,val:=a.eval x,born:=J}) (J+1))}:=by
     rw[hex,j6];simp only[Instr.mapUpdate,Yc,Yb Y,Y6,mF E,kK,kJ,uY _ E,Yd]
    unfold Oper.wp;rw[F,VJ];have HL:hh=none:=by
     rcases Bp with h|⟨i,q,_,h⟩
     ·exact h
     ·cases h
    subst HL;have M:=h.BM ho hl E hq iF hV zc fs.length (ig C.G f.g k) {key:=a.eval k,val:=a.eval x,born:=J} (jo fs none (ig C.G f.g k) rs)
     (fF:=xs.push {key:=a.eval k,val:=a.eval x,born:=J}) (cK:=J+1) (by simp[jo,hF.1]) ⟨by simp only[Array.size_push];have:=hF.1;omega,Pw jL.2 (O6 hr (jH.vw hF) X)⟩
     (by simp[jo]) (by rw[hF.1];simp) rfl j7 (λ i hi=>⟨by
      simp only[jo];grind,by
      rw[VP];split
      ·rename_i e;exact absurd (e.trans hF.1.symm) hi
      ·rfl,by simp⟩)
    exact Inv.goes hn M (λ x R=>R.1) (.cu _ _ (.undef _)) hd
   |some j=>
    obtain⟨⟨j',y⟩,rfl⟩:∃p,e'=some p:=by cases e' with|none=>grind|some p=>simp
    simp only[YE,Y5]at ji;subst ji;obtain⟨x0,iZ,rz⟩:=mC j' y rfl;obtain⟨_,e0,nj,sQ⟩:=O5 _ 0 _ hr j' rfl;rw[Nat.sub_zero]at nj;have w9:=OJ sQ X ((jH.vw hF).2 j' e0 x0 nj iZ).1;have A0:xs[j']? =some x0:=by rw[←WG];exact iZ
    have F:(execOp a.eval o).run P w=.ok .skip {w with heap:=w.heap.setIfInBounds l.bB (.map (xs.modify j' λ e=>{e with key:=a.eval k,val:=a.eval x}) J)}:=by
     rw[hex,j6];simp only[Instr.mapUpdate,Yc,Yb Y,Y6,mF E,kK,kJ,A0,YE,YJ,Instr.keyThatStays,w9,Yz,uY _ E,Yd]
    unfold Oper.wp;rw[F,VJ];have sR:j'<fs.length:=by rw[hF.1];exact(WO.1 A0).1
    have M:=h.BM ho hl E hq iF hV zc j' (ig C.G f.g k) {x0 with key:=a.eval k,val:=a.eval x} (jo fs (some j') (ig C.G f.g k) rs)
     (fF:=xs.modify j' λ e=>{e with key:=a.eval k,val:=a.eval x}) (cK:=J) (by simp[jo,hF.1]) ⟨by simpa using jL.1,Zlb jL.2 A0 (ZqU sQ X ((jH.vw hF).2 j' e0 x0 nj iZ).1)⟩
     (by simp[jo,sR]) (by grind) rfl j7 (λ i hi=>⟨by
      simp only[jo];grind,by
      grind,by
      rcases Bp with h|⟨i0,q0,h1,h2⟩
      all_goals grind⟩)
    exact Inv.goes hn M (λ x R=>R.1) (.cu _ _ (.undef _)) hd
  grind
 |del t tk kt m k ob z fs hh r hm ho T hk hr Bp=>
  have jY:=h.ev m;have X:=h.ev k;rw[hm]at jY;obtain⟨l,hl,j6⟩:=jY.dx;obtain⟨l',xs,J,H,E,jL,hF⟩:=h.ob ob _ ho;rw[hl]at H;injection H with H;injection H with H;subst H;obtain⟨j7,kK,⟨d,lp⟩,jO⟩:=qh hk X;obtain⟨e',oe,ji,mC⟩:=qO lp hk X (jH.vw hF) hr;unfold dL at T;split at T
  ·rename_i kk ee Y;injection T with T;subst T;have kJ:(Instr.findKey kk (a.eval k) xs.toList).run P w=.ok e' w:=oe;cases r with
   |none=>
    have he:e'=none:=by cases e' with|none=>rfl|some p=>grind
    subst he;have F:(execOp a.eval o).run P w=.ok (.value (.tuple #[])) {w with heap:=w.heap.setIfInBounds l.bB (.map xs J)}:=by
     unfold execOp;rw[V];simp[resolve,invoke,builtin,Builtin.delete_,Yb Y,j6,mF E,kK,kJ,uY _ E]
    unfold Oper.wp;rw[F,YT];have HL:hh=none:=by
     rcases Bp with h|⟨i,q,_,h⟩
     ·exact h
     ·cases h
    subst HL;have M:=h.BL ho hl E (lD fs none) (λ i=>i) (λ _ _ e=>e) (fF:=xs) (cK:=J) hF.1 jL (λ i=>⟨rfl,rfl,by simp⟩)
    exact Inv.goes hn M (λ x R=>R.1) (.cx [] #[] rfl (λ j x v h=>by simp at h)) hd
   |some j=>
    obtain⟨⟨j',y⟩,rfl⟩:∃p,e'=some p:=by cases e' with|none=>grind|some p=>simp
    simp only[YE,Y5]at ji;subst ji;obtain⟨x0,iZ,rz⟩:=mC j' y rfl;have sR:j'<xs.size:=by have:=fD iZ;simpa using this
    have F:(execOp a.eval o).run P w=.ok (.value (.tuple #[])) {w with heap:=w.heap.setIfInBounds l.bB (.map (xs.eraseIdxIfInBounds j') J)}:=by
     unfold execOp;rw[V];simp[resolve,invoke,builtin,Builtin.delete_,Yb Y,j6,mF E,kK,kJ,uY _ E]
    unfold Oper.wp;rw[F,YT];have qy:xs.eraseIdxIfInBounds j'=xs.eraseIdx j' sR:=by simp[Array.eraseIdxIfInBounds,sR]
    have M:=h.BL ho hl E (lD fs (some j')) (λ i=>if i<j' then i else i+1) (λ i j e=>by
     grind) (fF:=xs.eraseIdxIfInBounds j') (cK:=J)
     (by rw[qy];simp[lD,List.length_eraseIdx,hF.1,sR]) (by rw[qy];exact⟨by have:=jL.1;grind,ZlX jL.2 sR⟩) (λ i=>⟨by
      simp only[lD];grind,by
      grind,by
      rcases Bp with h|⟨i0,q0,h1,h2⟩
      all_goals grind⟩)
    exact Inv.goes hn M (λ x R=>R.1) (.cx [] #[] rfl (λ j x v h=>by simp at h)) hd
  grind
 |copy t ts d s ob off len p rs q sz ho pT hs T hr pO=>
  have Eb:=h.ev d;have Ra:=h.ev s;obtain⟨e,i,zv,qA,hi,_,_,fg,_⟩:=td T;obtain⟨k,hk⟩:∃k,k=min len q.2.1.length:=⟨_,rfl⟩;obtain⟨us,hF,Hd⟩:=B1 (P:=P) (p:=q.1) (rs:=q.2.1) (ro:=q.2.2) h.ob Ra hs pO k (by omega)
  obtain⟨dv,cap,rP,iS⟩:∃dv cap,a.eval d=.slice dv len cap∧off+len≤rs.length∧((∃l,ι ob=some (some l)∧len≤cap∧l.eA=rs.length∧(cap≠0→dv=some ⟨l.bB,l.base+off*l.bX,none⟩))∨len=0):=by
   have fw:∀l,ι ob=some (some l)→l.eA=rs.length:=λ l hl=>by
    rcases h.ob ob _ ho with ⟨g,_⟩|⟨l',bc,g,hc,_⟩
    all_goals simp_all
   rcases pT with ⟨z,lp,rfl,rfl⟩|⟨room,lp,Lf⟩
   ·rw[lp]at Eb;rcases kZ Eb with ⟨l,ad,cap,jP,Z,h2,h3,h4,hz,ha⟩|⟨jP,ad,Z⟩
    ·grind
    ·have:rs=[]:=by
      rcases h.ob ob _ ho with ⟨_,h⟩|⟨l',bc,g,_⟩
      ·exact h
      ·simp_all
     simp_all
   ·rw[lp]at Eb;rcases xI Eb with ⟨l,ad,cap,jP,Z,h1,h2,h3,h4,h5,ha⟩|⟨jP,rfl,rfl,rfl,ad,Z⟩
    all_goals grind
  obtain⟨Br,iS⟩:=iS;have hlen:=Hd.len w;have iG:=Hd.cells w rfl;have uo:Nat.min q.2.1.length len=k:=by rw[hk];exact Nat.min_comm _ _
  rw[←hk]at hn;have same:∀{p':Bool},k=0→cX S w ι ob (.rows p' rs)→Inv C S ι un {f with os:=bw f.os [(ob,some (.rows p' (rs.take off++(q.2.1.take k++rs.drop (off+k)))))]} a w:=by
   intro p' yX gm;have e1:rs.take off++(q.2.1.take k++rs.drop (off+k))=rs:=by rw[yX];simp
   rw[e1];refine h.iC (λ _ x=>x) (λ _ _=>rfl) (bp.le_refl _) (λ k2 y hy=>?_) (λ k2 y hy mB l2 ll b hb=>?_) (λ k1 k2 y1 y2 mw nS iR jX l1 l2 e1 e2 b lB kN=>?_) h.sb h.sn h.un h.fr
   ·simp only[bw]at hy;by_cases e:k2=ob
    ·simp_all
    ·rw[if_neg e]at hy;exact h.ob k2 y hy
   ·simp only[bw]at hy;by_cases e:k2=ob
    ·rw[if_pos e]at hy;injection hy with hy;subst hy;subst e;have BA:=iY rfl hb;exact h.own k2 _ ho rfl l2 ll b (.inl BA)
    ·rw[if_neg e]at hy;exact h.own k2 y hy mB l2 ll b hb
   ·have tr:∀k2 y,bw f.os [(ob,some (.rows p' rs))] k2=some y→y.live=true→∀l2 b,c6 w y l2 b→∃y',f.os k2=some y'∧y'.live=true∧c6 w y' l2 b:=by
     intro k2 y hy Z l2 b hb;simp only[bw]at hy;by_cases e:k2=ob
     ·rw[if_pos e]at hy;injection hy with hy;subst hy;subst e;exact⟨_,ho,rfl,.inl (iY rfl hb)⟩
     ·simp_all
    obtain⟨z1,g1,g2,g3⟩:=tr k1 y1 mw iR l1 b lB;obtain⟨z2,j1,j2,j3⟩:=tr k2 y2 nS jX l2 b kN;exact h.inj k1 k2 z1 z2 g1 j1 g2 j2 l1 l2 e1 e2 b g3 j3
  have qZ:cX S w ι ob (.rows (p&&q.1) rs):=by
   rcases h.ob ob _ ho with ⟨g,g2⟩|⟨l,bc,g,g2,g3,g4,g5⟩
   ·exact .inl ⟨g,g2⟩
   ·refine .inr ⟨l,bc,g,g2,g3,g4,λ j r hr=>?_⟩;have:=g5 j r hr
    cases p
    ·simp_all
    ·simp only[Yz]at this;cases q.1
     ·simp only[Bool.and_false,YN,Ym];exact this.rep
     simp_all
  by_cases yX:k=0
  ·have G7:us=[]:=by
    have:=hF.len;rw[yX]at this;exact YR.1 (by grind)
   have F:(execOp a.eval o).run P w=.ok (.value (.int .i64 (k:Nat))) w:=by
    unfold execOp;rw[V];subst G7;cases dv with
    |none=>simp[resolve,invoke,builtin,Builtin.copy_,Yb qA,rP,hlen,sizeOf,typeInfo,hi,uo,fg,iG,goInt]
    |some ad=>simp[storeCells,resolve,invoke,builtin,Builtin.copy_,Yb qA,rP,hlen,sizeOf,typeInfo,hi,uo,fg,iG,goInt]
   unfold Oper.wp;rw[F,YT];exact Inv.goes hn (same yX qZ) (λ x R=>R.1) (.cu _ _ (.int _ _)) hd
  ·rcases iS with ⟨l,jP,hlc,fw,H9⟩|h0
   ·obtain rfl:=H9 (by omega)
    rcases h.ob ob _ ho with ⟨g,_⟩|⟨l',bc,g,hc,hm,eY,du⟩
    ·simp_all
    ·rw[g]at jP;injection jP with jP;injection jP with jP;subst jP;have Bt:l'.bX=sz:=by
      obtain⟨r,rG⟩:∃r,rs[0]? =some r:=⟨_,Y3 (by omega)⟩
      have g1:=eY.2.1 0 (by omega)
      have g2:=(du.get rG).1;have g3:=hr r (YO rG);omega
     have Bo:(q.2.1.take k).length=k:=by simp;omega
     have Q3:us.length=k*l'.bX:=by rw[hF.len,Bo,Bt]
     have rC:(off+k)*l'.bX≤rs.length*l'.bX:=YK _ (by omega)
     rw[Wg]at rC;have BB:=eY.1;have iE:=VN (P:=P) l'.bB (l'.base+off*l'.bX) us 0 w (λ j hj=>by
      obtain⟨u,hu⟩:=(hm (l'.base+off*l'.bX+j)).1 (by omega)
      grind) (λ j hj=>by
      simp only[WC];exact(hm (l'.base+off*l'.bX+j)).2 (.inl (by omega))) hF.one
     simp only[WC]at iE;have F:(execOp a.eval o).run P w=.ok (.value (.int .i64 (k:Nat))) (w.setCells l'.bB (l'.base+off*l'.bX) us):=by
      unfold execOp;rw[V];simp[resolve,invoke,builtin,Builtin.copy_,Yb qA,rP,hlen,sizeOf,typeInfo,hi,uo,fg,iG,iE,goInt]
     unfold Oper.wp;rw[F,YT];have M:=h.writes ho rfl g (x':=.rows (p&&q.1) (rs.take off++(q.2.1.take k++rs.drop (off+k)))) rfl (l'.base+off*l'.bX) us (λ hw=>by
      obtain⟨A,hA,SF⟩:=E4 eY du 0 off (by omega)
      obtain⟨B,hB,SC⟩:=E4 eY du (off+k) (rs.length-(off+k)) (by omega)
      rw[VK]at hA;have SE:(rs.drop (off+k)).take (rs.length-(off+k))=rs.drop (off+k):=Yk (by simp)
      rw[SE]at hB;have hAl:A.length=off*l'.bX:=by rw[hA.len,Y9,YY (by omega)]
      have Ej:Flat q.1 S w ι l'.bX (q.2.1.take k) us:=by rw[Bt];exact hF
      have jb:=(hA.append (Ej.append hB)).mono (λ _ x=>x) hw (bp.le_refl _);have Lq:(rs.take off++(q.2.1.take k++rs.drop (off+k))).length=rs.length:=by simp;omega
      have dC:∀(j:Nat) v,(A++(us++B))[j]? =some v→fC (w.setCells l'.bB (l'.base+off*l'.bX) us) l'.bB (l'.base+j)=some v:=by
       intro j v Z;rcases Wo j A.length with hj|hj
       ·rw[Yt hj]at Z;have:=SF j v Z;simp only[VV,WC]at this;show(w.setCells l'.bB (l'.base+off*l'.bX) us).cell? _=some v;rw[Wy l'.bB us _ w _ (λ _ _=>by grind)]
        exact this
       ·rw[Yl hj]at Z;rcases Wo (j-A.length) us.length with xk|xk
        ·rw[Yt xk]at Z;have:=V9 l'.bB us (l'.base+off*l'.bX) w (λ q hq=>by
          obtain⟨u,hu⟩:=(hm (l'.base+off*l'.bX+q)).1 (by omega)
          grind) (j-A.length) xk
         grind
        ·rw[Yl xk]at Z;have:=SC (j-A.length-us.length) v Z;rw[show l'.base+(off+k)*l'.bX+(j-A.length-us.length)=l'.base+j by grind]at this
         show(w.setCells l'.bB (l'.base+off*l'.bX) us).cell? _=some v;rw[Wy l'.bB us _ w _ (λ _ _=>by grind)]
         exact this
      have e1:(p&&(q.1&&p))=(p&&q.1):=by cases p<;>cases q.1<;>rfl
      rw[e1]at jb;exact .inr ⟨l',_,g,by omega,hm.setCells _ _,jb.at dC (by grind),jb.rows⟩)
     exact Inv.goes hn M (λ x R=>R.1) (.cu _ _ (.int _ _)) hd
   omega
 |sa t tk kt m k ob p es r hm ho T hk hr=>
  have jY:=h.ev m;have X:=h.ev k;rw[hm]at jY;obtain⟨l,hl,j6⟩:=jY.dx;obtain⟨l',xs,J,H,E,D6,jL⟩:=h.ob ob _ ho;rw[hl]at H;injection H with H;injection H with H;subst H;obtain⟨j7,kK,⟨d,lp⟩,jO⟩:=qh hk X;obtain⟨e',oe,ji,mC⟩:=qO lp hk X D6 hr;unfold dL at T;split at T
  ·rename_i kk ee Y;injection T with T;subst T;have kJ:(Instr.findKey kk (a.eval k) xs.toList).run P w=.ok e' w:=oe;cases r with
   |none=>
    have he:e'=none:=by cases e' with|none=>rfl|some p=>grind
    subst he;have F:(execOp a.eval o).run P w=.ok (.value (.tuple #[])) {w with heap:=w.heap.setIfInBounds l.bB (.map xs J)}:=by
     unfold execOp;rw[V];simp[resolve,invoke,builtin,Builtin.delete_,Yb Y,j6,mF E,kK,kJ,uY _ E]
    unfold Oper.wp;rw[F,YT];have M:=h.tM ho hl (p':=p) (zh:=lE es none) (fF:=xs) (cK:=J) jL (λ hw=>D6.mono (λ _ x=>x) hw (bp.le_refl _));exact Inv.goes hn M (λ x R=>R.1) (.cx [] #[] rfl (λ j x v h=>by simp at h)) hd
   |some j=>
    obtain⟨⟨j',y⟩,rfl⟩:∃p,e'=some p:=by cases e' with|none=>grind|some p=>simp
    simp only[YE,Y5]at ji;subst ji;obtain⟨x0,iZ,rz⟩:=mC j' y rfl;have sR:j'<xs.size:=by have:=fD iZ;simpa using this
    have F:(execOp a.eval o).run P w=.ok (.value (.tuple #[])) {w with heap:=w.heap.setIfInBounds l.bB (.map (xs.eraseIdxIfInBounds j') J)}:=by
     unfold execOp;rw[V];simp[resolve,invoke,builtin,Builtin.delete_,Yb Y,j6,mF E,kK,kJ,uY _ E]
    unfold Oper.wp;rw[F,YT];have qy:xs.eraseIdxIfInBounds j'=xs.eraseIdx j' sR:=by simp[Array.eraseIdxIfInBounds,sR]
    have M:=h.tM ho hl (p':=p) (zh:=lE es (some j')) (fF:=xs.eraseIdxIfInBounds j') (cK:=J) (by grind) (λ hw=>by
     have lA:=D6.mono (λ _ x=>x) hw (bp.le_refl _);have G1:(xs.eraseIdxIfInBounds j').toList=xs.toList.eraseIdx j':=by rw[qy,Array.toList_eraseIdx]
     rw[G1];have vG:=D6.1;have RL:j'<xs.toList.length:=by simpa using sR
     refine⟨by simp only[lE];grind,λ i e x h1 h2=>?_⟩
     simp only[lE]at h1;rw[List.getElem?_eraseIdx]at h1 h2;by_cases hi:i<j'
     ·rw[if_pos hi]at h1 h2;exact lA.2 i e x h1 h2
     ·rw[if_neg hi]at h1 h2;exact lA.2 (i+1) e x h1 h2)
    exact Inv.goes hn M (λ x R=>R.1) (.cx [] #[] rfl (λ j x v h=>by simp at h)) hd
  grind
 |oK t t' e x ob z p rs R ho T=>
  have Z:=h.ev x;rw[R]at Z;obtain⟨ad,len,cap,nT,hp⟩:∃ad len cap,a.eval x=.slice ad len cap∧(ad.isNone=true→rs=[]):=by
   rcases kZ Z with ⟨l,ab,cap,q,nT,_⟩|⟨q,ab,nT⟩
   ·simp_all
   ·refine⟨_,_,_,nT,λ _=>?_⟩;rcases h.ob ob _ ho with ⟨_,h⟩|⟨l,bc,q',_⟩
    all_goals simp_all
  refine im hn h hd (v':=.bool ad.isNone) (lift (by unfold execOp;rw[V]) ?_) (.cu _ _ (.eR _ _ hp))
  rw[nT];simp only[show a.eval (.const (.slice none 0 0))=.slice none 0 0 from rfl,eqGuard_at_slice,Yc,Yd,Y6]
  exact run_eql_slice_nil w t e ad len cap T
 |BQ t x ob off len room p rs z sz R ho T hz hr ux=>
  have Z:=h.ev x;rw[R]at Z;have same:∀{oH},oH=rs→({f with os:=bw f.os [(ob,some (.rows p oH))]}:FS)=f:=λ e=>by
   rw[e];have:bw f.os [(ob,some (AO.rows p rs))]=f.os:=by
    funext k;simp only[bw];by_cases e:k=ob
    ·simp_all
    ·grind
   rw[this]
  obtain⟨e,i,zv,qA,hi,qv,hb,fg,qw,ua,qx,AZ⟩:=Co (S:=S) (w:=w) hz T;by_cases vG:len=0
  ·subst vG;have F:(execOp a.eval o).run P w=.ok (.value (.tuple #[])) w:=by
    obtain⟨ad,cap,nT⟩:∃ad cap,a.eval x=.slice ad 0 cap:=by
     generalize a.eval x=v' at Z;cases Z with
     |cu _ _ hh=>cases hh
     |fp=>simp
     |jg=>simp
    unfold execOp;rw[V];cases ad with
    |none=>simp[resolve,invoke,builtin,Builtin.clear_,Yb qA,nT]
    |some ad=>simp[resolve,invoke,builtin,Builtin.clear_,Yb qA,nT]
   unfold Oper.wp;rw[F,YT];refine Inv.goes hn (S':=S) (ι':=ι) (sL:=un) ?_ (λ x R=>R.1) (.cx [] #[] rfl (λ j x v h=>by simp at h)) hd
   simp_all
  ·obtain⟨ad,cap,l,nT,jP,h1,h2,h3,h4,h5,ha⟩:∃ad cap l,a.eval x=.slice (some ad) len cap∧ι ob=some (some l)∧len≤room∧room≤cap∧l.base+(off+cap)*l.bX≤l.size∧len≤bI∧off+room≤l.eA∧
    (cap≠0→ad=⟨l.bB,l.base+off*l.bX,none⟩):=by
    generalize a.eval x=v' at Z;cases Z with
    |cu _ _ hh=>cases hh
    |fp _ _ _ _ cap a l g g1 g2 g3 g4 g5 ga=>grind
    |jg=>omega
   have oi:=ha (by omega)
   subst oi;rcases h.ob ob _ ho with ⟨q,_⟩|⟨l',bc,q,fw,hm,eY,du⟩
   ·simp_all
   ·rw[q]at jP;injection jP with jP;injection jP with jP;subst jP;have Bt:l'.bX=sz:=by
     obtain⟨r,rG⟩:∃r,rs[0]? =some r:=⟨_,Y3 (by omega)⟩
     have g1:=eY.2.1 0 (by omega)
     have g2:=(du.get rG).1;have g3:=hr r (YO rG);omega
    have DT:(Builtin.zeroCells zv.cells len).toList=(List.replicate len zv.cells.toList).flatten:=by
     have:=E6 zv.cells len;exact this
    have rK:∀v,v∈(List.replicate len zv.cells.toList).flatten→v.oneCell'=true:=by
     intro v Z;simp only[List.mem_flatten,List.mem_replicate]at Z;obtain⟨l,⟨_,rfl⟩,Z⟩:=Z;exact Jn qx AZ v Z
    have oc:(List.replicate len zv.cells.toList).flatten.length=len*sz:=by simp[qw]
    have rC:(off+len)*l'.bX≤rs.length*l'.bX:=YK _ (by omega)
    rw[Wg,Bt]at rC;have BB:=eY.1;rw[Bt]at BB;have iE:=VN (P:=P) l'.bB (l'.base+off*l'.bX) (List.replicate len zv.cells.toList).flatten 0 w (λ j hj=>by
     obtain⟨u,hu⟩:=(hm (l'.base+off*l'.bX+j)).1 (by grind)
     simp_all) (λ j hj=>by
     simp only[WC];exact(hm (l'.base+off*l'.bX+j)).2 (.inl (by grind))) rK
    simp only[WC]at iE;obtain⟨m,Rx⟩:∃m,len=m+1:=⟨len-1,by omega⟩
    have F:(execOp a.eval o).run P w=.ok (.value (.tuple #[])) (w.setCells l'.bB (l'.base+off*l'.bX) (List.replicate len zv.cells.toList).flatten):=by
     unfold execOp;rw[V];subst Rx;simp[resolve,invoke,builtin,Builtin.clear_,Yb qA,nT,zeroValue,typeInfo,hi,qv,DT,iE]
    unfold Oper.wp;rw[F,YT];have M:=h.writes ho rfl q (x':=.rows p (rs.take off++(List.replicate len z++rs.drop (off+len)))) rfl (l'.base+off*l'.bX) (List.replicate len zv.cells.toList).flatten (λ hw=>
     Z8 q fw hm eY du qx (Jn qx AZ) (by simp_all) (by omega) hw)
    exact Inv.goes hn M (λ x R=>R.1) (.cx [] #[] rfl (λ j x v h=>by simp at h)) hd
 |tW t len parts z cs T hz cS jx nW iG jb nG hf=>
  obtain⟨e,i,zv,qA,hi,qv,hb,fg,qw,ua,qx,AZ⟩:=Co (S:=S) (w:=w) hz T;obtain⟨O,DN,h1,_,F⟩:=Tj V h T hz cS iG jb hf;obtain⟨c1,c2,c3⟩:=Nt 1 len cs iG;have hF:Flat true S w ι 1 (chunk 1 len cs) O.toList:=by
   refine⟨c2,by rw[←h1.1,iG,c3],wx h1 jb,?_⟩
   rw[c1];simpa[dQ]using h1.free nG
  unfold Oper.wp;rw[F,YT];have dC:∀(j:Nat) v,O.toList[j]? =some v→fC (w.alloc (.cells O DN (0,0))) w.heap.size (0+j)=some v:=by
   intro j v Z;simp only[fC,Wf];rw[Je,←WG];exact Z
  have sU:O.size=len:=by have:=h1.1;simp only[WA]at this;omega
  obtain⟨ι',hle,hι',M⟩:=h.alloc (ja hid) (.cells O DN (0,0)) ⟨w.heap.size,0,1,O.size,(chunk 1 len cs).length⟩ rfl (.lit (chunk 1 len cs)) rfl (λ _ h=>iY rfl h) (λ ι' hle hι'=>by
   have Ej:Flat true S (w.alloc (.cells O DN (0,0))) ι' 1 (chunk 1 len cs) O.toList:=hF.mono (λ _ x=>x) (λ b hb=>so w _ b (h.sb b hb)) hle;have hA:=Flat.at (l:=⟨w.heap.size,0,1,O.size,(chunk 1 len cs).length⟩) Ej dC (by simp_all)
   exact⟨_,_,hι',⟨O,DN,by show(w.heap.push _)[w.heap.size]? =_;simp,rfl⟩,rfl,by omega,rfl,hA,Ej.rows⟩)
  refine Inv.goes hn M (λ x R=>qs R) ?_ hd;rw[←c3]
  exact cz.bf id 1 (chunk 1 len cs).length _ _ hι' (Yg _) (by simp_all) (by simp_all) (λ h0 _=>rfl) (λ _=>rfl)
 |mE t cs k z hz hk=>
  obtain⟨zv,h1,h2,h3⟩:=Oy (w:=w) (S:=S) (ι:=ι) hz;refine Mz hk hn h hd hid rfl h2 h3 (t:=t) ?_;refine lift (by unfold execOp;rw[V]) ?_
  simp only[Instr.alloc,Yc,h1,Y6,newVar,newRow,Vk,Yd,World.alloc]
 |uG t x cs k z hc hk=>
  obtain⟨h2,h3⟩:=zL hc (h.ev x);refine Mz hk hn h hd hid rfl h2 (wx h2 h3) (t:=t) ?_;refine lift (by unfold execOp;rw[V]) ?_
  rfl
 |mD t parts cs k z hb hk=>
  obtain⟨v',h1,h2⟩:=Nq (P:=P) (w:=w) h.ev hb;obtain⟨vs,rfl,Q2,G5⟩:=h2.eg;obtain⟨ι1,Bm,hι1,iR⟩:=h.void (id:=id) (hid id (Yg _) (by simp[W])) true
  have Bo:=fD hk;have iG:(setAt cs k [AV.bf id z]).length=cs.length:=u6 _ _ _ (by grind)
  have G3:bA S w ι1 (setAt cs k [.bf id z]) vs.toList:=by
   refine⟨by omega,λ j x v R Z=>?_⟩
   unfold setAt at R;rcases U5 j k with q|q|q
   ·rw[Yt (by grind),Ww,if_pos q]at R
    exact(G5 j x v R Z).mono (λ _ x=>x) (λ _ _=>rfl) Bm
   ·subst q;rw[Yl (by grind)]at R
    simp only[Y9,YY (Vh Bo),V7,YC,Yv,Y5]at R;subst R;have:=G5 j _ v hk Z;cases this with
    |cu _ _ h=>cases h with|dK ad=>exact .fW id z ad hι1
   ·rw[Yl (by grind),Y9,YY (Vh Bo),Yl (by grind),YP]at R
    simp only[W9]at R;rw[show k+1+(j-k-1)=j by omega]at R
    exact(G5 j x v R Z).mono (λ _ x=>x) (λ _ _=>rfl) Bm
  have F:(execOp a.eval o).run P w=.ok (.value (.agg vs)) w:=by
   refine lift (by unfold execOp;rw[V]) ?_
   simpa using h1
  unfold Oper.wp;rw[F,YT];exact Inv.goes hn iR (λ x R=>Ax x R) G3.agg hd
 |Ep s d x ob rs R ho T=>
  obtain⟨rfl,e,hs,he⟩:=X5 T;have Z:=h.ev x;rw[R]at Z;obtain⟨l,bc,hl,⟨c,ce,E,fg⟩,R5,nW,fw,eY,du⟩:=h.ob ob _ ho;rcases kZ Z with ⟨l',ad,cap,q,nT,g1,g2,g3,g4,ga⟩|⟨q,ab,nT⟩
  ·rw[hl]at q;injection q with q;injection q with q;subst q;have xr:=ga (by omega)
   subst xr;have F:(execOp a.eval o).run P w=.ok (.value (.slice (some ⟨l.bB,l.base,none⟩) l.eA cap)) (w.freeze ⟨l.bB,c.size,none⟩ 1):=by
    have vD:w.shape? l.bB=some (ce,c.size):=by unfold World.shape?;rw[E]
    unfold execOp;rw[V];simp[nT,convert,Yb hs,Yb he,markStringish,vD]
   unfold Oper.wp;rw[F,YT];have nZ:(w.freeze ⟨l.bB,c.size,none⟩ 1).heap[l.bB]? =some (.cells c ce (c.size,c.size+1)):=by
    unfold World.freeze;rw[if_neg (by decide)]
    simp only[Ug,E];simp
   have nX:∀b,b≠l.bB→(w.freeze ⟨l.bB,c.size,none⟩ 1).heap[b]? =w.heap[b]? :=by
    intro b hb;unfold World.freeze;rw[if_neg (by decide)]
    simp only[Ug];rw[if_neg (λ e=>hb e.symm)]
   have G2:(w.freeze ⟨l.bB,c.size,none⟩ 1).heap.size=w.heap.size:=by
    unfold World.freeze;rw[if_neg (by decide)]
    simp
   have dC:∀j,fC (w.freeze ⟨l.bB,c.size,none⟩ 1) l.bB j=fC w l.bB j:=by
    intro j;simp only[fC,World.cell?,nZ,E]
   have M:=h.changes (w':=w.freeze ⟨l.bB,c.size,none⟩ 1) ho rfl hl (x':=.rows true rs) rfl (by rfl) (by rfl) G2 nX (λ hw=>by
    refine .inr ⟨l,bc,hl,fw,λ j=>⟨λ hj=>?_,λ hj=>?_⟩,⟨eY.1,eY.2.1,λ i j v hi Z=>by rw[dC];exact eY.2.2 i j v hi Z⟩,du.mono (λ _ x=>x) hw (bp.le_refl _)⟩
    ·rw[dC];exact(ER.GK ⟨c,ce,E,fg⟩ j).1 hj
    ·rcases hj with hj|hj
     ·simp only[World.frozen?,nZ];grind
     omega)
   refine Inv.goes hn M (λ x R=>R.1) ?_ hd;exact .bf ob 1 cap _ l hl g1 g2 g3 g4 ga
  simp_all
end
section
variable {S:Nat→Prop}{w:World}{x:AO}{ι:bp}{σ:Nat→Nat}
theorem Pb(base:Nat→Option AO):∀(U U':List (Nat×Option AO)),bw base (U++U')=bw (bw base U') U:=by
 intro U;induction U with
 |nil=>intro U';rfl
 |cons e r ih=>intro U';funext o;simp only[YC,bw,ih]
theorem NS{id:Nat}:∀{os:List (Nat×AO)} (base:Nat→Option AO) (o:Nat),
 bw base (qd id os) o=if id≤o∧(lk os (o-id)).isSome then(lk os (o-id)).map (dq (id+ ·))else base o:=by
 intro os;induction os with
 |nil=>intro base o;simp[qd,bw,lk]
 |cons e r ih=>
  intro base o;have:=ih base o;simp only[qd,Yy,bw]at this⊢;by_cases h:o=id+e.1
  ·subst h;rw[if_pos rfl];simp[lk]
  ·rw[if_neg h,this];by_cases h1:id≤o
   ·have:o-id≠e.1:=by omega
    simp[lk,this]
   grind
theorem xO(σ:Nat→Nat):∀l:List AV,fT σ l=l.map (cY σ):=by
 intro l;induction l with
 |nil=>rfl
 |cons x r ih=>simp[fT,ih]
theorem cz.qt{ι':bp}(hσ:∀o y,ι o=some y→ι' (σ o)=some y){x:AV}{v:Value}(h:cz S w ι x v):
 cz S w ι' (cY σ x) v:=by
 induction h with
 |cu x v h=>
  induction h with
  |agg cs vs hl _ ih=>
   simp only[cY,xO];refine .agg _ vs (by simp_all) (λ j x v i q=>?_)
   grind
  |cx cs vs hl _ ih=>
   simp only[cY,xO];refine .cx _ vs (by simp_all) (λ j x v i q=>?_)
   grind
  |fn f cs vs hl _ ih=>
   simp only[cY,xO];refine .fn f _ vs (by simp_all) (λ j x v i q=>?_)
   grind
  |int k n=>exact .cu _ _ (.int k n)
  |bool b=>exact .cu _ _ (.bool b)
  |str s=>exact .cu _ _ (.str s)
  |dK a=>exact .cu _ _ (.dK a)
  |gG=>exact .cu _ _ .gG
  |sl xs a cap sz bc h1 h2 h3 h4 h5 h6=>exact .cu _ _ (.sl xs a cap sz bc h1 h2 h3 h4 h5 h6)
  |rp row off bB base bc h1 h2 h3 h4=>exact .cu _ _ (.rp row off bB base bc h1 h2 h3 h4)
  |eT v h=>exact .cu _ _ (.eT v h)
  |undef v=>exact .cu _ _ (.undef v)
  |eR p b h=>exact .cu _ _ (.eR p b h)
 |agg cs vs hl _ ih=>
  simp only[cY,xO];refine .agg _ vs (by simp_all) (λ j x v i q=>?_)
  grind
 |cx cs vs hl _ ih=>
  simp only[cY,xO];refine .cx _ vs (by simp_all) (λ j x v i q=>?_)
  grind
 |fn f cs vs hl _ ih=>
  simp only[cY,xO];refine .fn f _ vs (by simp_all) (λ j x v i q=>?_)
  grind
 |ptr o r c l h=>exact .ptr (σ o) r c l (hσ o _ h)
 |fp o off len room cap a l h h1 h2 h3 h4 h5 ha=>exact .fp (σ o) off len room cap a l (hσ o _ h) h1 h2 h3 h4 h5 ha
 |jg o a h=>exact .jg (σ o) a (hσ o _ h)
 |bf o z cap a l h h2 h3 h4 hz ha=>exact .bf (σ o) z cap a l (hσ o _ h) h2 h3 h4 hz ha
 |fW o z a h=>exact .fW (σ o) z a (hσ o _ h)
 |bm o l h=>exact .bm (σ o) l (hσ o _ h)
theorem bA.qt{ι':bp}(hσ:∀o y,ι o=some y→ι' (σ o)=some y){cs:List AV}{vs:List Value}(h:bA S w ι cs vs):
 bA S w ι' (fT σ cs) vs:=by
 rw[xO];refine⟨by simpa using h.1,λ j x v i p=>?_⟩
 rw[YD]at i;cases hj:cs[j]? with
 |none=>simp_all
 |some y=>rw[hj]at i;simp only[YE,Y5]at i;subst i;exact(h.2 j y v hj p).qt hσ
theorem cX.qt{ι':bp}(hσ:∀o y,ι o=some y→ι' (σ o)=some y){o:Nat}(h:cX S w ι o x):
 cX S w ι' (σ o) (dq σ x):=by
 cases x with
 |rows p rs=>
  cases p with
  |true=>
   rcases h with ⟨h,rfl⟩|⟨l,bc,h1,E,B,A,J⟩
   ·exact .inl ⟨hσ _ _ h,rfl⟩
   ·refine .inr ⟨l,bc,hσ _ _ h1,E,B,A,λ i r H=>?_⟩;have:=J i r H
    simp_all
  |false=>
   rcases h with ⟨h,rfl⟩|⟨l,bc,h1,E,B,A,J⟩
   ·exact .inl ⟨hσ _ _ h,rfl⟩
   ·refine .inr ⟨l,bc,hσ _ _ h1,by simp_all,B,by simp_all,λ i r H=>?_⟩
    rw[YD]at H;cases hj:rs[i]? with
    |none=>simp_all
    |some y=>
     rw[hj]at H;simp only[YE,Y5]at H;subst H;have:=J i y hj;simp only[YN,Ym]at this⊢;exact this.qt hσ
 |dD rs=>
  rcases h with ⟨h,rfl⟩|⟨l,bc,h1,E,B,A,J⟩
  ·exact .inl ⟨hσ _ _ h,rfl⟩
  ·exact .inr ⟨l,bc,hσ _ _ h1,E,B,A,λ i r H=>by have:=J i r H;simp_all⟩
 |bm p es=>
  obtain⟨l,xs,u,h1,E,B,A⟩:=h;cases p with
  |true=>
   exact⟨l,xs,u,hσ _ _ h1,E,⟨B.1,λ i e x C F=>⟨(B.2 i e x C F).1,.cu _ _ ((B.2 i e x C F).2.2 rfl),(B.2 i e x C F).2.2⟩⟩,A⟩
  |false=>
  refine⟨l,xs,u,hσ _ _ h1,E,⟨by simpa using B.1,λ i e x C F=>?_⟩,A⟩
  rw[YD]at C;cases hj:es[i]? with
  |none=>simp_all
  |some y=>
   rw[hj]at C;simp only[YE,Y5]at C;subst C;exact⟨(B.2 i y x hj F).1,(B.2 i y x hj F).2.1.qt hσ,λ hp=>by cases hp⟩
 |lit rs=>
  obtain⟨l,bc,h1,E,A,J,Z,h7,h8⟩:=h;exact⟨l,bc,hσ _ _ h1,E,A,J,Z,h7,λ i r H=>by have:=h8 i r H;simp_all⟩
 |cF es hh=>
  obtain⟨l,xs,u,h1,E,B,A⟩:=h;refine⟨l,xs,u,hσ _ _ h1,E,B,A.len,λ i e x C F=>?_,λ i j e e' x x' b C U F T hn HA=>A.inj i j e e' x x' b C U F T (by simp_all) (by simp_all)⟩
  obtain⟨V,X,Y⟩:=A.at_ i e x C F;refine⟨V,λ hn=>X (by simp_all),λ q R=>?_⟩
  simp only[Yq]at R;obtain⟨⟨i',q'⟩,O,M⟩:=R;injection M with e1 Q;simp only at e1 Q;subst e1;subst Q;exact(Y q' O).qt hσ
 |cw z fs hh=>
  obtain⟨l,xs,u,h1,E,B,A⟩:=h;refine⟨l,xs,u,hσ _ _ h1,E,B,A.1,λ i e x C F=>?_,λ i j x y b J Z h7 h8=>A.2.2 i j x y b J Z (by simp_all) (by simp_all)⟩
  obtain⟨V,X,Y⟩:=A.2.1 i e x C F;refine⟨V,λ hn=>X (by simp_all),λ q R=>?_⟩
  simp only[Yq]at R;obtain⟨⟨i',q'⟩,O,M⟩:=R;injection M with e1 Q;simp only at e1 Q;subst e1;subst Q;exact(Y q' O).qt hσ
theorem nB(σ:Nat→Nat)(x:AO):(dq σ x).live=x.live:=by
 cases x with
 |rows p rs=>cases p<;>rfl
 |dD rs=>rfl
 |bm p es=>cases p<;>rfl
 |lit rs=>rfl
 |cw z fs hh=>rfl
 |cF es hh=>rfl
theorem qJ{l:Loc}{b:Nat}(h:c6 w (dq σ x) l b):c6 w x l b:=by
 cases x with
 |rows p rs=>cases p<;>exact h
 |dD rs=>exact h
 |bm p es=>cases p<;>exact h
 |lit rs=>exact h
 |cF es hh=>
  rcases h with h|⟨xs,c,i,e,x,h1,j,q,o,u⟩
  ·exact .inl h
  ·exact .inr ⟨xs,c,i,e,x,h1,j,q,by simp_all,u⟩
 |cw z fs hh=>
  rcases h with h|⟨xs,c,i,e,h1,j,q,o⟩
  ·exact .inl h
  ·exact .inr ⟨xs,c,i,e,h1,j,by simp_all,o⟩
theorem J4{l:Loc}{b:Nat}(h:c6 w x l b):c6 w (dq σ x) l b:=by
 cases x with
 |rows p rs=>cases p<;>exact h
 |dD rs=>exact h
 |bm p es=>cases p<;>exact h
 |lit rs=>exact h
 |cF es hh=>
  rcases h with h|⟨xs,c,i,e,x,h1,j,q,o,u⟩
  ·exact .inl h
  ·exact .inr ⟨xs,c,i,e,x,h1,j,q,by simp_all,u⟩
 |cw z fs hh=>
  rcases h with h|⟨xs,c,i,e,h1,j,q,o⟩
  ·exact .inl h
  ·exact .inr ⟨xs,c,i,e,h1,j,by simp_all,o⟩
theorem uL{y:AO}{l:Loc}{b:Nat}(h:gO y (dq σ x))(j:c6 w x l b):c6 w y l b:=by
 rcases h with h|⟨p,rs,i,rfl,h,_⟩|⟨rs,i,rfl,h,_⟩
 ·rw[←h];exact J4 j
 ·have:=J4 (σ:=σ) j;rw[h]at this;exact .inl (iY rfl this)
 ·have:=J4 (σ:=σ) j;rw[h]at this;exact .inl (iY rfl this)
def ιback(ι:bp)(σ:Nat→Nat)(n:Nat):bp:=λ o=>if o<n then ι (σ o)else none
mutual
theorem cz.fk{S:Nat→Prop}{w:World}{ι:bp}{σ:Nat→Nat}{n:Nat}:∀(v:AV) (x:Value),fu n v=true→cz S w ι (cY σ v) x→cz S w (ιback ι σ n) v x
 |.ptr o r c,x,hb,h=>by
  obtain⟨l,A,rfl⟩:=h.dF;exact .ptr o r c l (by simp only[ιback];rw[if_pos (YM hb)];exact A)
 |.fp o off len room,x,hb,h=>by
  have hι:∀y,ι (σ o)=some y→ιback ι σ n o=some y:=λ y C=>by simp only[ιback];rw[if_pos (YM hb)];exact C
  rcases xI h with ⟨l,a,cap,q,rfl,h1,u,j,B,F,E⟩|⟨q,rfl,rfl,rfl,a,rfl⟩
  ·exact .fp o off len room cap a l (hι _ q) h1 u j B F E
  ·exact .jg o a (hι _ q)
 |.bf o z,x,hb,h=>by
  have hι:∀y,ι (σ o)=some y→ιback ι σ n o=some y:=λ y C=>by simp only[ιback];rw[if_pos (YM hb)];exact C
  rcases kZ h with ⟨l,a,cap,q,rfl,u,j,B,H,E⟩|⟨q,a,rfl⟩
  ·exact .bf o z cap a l (hι _ q) u j B H E
  ·exact .fW o z a (hι _ q)
 |.bm o,x,hb,h=>by
  obtain⟨l,A,rfl⟩:=h.dx;exact .bm o l (by simp only[ιback];rw[if_pos (YM hb)];exact A)
 |.agg cs,x,hb,h=>by
  obtain⟨vs,rfl,i⟩:=h.eg;exact bA.agg (bA.fk cs vs.toList hb i)
 |.cx cs,x,hb,h=>by
  obtain⟨vs,rfl,i⟩:=h.ib;exact bA.kz (bA.fk cs vs.toList hb i)
 |.fn f cs,x,hb,h=>by
  obtain⟨vs,rfl,i⟩:=h.ie;exact bA.Em (bA.fk cs vs.toList hb i)
 |.int k m,x,_,h=>.cu _ _ (h.free rfl)
 |.bool b,x,_,h=>.cu _ _ (h.free rfl)
 |.str s,x,_,h=>.cu _ _ (h.free rfl)
 |.dK,x,_,h=>.cu _ _ (h.free rfl)
 |.sl xs,x,_,h=>.cu _ _ (h.free rfl)
 |.rp row c,x,_,h=>.cu _ _ (h.free rfl)
 |.eT v,x,_,h=>.cu _ _ (h.free rfl)
 |.undef,x,_,h=>.cu _ _ (.undef _)
 |.eR p,x,_,h=>by
  cases h with
  |cu _ _ h=>cases h with|eR _ b h=>exact .cu _ _ (.eR p b h)
theorem bA.fk{S:Nat→Prop}{w:World}{ι:bp}{σ:Nat→Nat}{n:Nat}:∀(cs:List AV) (vs:List Value),fi n cs=true→bA S w ι (fT σ cs) vs→bA S w (ιback ι σ n) cs vs
 | [],vs,_,h=>by
  have:=h.1;simp only[fT,Yx]at this;cases vs with
  |nil=>exact .nil
  |cons v r=>grind
 |c::cs,vs,hb,h=>by
  simp only[fi,Yi]at hb;simp only[fT]at h;cases vs with
  |nil=>have:=h.1;grind
  |cons v r=>
   have h1:cz S w ι (cY σ c) v:=h.2 0 _ _ rfl rfl;have i:bA S w ι (fT σ cs) r:=⟨by simpa using h.1,λ j x v hx hv=>h.2 (j+1) x v (by simp_all) (by simp_all)⟩
   exact bA.cons (cz.fk c v hb.1 h1) (bA.fk cs r hb.2 i)
end
theorem cX.fk{n o:Nat}(ho:o<n)(O:dt n x=true)(h:cX S w ι (σ o) (dq σ x)):
 cX S w (ιback ι σ n) o x:=by
 have hι:∀y,ι (σ o)=some y→ιback ι σ n o=some y:=λ y hy=>by simp only[ιback];simp_all
 cases x with
 |rows p rs=>
  cases p with
  |true=>
   rcases h with ⟨q,rfl⟩|⟨l,bc,h1,C,B,A,J⟩
   ·exact .inl ⟨hι _ q,rfl⟩
   ·exact .inr ⟨l,bc,hι _ h1,C,B,A,λ i r M=>by have:=J i r M;simp_all⟩
  |false=>
   simp only[dq]at h;rcases h with ⟨q,nU⟩|⟨l,bc,h1,C,B,A,J⟩
   ·exact .inl ⟨hι _ q,by simp_all⟩
   ·refine .inr ⟨l,bc,hι _ h1,by simp_all,B,by simp_all,λ i r M=>?_⟩
    have H:(rs.map (fT σ))[i]? =some (fT σ r):=by rw[YD,M];rfl
    have:=J i _ H;simp only[YN,Ym]at this⊢;refine bA.fk r _ ?_ this;simp only[dt]at O;grind
 |dD rs=>
  rcases h with ⟨q,rfl⟩|⟨l,bc,h1,C,B,A,J⟩
  ·exact .inl ⟨hι _ q,rfl⟩
  ·exact .inr ⟨l,bc,hι _ h1,C,B,A,λ i r M=>by have:=J i r M;simp_all⟩
 |bm p es=>
  cases p with
  |true=>
   obtain⟨l,xs,u,h1,C,B,A⟩:=h;exact⟨l,xs,u,hι _ h1,C,⟨B.1,λ i e x E F=>⟨(B.2 i e x E F).1,.cu _ _ ((B.2 i e x E F).2.2 rfl),(B.2 i e x E F).2.2⟩⟩,A⟩
  |false=>
  obtain⟨l,xs,u,h1,C,B,A⟩:=h;refine⟨l,xs,u,hι _ h1,C,⟨by simpa using B.1,λ i e x E F=>?_⟩,A⟩
  have H:(es.map λ e=>(e.1,cY σ e.2))[i]? =some (e.1,cY σ e.2):=by rw[YD,E];rfl
  have:=B.2 i _ x H F;simp only[dt]at O;exact⟨this.1,cz.fk e.2 x.val (YW.1 O e (YO E)) this.2.1,λ hp=>by cases hp⟩
 |lit rs=>
  obtain⟨l,bc,h1,C,A,J,X,h7,Z⟩:=h;exact⟨l,bc,hι _ h1,C,A,J,X,h7,λ i r M=>by have:=Z i r M;simp_all⟩
 |cF es hh=>
  obtain⟨l,xs,u,h1,C,B,A⟩:=h;refine⟨l,xs,u,hι _ h1,C,B,A.len,λ i e x E F=>?_,λ i j e e' x x' b E R F Q hn HA=>A.inj i j e e' x x' b E R F Q (by simp_all) (by simp_all)⟩
  obtain⟨T,U,V⟩:=A.at_ i e x E F;refine⟨T,λ hn=>U (by simp_all),λ q Y=>?_⟩
  subst Y;simp only[dt]at O;exact cz.fk (.ptr q 0 0) x.val O (V (σ q) rfl)
 |cw z fs hh=>
  obtain⟨l,xs,u,h1,C,B,A⟩:=h;refine⟨l,xs,u,hι _ h1,C,B,A.1,λ i e x E F=>?_,λ i j x y b J X h7 Z=>A.2.2 i j x y b J X (by simp_all) (by simp_all)⟩
  obtain⟨T,U,V⟩:=A.2.1 i e x E F;refine⟨T,λ hn=>U (by simp_all),λ q Y=>?_⟩
  subst Y;simp only[dt]at O;exact cz.fk (.bf q z) x.val O (V (σ q) rfl)
end
end Go.Ab
