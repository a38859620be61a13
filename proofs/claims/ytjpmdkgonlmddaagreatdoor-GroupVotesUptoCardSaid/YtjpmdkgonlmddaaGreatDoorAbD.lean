import Derived.Test.YtjpmdkgonlmddaaGreatDoorAbC
import Derived.Laws.MakeOwn
import Derived.Laws.IdiomStrings
import Derived.Laws.BytesString
set_option linter.unusedVariables false
namespace Go.Ab
section
variable {C:Cx}{S:Nat→Prop}{w:World}{ι:ax}{P:Program}{un:Nat→Prop}{f:FS}{a:Act}{id:Nat}{o:Oper}
 {next:Act→World→Prop} {Q:Exit→Act→World→Prop}
theorem Inv.del(h:Inv C S ι un f a w)(q:Nat):Inv C S ι un {f with os:=ay f.os [(q,none)]} a w:=by
 have sub:∀o x,ay f.os [(q,none)] o=some x→f.os o=some x:=by
  intro o x hx;simp only[ay]at hx;split at hx
  ·cases hx
  ·exact hx
 exact⟨h.tm,h.sz,h.df,fun o x hx=>h.ob o x (sub o x hx),fun o x hx=>h.own o x (sub o x hx),fun o o' x x' h1 h2=>h.inj o o' x x' (sub _ _ h1) (sub _ _ h2),h.sb,h.sn,h.un,h.fr,h.fo,h.gv,h.s0,h.hj⟩
theorem C1{x:Option Loc}(fD:ι id=none):ι.le (fun o=>if o=id then some x else ι o):=by
 intro o y hy
 grind
theorem Inv.void(h:Inv C S ι un f a w)(hid:un id)(p:Bool):
 ∃ι',ι.le ι'∧ι' id=some none∧Inv C S ι' (fun o=>un o∧o≠id) {f with os:=ay f.os [(id,some (.rows p []))]} a w:=by
 have fD:=h.un id hid
 refine⟨fun o=>if o=id then some none else ι o,C1 fD,by simp,?_⟩
 have hι:=C1 (x:=none) fD
 have hw:fz S w w:=fun _ _=>rfl
 refine h.hP (fun _ x=>x) hw hι ?_ ?_ ?_ h.sb h.sn (fun o ho=>?_) h.fr
 ·intro o y hy
  simp only[ay]at hy
  by_cases e:o=id
  ·subst e
   simp only[Yi,Y2]at hy;subst hy
   exact .inl ⟨by simp,rfl⟩
  ·simp only[e,Yc]at hy
   exact(h.ob o y hy).mono (fun _ x=>x) hw hι (fun _ _ _ _ _=>rfl)
 ·intro o y hy hly l' hl' b hb
  simp only[ay]at hy
  by_cases e:o=id
  ·simp_all
  ·simp only[e,Yc]at hy hl'
   exact h.own o y hy hly l' hl' b hb
 ·intro o1 o2 y1 y2 hy1 hy2 hl1 dJ l1 l2 e1 e2 b hb hb2
  simp only[ay]at hy1 hy2
  by_cases e:o1=id
  ·simp_all
  ·by_cases e':o2=id
   ·simp_all
   ·simp only[e,e',Yc]at hy1 hy2 e1 e2
    exact h.inj o1 o2 y1 y2 hy1 hy2 hl1 dJ l1 l2 e1 e2 b hb hb2
 ·simp only[ho.2,Yc];exact h.un o ho.1
theorem Inv.pQ(h:Inv C S ι un f a w)(hid:un id){q:Nat}{x:AO}(hq:f.os q=some x):q≠id:=by
 intro e;subst e
 have fD:=h.un q hid
 have:=h.ob q x hq
 cases x with
 |rows p rs=>rcases this with ⟨e,_⟩|⟨l,vals,e,_⟩<;>(simp_all)
 |cT rs=>rcases this with ⟨e,_⟩|⟨l,vals,e,_⟩<;>(simp_all)
 |aw p es=>obtain⟨l,xs,c,e,_⟩:=this;simp_all
 |bL z fs hh=>obtain⟨l,xs,c,e,_⟩:=this;simp_all
 |bK es hh=>obtain⟨l,xs,c,e,_⟩:=this;simp_all
 |lit rs=>obtain⟨l,vals,e,_⟩:=this;simp_all
theorem Inv.move(h:Inv C S ι un f a w)(hid:un id){q:Nat}{x x':AO}{l l':Loc}(hq:f.os q=some x)(gg:x.live=true)(hl:ι q=some (some l))(hb:∀b,cj w x' l' b→cj w x l b)
 (hok:∀ι':ax,ι.le ι'→ι' id=some (some l')→ca S w ι' id x'):
 ∃ι',ι.le ι'∧ι' id=some (some l')∧Inv C S ι' (fun o=>un o∧o≠id) {f with os:=ay f.os [(id,some x'),(q,none)]} a w:=by
 have fD:=h.un id hid
 have hι:=C1 (x:=some l') fD
 refine⟨fun o=>if o=id then some (some l')else ι o,hι,by simp,?_⟩
 have hw:fz S w w:=fun _ _=>rfl
 have ho:=h.own q x hq gg l hl
 refine h.hP (fun _ x=>x) hw hι ?_ ?_ ?_ h.sb h.sn (fun o ho=>?_) h.fr
 ·intro o y hy
  simp only[ay]at hy
  by_cases e:o=id
  ·simp_all
  ·simp only[e,Yc]at hy
   split at hy
   ·cases hy
   ·exact(h.ob o y hy).mono (fun _ x=>x) hw hι (fun _ _ _ _ _=>rfl)
 ·intro o y hy hly l2 dJ b hb2
  simp only[ay]at hy
  by_cases e:o=id
  ·simp_all
  ·simp only[e,Yc]at hy dJ
   split at hy
   ·cases hy
   ·exact h.own o y hy hly l2 dJ b hb2
 ·intro o1 o2 y1 y2 hy1 hy2 hl1 dJ l1 l2 e1 e2 b hb1 hb2
  simp only[ay]at hy1 hy2
  by_cases e:o1=id<;>by_cases e':o2=id
  ·rw[e,e']
  ·subst e
   simp only[Yi,Y2]at e1;simp only[e',Yc]at hy2 e2;split at hy2
   ·cases hy2
   ·rename_i hne
    simp only[Yi,Y2]at hy1;subst e1;subst hy1;exact absurd (h.inj o2 q y2 x hy2 hq dJ gg l2 l e2 hl b hb2 (hb b hb1)) hne
  ·subst e'
   simp only[Yi,Y2]at e2;simp only[e,Yc]at hy1 e1;split at hy1
   ·cases hy1
   ·rename_i hne
    simp only[Yi,Y2]at hy2;subst e2;subst hy2;exact absurd (h.inj o1 q y1 x hy1 hq hl1 gg l1 l e1 hl b hb1 (hb b hb2)) hne
  ·simp only[e,e',Yc]at hy1 hy2 e1 e2
   split at hy1
   ·cases hy1
   ·split at hy2
    ·cases hy2
    ·exact h.inj o1 o2 y1 y2 hy1 hy2 hl1 dJ l1 l2 e1 e2 b hb1 hb2
 ·simp only[ho.2,Yc];exact h.un o ho.1
theorem iy(hid:∀x,id≤x→x<id+W→un x):un id:=hid id (Yg _) (by simp[W])
theorem po{x:Nat}(hx:un x∧¬(id≤x∧x<id+W)):un x∧x≠id:=⟨hx.1,fun e=>hx.2 ⟨by omega,by subst e;simp[W]⟩⟩
theorem G'(w:World)(cells:Array Value)(e:TypeId)(fr:Nat×Nat)(j:Nat):(w.alloc (.cells cells e fr)).cell? ⟨w.heap.size,j,none⟩=cells[j]? :=by
 have h:(w.alloc (.cells cells e fr)).heap[w.heap.size]? =some (.cells cells e fr):=by show(w.heap.push _)[w.heap.size]? =_;simp
 unfold World.cell?;simp_all
theorem Tj(w:World)(cells:Array Value)(e:TypeId)(fr:Nat×Nat)(j:Nat):(w.alloc (.cells cells e fr)).frozen? ⟨w.heap.size,j,none⟩=decide (fr.1≤j∧j<fr.2):=by
 have h:(w.alloc (.cells cells e fr)).heap[w.heap.size]? =some (.cells cells e fr):=by show(w.heap.push _)[w.heap.size]? =_;simp
 unfold World.frozen?;simp_all
theorem Dr{z:Nat}{fr:Nat×Nat}{p:Bool}{rs:List (List AV)}{us rest:List Value}{bo cap:Nat}{e:TypeId}{cells:Array Value}{D:List (Nat×Option AO)}{w1:World}
 (hn:fP C un id o f (.an id z) ((id,some (.rows p rs))::D) next) (h:Inv C S ι un f a w) (hd:∀d,o.dst=some d→C.N.lo≤d∧d<C.N.n) (hid:∀x,id≤x→x<id+W→un x)
 (hD:D=[]∨∃q,D=[(q,none)]) (hF:Flat p S w ι bo rs us) (hc:cells.toList=us++rest) (h1:rs.length≤cap) (h2:cap*bo≤cells.size) (h3:rs.length≤bm) (hz:rs.length=0→bo=z)
 (hw1:w1=w∨w1=w.drew) (hrun:(execOp a.eval o).run P w=.ok (.value (.slice (some ⟨w.heap.size,0,none⟩) rs.length cap)) (w1.alloc (.cells cells e fr))) (hfr:∀j,(j<cells.size∨bo≠1)→¬(fr.1≤j∧j<fr.2)):o.wp P a w next Q:=by
 unfold Oper.wp;rw[hrun,Oper.upon_value]
 have Js:Inv C S ι un {f with os:=ay f.os D} a w:=by
  rcases hD with rfl|⟨q,rfl⟩
  ·exact h
  ·exact h.del q
 have p8:Inv C S ι un {f with os:=ay f.os D} a w1:=by
  rcases hw1 with rfl|rfl
  ·exact Js
  ·exact Js.drew
 have hsz:w1.heap.size=w.heap.size:=by rcases hw1 with rfl|rfl<;>rfl
 have hsame:fz S w w1:=by intro b hb;rcases hw1 with rfl|rfl<;>rfl
 have hlen:us.length≤cells.size:=by rw[←Array.length_toList,hc];simp
 have hcell:∀(j:Nat) v,us[j]? =some v→eY (w1.alloc (.cells cells e fr)) w1.heap.size (0+j)=some v:=by
  intro j v hv;simp only[eY,YS];rw[G']
  rw[←Wh,hc,Yt (eZ hv)]
  exact hv
 obtain⟨ι',hle,hι',hinv⟩:=p8.alloc (iy hid) (.cells cells e fr) ⟨w1.heap.size,0,bo,cells.size,rs.length⟩ rfl (.rows p rs) rfl (fun _ h=>iw rfl h) (fun ι' hle hι'=>by
  have rz:Flat p S (w1.alloc (.cells cells e fr)) ι' bo rs us:=hF.mono (fun _ x=>x) (fun b hb=>by rw[qJ w1 _ b (by rw[hsz];exact h.sb b hb)];exact hsame b hb) hle
  refine .inr ⟨_,_,hι',rfl,fun j=>⟨fun hj=>?_,fun hj=>?_⟩,Flat.at (l:=⟨w1.heap.size,0,bo,cells.size,rs.length⟩) rz hcell (by
   have:rs.length*bo≤cap*bo:=Yr _ h1
   grind),rz.rows⟩
  ·simp only at hj
   refine⟨cells[j]'(by omega),?_⟩
   simp only[eY];rw[G'];simp
  ·simp only at hj
   rw[Tj];simp_all)
 refine Inv.goes hn hinv (fun x hx=>po hx) ?_ hd
 rw[←hsz]
 exact bP.an id z cap _ _ hι' h1 (by simp_all) h3 (fun h0 _=>hz h0) (fun _=>rfl)
theorem SB{z:Nat}{p q:Bool}{rs ys:List (List AV)}{us:List Value}{k cap:Nat}{l:Loc}
 (hn:fP C un id o f (.an id z) [(id,some (.rows (p&&q) (rs++ys))),(k,none)] next) (h:Inv C S ι un f a w) (hd:∀d,o.dst=some d→C.N.lo≤d∧d<C.N.n) (hid:∀x,id≤x→x<id+W→un x)
 (ho:f.os k=some (.rows p rs)) (hl:ι k=some (some l)) (hF:Flat q S w ι l.bo ys us) (h1:rs.length+ys.length≤cap) (h2:l.base+cap*l.bo≤l.size) (h3:rs.length+ys.length≤bm) (hz:rs.length+ys.length=0→l.bo=z)
 (hrun:(execOp a.eval o).run P w=.ok (.value (.slice (some ⟨l.bd,l.base,none⟩) (rs.length+ys.length) cap)) (w.setCells l.bd (l.base+rs.length*l.bo) us)):o.wp P a w next Q:=by
 unfold Oper.wp;rw[hrun,Oper.upon_value]
 rcases h.ob k _ ho with ⟨e,_⟩|⟨l',vals,e,hcnt,hm,hat,hrep⟩
 ·simp_all
 ·rw[e]at hl;injection hl with hl;injection hl with hl;subst hl
  have hne:=h.pQ (iy hid) ho
  have I3:=hF.len
  have hsp:l'.base+rs.length*l'.bo+us.length≤l'.size:=by
   have:(rs.length+ys.length)*l'.bo≤cap*l'.bo:=Yr _ h1
   rw[YT]at this;omega
  have hout:∀j,j<rs.length*l'.bo→eY (w.setCells l'.bd (l'.base+rs.length*l'.bo) us) l'.bd (l'.base+j)=eY w l'.bd (l'.base+j):=by
   intro j hj
   exact Wa l'.bd us _ w _ (fun _ _=>.inl (by simp_all))
  have hin:∀(j:Nat) v,us[j]? =some v→eY (w.setCells l'.bd (l'.base+rs.length*l'.bo) us) l'.bd (l'.base+rs.length*l'.bo+j)=some v:=by
   intro j v hv
   have hj:=eZ hv
   have:=WE l'.bd us (l'.base+rs.length*l'.bo) w (fun i hi=>by
    obtain⟨u,hu⟩:=(hm (l'.base+rs.length*l'.bo+i)).1 (by omega)
    simp_all) j hj
   rw[Y3 hj]at hv
   injection hv with hv
   rw[←hv];exact this
  have vF:oV (w.setCells l'.bd (l'.base+rs.length*l'.bo) us) l' rs.length vals:=by
   refine⟨hat.1,hat.2.1,fun i j v hi hv=>?_⟩
   have hlt:i*l'.bo+j<rs.length*l'.bo:=by
    have h5:=hat.2.1 i hi
    have h6:=eZ hv
    have:(i+1)*l'.bo≤rs.length*l'.bo:=Yr _ hi
    rw[YT]at this;omega
   rw[hout _ hlt];exact hat.2.2 i j v hi hv
  have p8:=h.writes ho rfl e (x':=.rows p rs) rfl (l'.base+rs.length*l'.bo) us (fun hw=>
   .inr ⟨l',vals,e,hcnt,hm.setCells _ _,vF,hrep.mono (fun _ x=>x) hw (ax.le_refl _)⟩)
  obtain⟨hO,hS,hlt⟩:=h.own k _ ho rfl l' e _ (.inl rfl)
  have hw:fz S w (w.setCells l'.bd (l'.base+rs.length*l'.bo) us):=MO hS h.sb _ us
  obtain⟨ι',hle,hι',hinv⟩:=p8.move (id:=id) (iy hid) (q:=k) (x:=.rows p rs) (x':=.rows (p&&q) (rs++ys)) (l:=l') (l':=⟨l'.bd,l'.base,l'.bo,l'.size,rs.length+ys.length⟩)
   (by simp[ay]) rfl e (fun _ h=>by have:=iw rfl h;exact .inl this) (fun ι' hle hι'=>by
    obtain⟨NB,Jp,hc0⟩:=G0 (cell:=eY (w.setCells l'.bd (l'.base+rs.length*l'.bo) us) l'.bd) rs vals l'.base vF.2.1 (fun i j v hi hv=>vF.2.2 i j v hi hv)
     (hrep.mono (fun _ x=>x) hw hle)
    have CK:=Jp.append (hF.mono (fun _ x=>x) hw hle)
    refine .inr ⟨_,_,hι',by simp,hm.setCells _ _,Flat.at (l:=⟨l'.bd,l'.base,l'.bo,l'.size,rs.length+ys.length⟩) CK (fun j v hv=>?_) ?_,CK.rows⟩
    ·by_cases hj:j<NB.length
     ·grind
     ·rw[Yf (by omega)]at hv
      have:=hin _ v hv
      have h7:=Jp.len
      grind
    ·simp only[Ya]
     grind)
  have hinv':Inv C S ι' (fun o=>un o∧o≠id) {f with os:=ay f.os [(id,some (.rows (p&&q) (rs++ys))),(k,none)]} a (w.setCells l'.bd (l'.base+rs.length*l'.bo) us):=by
   have e1:ay (ay f.os [(k,some (AO.rows p rs))]) [(id,some (.rows (p&&q) (rs++ys))),(k,none)]=ay f.os [(id,some (.rows (p&&q) (rs++ys))),(k,none)]:=by
    funext x
    simp only[ay];split
    ·rfl
    ·simp_all
   rw[show({f with os:=ay (ay f.os [(k,some (AO.rows p rs))]) [(id,some (.rows (p&&q) (rs++ys))),(k,none)]}:FS)={f with os:=ay f.os [(id,some (.rows (p&&q) (rs++ys))),(k,none)]} by rw[e1]]at hinv
   exact hinv
  refine Inv.goes hn hinv' (fun x hx=>po hx) ?_ hd
  exact bP.an id z cap _ _ hι' h1 h2 h3 (fun h0 _=>hz h0) (fun _=>rfl)
theorem rI{t:TypeId}{sz:Nat}(h:dY P t=some sz):∃e i z,P.underlying t=some (.slice e)∧P.info? e=some i∧i.zero=some z∧i.bytes≤131072∧i.size=sz∧z.cells.size=sz:=by
 unfold dY at h
 grind
theorem SO{t:TypeId}(h:iC P t=true):(∃e',P.underlying t=some (.slice e'))∨P.underlying t=some .string:=by
 unfold iC at h
 grind
theorem CY{bo:Nat}{tx:TypeId}{v:Value}{q:Bool}{ys:List (List AV)}{us:List Value}(j4:iC P tx=true)(hF:Flat q S w ι bo ys us)(hs:nq P w bo v ys.length ys.length us):
 Src P bo tx v ys.length us w:=
 ⟨SO j4,hs.len,hs.cells w rfl,hs.cells w.drew rfl,hF.len,hF.one⟩
theorem MN{t tx ty:TypeId}{bo:Nat}{base:Option Addr}{u4 sCap:Nat}{x:Value}(ht:dY P t=some bo)(hs:Src P bo tx x 0 [] w)(hc:u4≤sCap):
 (Builtin.append_ #[t,tx] ty #[.slice base u4 sCap,x]).run P w=.ok (.slice base u4 sCap) w:=by
 obtain⟨e,i,z,ht',hi,hz,_,hsz,_⟩:=rI ht
 subst hsz;clear ht
 rcases hs.kind with ⟨e',hk⟩|hk<;>cases base<;>
  simp[Builtin.append_,Y6 ht',Y6 hk,sizeOf,typeInfo,hi,hs.len,hc,hs.cells,storeCells]
theorem C9{s x:Operand}{t tx:TypeId}{v:Value}{w':World}(cu:o.op=.call {callee:=.builtin .append,args:=#[s,x],argTypes:=#[t,tx]})
 (h:∀ty,(Builtin.append_ #[t,tx] ty #[a.eval s,a.eval x]).run P w=.ok v w'):(execOp a.eval o).run P w=.ok (.value v) w':=by
 unfold execOp;rw[cu];simp[resolve,invoke,builtin,h]
theorem SY{u9 old bytes:Nat}(h:old<u9)(hn:u9≤bm)(hb:bytes≤131072):Builtin.nextslicecap u9 old*bytes≤281474976710656:=by
 refine growslice_fits h ?_
 have:=Nat.mul_le_mul hn hb
 simp only[bm]at this;omega
theorem G8{p q:Bool}{rs ys:List (List AV)}{us vs:List Value}{bo:Nat}{base:Option Addr}{sCap:Nat}{t tx:TypeId}{s x:Operand}{D:List (Nat×Option AO)}
 (cu:o.op=.call {callee:=.builtin .append,args:=#[s,x],argTypes:=#[t,tx]}) (hn:fP C un id o f (.an id bo) ((id,some (.rows (p&&q) (rs++ys)))::D) next) (h:Inv C S ι un f a w)
 (hd:∀d,o.dst=some d→C.N.lo≤d∧d<C.N.n) (hid:∀x,id≤x→x<id+W→un x) (hD:D=[]∨∃q,D=[(q,none)]) (ht:dY P t=some bo) (j4:iC P tx=true)
 (hv:a.eval s=.slice base rs.length sCap) (hF:Flat p S w ι bo rs us) (hs:nq P w bo (.slice base rs.length sCap) rs.length rs.length us)
 (hG:Flat q S w ι bo ys vs) (nS:nq P w bo (a.eval x) ys.length ys.length vs) (hg:sCap<rs.length+ys.length) (hlim:rs.length+ys.length≤bm):o.wp P a w next Q:=by
 obtain⟨e,i,z,ht',hi,hz,hb,hsz,hzs⟩:=rI ht
 subst hsz
 have hrun:=fun ty=>run_append_grow_src (P:=P) w t tx ty e i z ht' hi hz base rs.length sCap us (hs.cells w.drew rfl) (a.eval x) ys.length vs (CY j4 hG nS) hg
  (by simp only[bm]at hlim;omega) (SY hg hlim hb)
 rw[←hv]at hrun
 have hl1:=hF.len
 have dJ:=hG.len
 have hge:=grownCap_ge w (rs.length+ys.length) sCap e
 refine Dr hn h hd hid hD (hF.append hG) (cells:=(us++vs).toArray++Builtin.zeroCells z.cells (grownCap w (rs.length+ys.length) sCap e-(rs.length+ys.length))) (rest:=(Builtin.zeroCells z.cells (grownCap w (rs.length+ys.length) sCap e-(rs.length+ys.length))).toList)
  (cap:=grownCap w (rs.length+ys.length) sCap e) (e:=e) (w1:=w.drew) (by simp) (by simp_all) ?_ (by simp_all) (fun _=>rfl) (.inr rfl) (by
   have:=C9 (P:=P) (w:=w) cu hrun
   simpa using this) (fun j _ h=>by simp at h)
 simp only[Array.size_append,List.size_toArray,Ya,size_zeroCells,hl1,dJ,hzs];rw[←YT,←YT];simp_all
theorem Tl{ol:Nat→Option AO}{k z:Nat}{p:Bool}{rs:List (List AV)}(h:ol k=some (.rows p rs)):dd ol (.an k z)=some (p,rs,[k]):=by simp only[dd,h]
theorem Qo{t tx:TypeId}{s x:Operand}{q:Bool×List (List AV)×List Nat}{sz:Nat}(cu:o.op=.call {callee:=.builtin .append,args:=#[s,x],argTypes:=#[t,tx]})
 (hn:fP C un id o f (.an id sz) [(id,some (.rows q.1 q.2.1))] next) (h:Inv C S ι un f a w) (hd:∀d,o.dst=some d→C.N.lo≤d∧d<C.N.n) (hid:∀x,id≤x→x<id+W→un x)
 (hs:(gD C.G f.g) s=.dq) (hx:dd f.os ((gD C.G f.g) x)=some q) (ht:dY P t=some sz) (j4:iC P tx=true) (hr:∀r,r∈q.2.1→r.length=sz) (hlim:q.2.1.length≤bm):o.wp P a w next Q:=by
 obtain⟨qp,ys,ro⟩:=q
 simp only at*
 have sx:=h.ev s
 rw[hs]at sx
 obtain⟨base,hv⟩:∃base,a.eval s=.slice base 0 0:=by
  generalize a.eval s=v at sx
  cases sx with|bI _ _ hh=>cases hh with|dq b=>simp
 obtain⟨vs,hG,nS⟩:=AI (P:=P) h.ob (h.ev x) hx hr ys.length (Yg _)
 rw[Wl]at hG
 by_cases h0:ys.length=0
 ·have hy:ys=[]:=Yy.1 h0
  subst hy
  have hvs:vs=[]:=Yy.1 (by rw[hG.len];simp)
  subst hvs
  have hrun:=C9 (P:=P) (w:=w) (a:=a) cu (fun ty=>by rw[hv];exact MN ht (CY j4 hG nS) (Yg _))
  unfold Oper.wp;rw[hrun,Oper.upon_value]
  obtain⟨ι',hle,hι',hinv⟩:=h.void (iy hid) qp
  exact Inv.goes hn hinv (fun x hx=>po hx) (.fk id _ base hι') hd
 ·refine G8 (p:=true) (rs:=[]) (us:=[]) cu (by simp_all) h hd hid (.inl rfl) ht j4 hv Flat.nil ⟨fun _=>rfl,fun w' _=>wK (by simp) (.inl ⟨_,_,_,rfl⟩) w'⟩ hG nS (by omega) (by simp_all)
theorem Qp{t tx:TypeId}{s x:Operand}{q:Bool×List (List AV)×List Nat}{sz k z:Nat}{p:Bool}{rs:List (List AV)}(cu:o.op=.call {callee:=.builtin .append,args:=#[s,x],argTypes:=#[t,tx]})
 (hn:fP C un id o f (.an id sz) [(id,some (.rows (p&&q.1) (rs++q.2.1))),(k,none)] next) (h:Inv C S ι un f a w) (hd:∀d,o.dst=some d→C.N.lo≤d∧d<C.N.n) (hid:∀x,id≤x→x<id+W→un x)
 (hs:(gD C.G f.g) s=.an k z) (E4:z=sz) (ho:f.os k=some (.rows p rs)) (hx:dd f.os ((gD C.G f.g) x)=some q) (ht:dY P t=some sz) (j4:iC P tx=true) (hr:∀r,r∈q.2.1→r.length=sz)
 (lT:∀r,r∈rs→r.length=sz) (hlim:rs.length+q.2.1.length≤bm):o.wp P a w next Q:=by
 obtain⟨qp,ys,ro⟩:=q
 simp only at*
 have sx:=h.ev s
 rw[hs]at sx
 obtain⟨vs,hG,nS⟩:=AI (P:=P) h.ob (h.ev x) hx hr ys.length (Yg _)
 rw[Wl]at hG
 obtain⟨us,hF,Fe⟩:=AI (P:=P) h.ob sx (Tl ho) lT rs.length (Yg _)
 rw[Wl]at hF
 have hzero:∀base cap,ys=[]→a.eval s=.slice base rs.length cap→rs.length≤cap→(execOp a.eval o).run P w=.ok (.value (.slice base rs.length cap)) w:=by
  intro base cap hy hv hc;subst hy
  have hvs:vs=[]:=Yy.1 (by rw[hG.len];simp)
  subst hvs
  exact C9 (P:=P) (w:=w) (a:=a) cu (fun ty=>by rw[hv];exact MN ht (CY j4 hG nS) hc)
 rcases kp sx with ⟨l,ad,cap,e,hv,h1,h2,h3,NX,ha⟩|⟨e,base,hv⟩
 ·have hcnt:rs.length=l.dO:=by
   rcases h.ob k _ ho with ⟨e',_⟩|⟨l',vals,e',hcnt,_⟩
   ·simp_all
   ·simp_all
  rw[←hcnt]at hv h1 h3
  by_cases h0:ys.length=0
  ·have hy:ys=[]:=Yy.1 h0
   have hrun:=hzero _ _ hy hv h1
   subst hy;unfold Oper.wp;rw[hrun,Oper.upon_value]
   rcases h.ob k _ ho with ⟨e',_⟩|⟨l',vals,e',z7,hm,hat,hrep⟩
   ·simp_all
   ·rw[e]at e';injection e' with e';injection e' with e';subst e'
    obtain⟨ι',hle,hι',hinv⟩:=h.move (id:=id) (iy hid) (q:=k) (x:=.rows p rs) (x':=.rows (p&&qp) (rs++[])) (l:=l) (l':=l) ho rfl e (fun _ h=>by have:=iw rfl h;exact .inl this) (fun ι' hle hι'=>by
     refine .inr ⟨l,vals,hι',by simp_all,hm,by simp_all,?_⟩
     intro i r jD;rw[YE]at jD
     have h5:dw p S w ι r (vals i):=hrep i r jD
     exact(h5.mono (fun _ x=>x) (fun _ _=>rfl) hle).pL (fun e=>by simp_all))
    refine Inv.goes hn hinv (fun x hx=>po hx) ?_ hd
    have:=bP.an (S:=S) (w:=w) id z cap ad l hι' (by omega) h2 (by omega) NX ha
    simp_all
  ·by_cases nT:rs.length+ys.length≤cap
   ·have CI:=ha (by omega)
    subst CI
    rcases h.ob k _ ho with ⟨e',_⟩|⟨l',vals,e',z7,hm,hat,hrep⟩
    ·simp_all
    ·rw[e]at e';injection e' with e';injection e' with e';subst e'
     obtain⟨el,i,z,ht',hi,hz,hb,hsz,hzs⟩:=rI ht
     have CL:Flat qp S w ι l.bo ys vs∧i.size=l.bo:=by
      by_cases hrs:rs=[]
      ·grind
      ·obtain⟨r,pW⟩:=Wy _ hrs
       obtain⟨j,hj⟩:=Wj pW
       have h6:r.length=l.bo:=by
        have:=(hrep.get hj).1
        have:=hat.2.1 j (eZ hj)
        omega
       simp_all
     obtain⟨CL,Fa⟩:=CL
     have hsp:l.base+rs.length*l.bo+vs.length≤l.size:=by
      have:(rs.length+ys.length)*l.bo≤cap*l.bo:=Yr _ nT
      rw[YT]at this;rw[CL.len];omega
     refine SB hn h hd hid ho e CL nT h2 hlim (fun h=>by omega) (C9 cu (fun ty=>?_))
     rw[hv]
     have Fb:sz=l.bo:=by omega
     subst Fb
     have:=run_append_room_src (P:=P) w t tx ty el i ht' hi l.bd l.base rs.length cap (a.eval x) ys.length vs (by rw[Fa];exact CY j4 hG nS) nT (fun j hj=>by
      obtain⟨u,hu⟩:=(hm (l.base+rs.length*i.size+j)).1 (by grind)
      simp_all) (fun j hj=>(hm (l.base+rs.length*i.size+j)).2 (.inl (by grind)))
     simp_all
   ·exact G8 cu hn h hd hid (.inr ⟨k,rfl⟩) ht j4 hv hF (by simp_all) hG nS (by omega) hlim
 ·have hrs:rs=[]:=by
   rcases h.ob k _ ho with ⟨_,h⟩|⟨l',vals,e',_⟩
   ·exact h
   ·simp_all
  subst hrs
  by_cases h0:ys.length=0
  ·have hy:ys=[]:=Yy.1 h0
   have hrun:=hzero base 0 hy (by omega) (by simp)
   subst hy;unfold Oper.wp;rw[hrun,Oper.upon_value]
   obtain⟨ι',hle,hι',hinv⟩:=(h.del k).void (iy hid) (p&&qp)
   exact Inv.goes hn hinv (fun x hx=>po hx) (.fk id _ base hι') hd
  ·exact G8 (sCap:=0) cu hn h hd hid (.inr ⟨k,rfl⟩) ht j4 (by omega) hF (by simp_all) hG nS (by omega) hlim
end
section
variable {C:Cx}{S:Nat→Prop}{w:World}{ι:ax}{P:Program}{un:Nat→Prop}{f:FS}{a:Act}{id:Nat}{o:Oper}
 {next:Act→World→Prop} {Q:Exit→Act→World→Prop}
theorem Inv.ky(h:Inv C S ι un f a w){x:Option Operand}{d n:Nat}(hb:fq (gD C.G f.g) x d n):kh (x.map a.eval) d n:=by
 cases x with
 |none=>exact hb
 |some x=>
  obtain⟨k,i,e,h0,h1⟩:=hb
  have hx:=h.ev x
  rw[e]at hx;exact⟨k,i,hx.bu,h0,h1⟩
theorem UY{x:AV}{cs:List AV}{v:Value}(hc:kA x=some cs)(h:bR S w x v):bO S w cs v.cells.toList∧cs.all jJ=true:=by
 have one:∀y,kA y=some [y]→jJ y=true→y=x→bO S w cs v.cells.toList∧cs.all jJ=true:=by
  intro y e hy hxy;subst hxy;rw[e]at hc
  injection hc with hc
  subst hc
  refine⟨?_,by simp[hy]⟩
  have hv:=h.cell hy
  have:v.cells.toList=[v]:=by cases v<;>simp[Value.oneCell']at hv<;>simp[Value.cells]
  rw[this]
  refine⟨rfl,fun j x u hx hu=>?_⟩
  have:j=0:=by have:=eZ hx;simp at this;omega
  subst this
  simp only[List.getElem?_cons_zero,Y2]at hx hu
  subst hx;subst hu;exact h
 cases x with
 |agg ds=>
  simp only[kA]at hc;split at hc
  ·rename_i eg
   injection hc with hc
   subst hc
   cases h with
   |agg _ vs hl h=>exact⟨⟨by simpa[Value.cells]using hl,fun j x v a b=>h j x v a (by simpa[Value.cells]using b)⟩,eg⟩
  grind
 |bN _=>simp[kA]at hc
 |undef=>simp[kA]at hc
 |eh p=>simp[kA]at hc
 |int k n=>exact one _ rfl rfl rfl
 |bool b=>exact one _ rfl rfl rfl
 |str s=>exact one _ rfl rfl rfl
 |dq=>exact one _ rfl rfl rfl
 |sl xs=>exact one _ rfl rfl rfl
 |rp r o=>exact one _ rfl rfl rfl
 |fn f c=>exact one _ rfl rfl rfl
 |ei v=>exact one _ rfl rfl rfl
 |ptr o r c=>exact one _ rfl rfl rfl
 |eN o a b c=>exact one _ rfl rfl rfl
 |an o z=>exact one _ rfl rfl rfl
 |aw o=>exact one _ rfl rfl rfl
theorem Kt{n:Nat}:∀(m j:Nat) (l:List Value),l.length=n→j<m*n→(List.replicate m l).flatten[j]? =l[j% n]? :=by
 intro m
 induction m with
 |zero=>omega
 |succ m ih=>
  intro j l hl h;rw[List.replicate_succ,List.flatten_cons]
  by_cases hj:j<n
  ·rw[Yt (by omega),Wf hj]
  ·rw[Yf (by omega),ih (j-l.length) l hl (by grind),hl,←Nat.mod_eq_sub_mod (by omega)]
theorem DB(z:Array Value)(m:Nat):(madeCells z (m*z.size)).toList=(List.replicate m z.toList).flatten:=by
 apply Vi;intro j
 by_cases hj:j<m*z.size
 ·rw[Kt m j z.toList (by simp) hj]
  have hz:0<z.size:=by
   rcases Vc z.size with h|h
   ·simp_all
   ·exact h
  have hm:j% z.size<z.size:=Nat.mod_lt _ hz
  simp[madeCells,hj,hm]
 ·rw[Wq (by simp[madeCells];omega),Wq (by simp;omega)]
theorem A9{t:TypeId}{zl:List AV}{sz:Nat}(hz:fV P t=some zl)(h:dY P t=some sz):
 ∃e i z,P.underlying t=some (.slice e)∧P.info? e=some i∧i.zero=some z∧i.bytes≤131072∧i.size=sz∧z.cells.size=sz∧zl.length=sz∧bO S w zl z.cells.toList∧zl.all jJ=true:=by
 obtain⟨e,i,z,ht,hi,E4,hb,hsz,hzs⟩:=rI h
 unfold fV at hz;rw[ht]at hz;simp only[ie,hi,E4]at hz
 obtain⟨h1,h2⟩:=UY (S:=S) (w:=w) hz (s7 z)
 exact⟨e,i,z,ht,hi,E4,hb,hsz,hzs,by rw[h1.1];omega,h1,h2⟩
theorem GS{zl:List AV}{zs:List Value}(h:bO S w zl zs):∀n:Nat,bO S w (List.replicate n zl).flatten (List.replicate n zs).flatten:=by
 intro n
 induction n with
 |zero=>exact⟨rfl,fun j x v h=>by simp at h⟩
 |succ n ih=>rw[List.replicate_succ,List.replicate_succ,List.flatten_cons,List.flatten_cons];exact h.append ih
theorem He{cs:List AV}{vs:List Value}(h:bO S w cs vs)(hc:cs.all jJ=true):∀v,v∈vs→v.oneCell'=true:=
 uA (ι:=fun _=>none) h.rep hc
theorem zg{t:TypeId}{l c:Operand}{k k':IntKind}{n m:Int}{z:List AV}{sz:Nat}(cu:o.op=.makeSlice t l c)(hn:fP C un id o f (.an id sz) [(id,some (.rows true (List.replicate n.toNat z)))] next)
 (h:Inv C S ι un f a w) (hd:∀d,o.dst=some d→C.N.lo≤d∧d<C.N.n) (hid:∀x,id≤x→x<id+W→un x) (hl:gD C.G f.g l=.int k n) (hc:gD C.G f.g c=.int k' m) (h0:0≤n) (h1:n≤m) (h2:m≤bm)
 (ht:dY P t=some sz) (hz:fV P t=some z):o.wp P a w next Q:=by
 obtain⟨e,i,zv,ht',hi,kS,hb,hsz,hzs,hzl,ku,vd⟩:=A9 (S:=S) (w:=w) hz ht
 have hlv:=h.ev l;have hcv:=h.ev c
 rw[hl]at hlv;rw[hc]at hcv
 have mJ:(i.bytes:Int)*m≤281474976710656:=by
  have:=Nat.mul_le_mul hb (show m.toNat≤bm by omega)
  have e1:((i.bytes*m.toNat:Nat):Int)≤((131072*bm:Nat):Int):=by exact_mod_cast this
  rw[Int.natCast_mul,Int.toNat_of_nonneg (by omega)]at e1
  simp only[bm]at e1;omega
 have hrun:=run_make (P:=P) w t e i zv ht' hi kS k k' n m h0 h1 mJ (by simp only[bm]at h2;omega)
 subst hsz
 have hF:Flat true S w ι i.size (List.replicate n.toNat z) (List.replicate n.toNat zv.cells.toList).flatten:=by
  refine⟨fun r hr=>by simp_all,by simp[hzs],fun v hv=>?_,?_⟩
  ·obtain⟨l',hl',hv⟩:=List.mem_flatten.1 hv
   rw[WO hl']at hv;exact He ku vd v hv
  ·simp only[dw,Yi];exact GS ku _
 refine Dr hn h hd hid (.inl rfl) hF (cells:=madeCells zv.cells (m.toNat*i.size)) (rest:=(List.replicate (m.toNat-n.toNat) zv.cells.toList).flatten) (cap:=m.toNat) (e:=e) (w1:=w) (fr:=(0,0)) ?_ (by grind)
  (by simp[madeCells]) (by grind) (fun _=>rfl) (.inl rfl) ?_ (fun j _ h=>by simp at h)
 ·rw[←hzs,DB,←List.flatten_append,List.replicate_append_replicate]
  grind
 ·unfold execOp;rw[cu]
  simp only[hlv.bu,hcv.bu,Y7,hrun,Result.andThen_ok,Sem.run_pure,WJ]
theorem K4(n:Nat):∀(k:Nat) (cs:List AV),cs.length=k*n→(chunk n k cs).flatten=cs∧(∀r,r∈chunk n k cs→r.length=n)∧(chunk n k cs).length=k:=by
 intro k
 induction k with
 |zero=>intro cs h;simp[chunk];simp_all
 |succ k ih=>
  intro cs h;rw[YT,Nat.one_mul]at h
  obtain⟨h1,h2,h3⟩:=ih (cs.drop n) (by grind)
  refine⟨by simp[chunk,h1],fun r hr=>?_,by simp[chunk,h3]⟩
  rcases Yh.1 hr with rfl|hr
  all_goals simp_all
theorem Qu{t:TypeId}{len:Nat}{parts:Array (Nat×Operand)}{z cs:List AV}{sz:Nat}(cu:o.op=.buildSlice t len parts)
 (h:Inv C S ι un f a w) (ht:dY P t=some sz) (hz:fV P t=some z) (hlim:len*sz≤16777216)
 (hcl:cs.length=len*sz) (eg:cs.all jJ=true)
 (hf:fp (gD C.G f.g) (fun i=>some (i*sz,sz)) parts.toList (List.replicate len z).flatten=some cs):
 ∃cF e,az S w ι cs cF.toList∧True∧(execOp a.eval o).run P w=.ok (.value (.slice (some ⟨w.heap.size,0,none⟩) len len)) (w.alloc (.cells cF e (0,0))):=by
 obtain⟨e,i,zv,ht',hi,kS,hb,hsz,hzs,hzl,ku,vd⟩:=A9 (S:=S) (w:=w) hz ht
 subst hsz
 have pV:az S w ι (List.replicate len z).flatten (madeCells zv.cells (len*i.size)).toList:=by
  rw[←hzs,DB];exact(GS ku len).rep
 obtain⟨cF,h1,h2⟩:=Dd (fun x=>h.ev x) (fun j=>some (j*i.size,i.size)) parts.toList _ (madeCells zv.cells (len*i.size)) cs pV hf
 refine⟨cF,e,h2,trivial,?_⟩
 unfold execOp;rw[cu]
 have nU:(parts.map fun(i,x)=>(i,a.eval x)).toList=parts.toList.map fun x=>(x.1,a.eval x.2):=by simp
 have xp:¬(len*i.size>2^24):=by simp;omega
 by_cases h0:len*i.size=0
 ·have hm:(Array.range (len*i.size)).map (fun x=>(#[]:Array Value)[x% (#[]:Array Value).size]!)=madeCells zv.cells (len*i.size):=by simp[h0,madeCells,Array.range_zero']
  simp only[Instr.buildSlice,Y7,Y6 ht',Result.andThen_ok,qP hi,if_neg xp,if_pos h0,Sem.run_pure,hm,nU,h1,newRow,run_newObj,World.alloc]
 ·have hzero:(zeroValue e).run P w=.ok zv w:=by simp[zeroValue,typeInfo,hi,kS]
  have hm:(Array.range (len*i.size)).map (fun x=>zv.cells[x% zv.cells.size]!)=madeCells zv.cells (len*i.size):=rfl
  simp only[Instr.buildSlice,Y7,Y6 ht',Result.andThen_ok,qP hi,if_neg xp,if_neg h0,Sem.run_pure,hzero,hm,nU,h1,newRow,run_newObj,World.alloc]
theorem Pp{t:TypeId}{len:Nat}{parts:Array (Nat×Operand)}{z cs:List AV}{sz:Nat}(cu:o.op=.buildSlice t len parts)
 (hn:fP C un id o f (.an id sz) [(id,some (.rows (cs.all gY) (chunk sz len cs)))] next)
 (h:Inv C S ι un f a w) (hd:∀d,o.dst=some d→C.N.lo≤d∧d<C.N.n) (hid:∀x,id≤x→x<id+W→un x) (ht:dY P t=some sz) (hz:fV P t=some z) (hlim:len*sz≤16777216) (il:len≤bm)
 (hcl:cs.length=len*sz) (eg:cs.all jJ=true)
 (hf:fp (gD C.G f.g) (fun i=>some (i*sz,sz)) parts.toList (List.replicate len z).flatten=some cs):o.wp P a w next Q:=by
 obtain⟨e,i,zv,ht',hi,kS,hb,hsz,hzs,hzl,ku,vd⟩:=A9 (S:=S) (w:=w) hz ht
 subst hsz
 have pV:az S w ι (List.replicate len z).flatten (madeCells zv.cells (len*i.size)).toList:=by
  rw[←hzs,DB];exact(GS ku len).rep
 obtain⟨cF,h1,h2⟩:=Dd (fun x=>h.ev x) (fun j=>some (j*i.size,i.size)) parts.toList _ (madeCells zv.cells (len*i.size)) cs pV hf
 obtain⟨c1,c2,c3⟩:=K4 i.size len cs hcl
 have hF:Flat (cs.all gY) S w ι i.size (chunk i.size len cs) cF.toList:=by
  refine⟨c2,by rw[←h2.1,hcl,c3],uA h2 eg,?_⟩
  rw[c1];cases hid:cs.all gY
  ·simpa[dw]using h2
  ·simpa[dw]using h2.free hid
 have hcs:cF.size=len*i.size:=by have:=h2.1;simp only[Array.length_toList]at this;omega
 refine Dr hn h hd hid (.inl rfl) hF (cells:=cF) (rest:=[]) (cap:=len) (e:=e) (w1:=w) (fr:=(0,0)) (by simp) (by omega) (by omega) (by omega) (fun _=>rfl) (.inl rfl) ?_ (fun j _ h=>by simp at h)
 unfold execOp;rw[cu];rw[c3]
 have nU:(parts.map fun(i,x)=>(i,a.eval x)).toList=parts.toList.map fun x=>(x.1,a.eval x.2):=by simp
 have xp:¬(len*i.size>2^24):=by simp;omega
 by_cases h0:len*i.size=0
 ·have hm:(Array.range (len*i.size)).map (fun x=>(#[]:Array Value)[x% (#[]:Array Value).size]!)=madeCells zv.cells (len*i.size):=by simp[h0,madeCells,Array.range_zero']
  simp only[Instr.buildSlice,Y7,Y6 ht',Result.andThen_ok,qP hi,if_neg xp,if_pos h0,Sem.run_pure,hm,nU,h1,newRow,run_newObj,World.alloc]
 ·have hzero:(zeroValue e).run P w=.ok zv w:=by simp[zeroValue,typeInfo,hi,kS]
  have hm:(Array.range (len*i.size)).map (fun x=>zv.cells[x% zv.cells.size]!)=madeCells zv.cells (len*i.size):=rfl
  simp only[Instr.buildSlice,Y7,Y6 ht',Result.andThen_ok,qP hi,if_neg xp,if_neg h0,Sem.run_pure,hzero,hm,nU,h1,newRow,run_newObj,World.alloc]
theorem tg{t:TypeId}{x:Operand}{lo hi mx:Option Operand}{v:Value}(cu:o.op=.slice t x lo hi mx)
 (h:(Instr.sliceAt t (a.eval x) (lo.map a.eval) (hi.map a.eval) (mx.map a.eval)).run P w=.ok v w):(execOp a.eval o).run P w=.ok (.value v) w:=by
 unfold execOp;simp_all
theorem LC{s d:TypeId}(h:rD P s d=true):∃e,P.underlying s=some .string∧P.underlying d=some (.slice e)∧P.underlying e=some (.int .u8):=by
 unfold rD at h
 grind
theorem Lw(l:List UInt8):(gj l).flatten=l.map fun b=>AV.int .u8 b.toNat:=by
 unfold gj
 induction l with
 |nil=>rfl
 |cons b m ih=>simp[ih]
theorem TQ(l:List UInt8):Flat true S w ι 1 (gj l) (l.map fun b=>Value.int .u8 b.toNat):=by
 refine⟨fun r hr=>by obtain⟨b,_,rfl⟩:=YM.1 hr;rfl,by simp[gj],fun v hv=>by obtain⟨b,_,rfl⟩:=YM.1 hv;rfl,?_⟩
 rw[Lw];simp only[dw,Yi]
 refine⟨by simp,fun j x v h1 h2=>?_⟩
 rw[Yn,Yj]at h1 h2
 obtain⟨b,h1,rfl⟩:=h1
 obtain⟨b',h2,rfl⟩:=h2
 rw[h1]at h2;injection h2 with h2;subst h2
 exact .int _ _
theorem TF{s d:TypeId}{x:Operand}{l:List UInt8}(cu:o.op=.convert s d x)(hn:fP C un id o f (.an id 1) [(id,some (.rows true (gj l)))] next)
 (h:Inv C S ι un f a w) (hd:∀d,o.dst=some d→C.N.lo≤d∧d<C.N.n) (hid:∀x,id≤x→x<id+W→un x) (hx:gD C.G f.g x=.str l) (ht:rD P s d=true) (hl:l.length≤bm):o.wp P a w next Q:=by
 obtain⟨e,h1,h2,h3⟩:=LC ht
 have hv:=h.ev x
 rw[hx]at hv
 have hsz:(⟨l.toArray⟩:ByteArray).size=l.length:=by show l.toArray.size=_;simp
 have hrun:=run_bytes_of_string (P:=P) w s d e ⟨l.toArray⟩ h1 h2 h3
 rw[hsz]at hrun
 have hge:=grownCap_ge w l.length 0 e
 refine Dr hn h hd hid (.inl rfl) (TQ l) (cells:=bytesRow ⟨l.toArray⟩ (grownCap w l.length 0 e)) (rest:=List.replicate (grownCap w l.length 0 e-l.length) (.int .u8 0)) (cap:=grownCap w l.length 0 e) (e:=e) (w1:=w.drew)
  (fr:=((bytesRow ⟨l.toArray⟩ (grownCap w l.length 0 e)).size,(bytesRow ⟨l.toArray⟩ (grownCap w l.length 0 e)).size+1)) ?_ (by simpa[gj]using hge) ?_ (by simpa[gj]using hl) (fun _=>rfl) (.inr rfl) ?_ (fun j hj h=>by omega)
 ·simp[bytesRow,hsz]
 ·simp[bytesRow,hsz];omega
 ·unfold execOp;rw[cu]
  simp only[hv.cx,Y7,hrun,Result.andThen_ok,Sem.run_pure,gj,Yb]
theorem R7{s d:TypeId}{x:Operand}{l:List UInt8}{q:Bool×List (List AV)×List Nat}(cu:o.op=.convert s d x)(hn:fP C un id o f (.str l) [] next)
 (h:Inv C S ι un f a w) (hd:∀d,o.dst=some d→C.N.lo≤d∧d<C.N.n) (hx:dd f.os (gD C.G f.g x)=some q) (hl:q.2.1=gj l) (ht:rD P d s=true) (zG:∀l,gD C.G f.g x≠.str l):o.wp P a w next Q:=by
 obtain⟨e,h1,h2,h3⟩:=LC ht
 obtain⟨qp,ys,ro⟩:=q
 simp only at hl;subst hl
 have hv:=h.ev x
 have hlen:(gj l).length=l.length:=by simp[gj]
 obtain⟨us,hF,hs⟩:=AI (P:=P) h.ob hv hx (fun r hr=>by obtain⟨b,_,rfl⟩:=YM.1 hr;rfl) l.length (by omega)
 rw[←hlen,Wl]at hF
 have hus:us=l.map fun b=>Value.int .u8 b.toNat:=by
  have hr:=hF.rep.rep
  rw[Lw]at hr;apply Vi;intro j
  have dJ:=hr.1
  simp only[Yb]at dJ
  by_cases hj:j<l.length
  ·have hu:us[j]? =some us[j]:=Y3 (by omega)
   have:=hr.2 j (.int .u8 l[j].toNat) us[j] (by simp[hj]) hu
   rw[hu,this.bu];simp[hj]
  ·simp_all
 obtain⟨ad,len,cap,gp⟩:∃ad len cap,a.eval x=.slice ad len cap:=by
  generalize a.eval x=v' at hv;generalize gD C.G f.g x=xv at hv hx zG
  cases hv with
  |bI _ _ hh=>
   cases hh with
   |dq=>simp
   |fI=>simp
   |sl=>simp
   |str s=>simp_all
   |_=>simp[dd]at hx
  |eN=>simp
  |an=>simp
  |fk=>simp
  |iG=>simp
  |_=>simp[dd]at hx
 have kW:len=l.length:=by
  have:=hs.len w
  rw[gp,hlen]at this;simpa[Builtin.lenOf]using this
 subst kW
 have iL:=hs.cells w rfl
 rw[gp,hus]at iL
 refine gJ hn h hd (v':=.string ⟨l.toArray⟩) ?_ (.bI _ _ (.jm _))
 unfold execOp;rw[cu]
 have Je:(convert s d (.slice ad l.length cap)).run P w=.ok (.string ⟨l.toArray⟩) w:=by
  rw[run_convert_bytes_string w s d e ad l.length cap h2 h3 h1]
  cases ad with
  |none=>
   have:l=[]:=by
    simp only[Builtin.firstCells,Sem.run_pure,V9]at iL
    have:=YF Array.size iL.1
    simp at this;exact Yy.1 this.symm
   subst this;rfl
  |some ad=>
   have hc2:(loadCells ad l.length).run P w=.ok ((l.map (fun b=>(b.toNat:Int))).map (Value.int .u8)).toArray w:=by
    have:(Builtin.firstCells 1 l.length (.slice (some ad) l.length cap))=loadCells ad (l.length*1):=rfl
    rw[this,Nat.mul_one]at iL;rw[iL,YP];rfl
   rw[run_bytesToString w ad l.length cap (l.map fun b=>(b.toNat:Int)) hc2,foldl_push_byteCells]
   simp
 simp_all
theorem KX{ob off len room x y sz:Nat}{v:Value}(hv:∃l ad cap,ι ob=some (some l)∧v=.slice (some ad) len cap∧len≤room∧room≤cap∧l.base+(off+cap)*l.bo≤l.size∧len≤bm∧off+room≤l.dO∧
 (cap≠0→ad=⟨l.bd,l.base+off*l.bo,none⟩)∧(x≠0→sz=l.bo)) (h1:x≤y) (h2:y≤len):
 ∃ad sq cap,v=.slice ad sq cap∧sq=len∧len≤cap∧bP S w ι (.eN ob (off+x) (y-x) (room-x)) (.slice (if cap=x then ad else ad.map (·.add (x*sz))) (y-x) (cap-x)):=by
 obtain⟨l,ad,cap,e,rfl,h3,h4,h5,h6,h7,ha,hs⟩:=hv
 refine⟨some ad,len,cap,rfl,rfl,by omega,?_⟩
 have hmul:(off+x+(cap-x))*l.bo=(off+cap)*l.bo:=by congr 1;omega
 split
 ·rename_i hc
  exact .eN ob (off+x) (y-x) (room-x) (cap-x) ad l e (by omega) (by omega) (by omega) (by omega) (by omega) (fun h=>by omega)
 ·rename_i hc
  refine .eN ob (off+x) (y-x) (room-x) (cap-x) (ad.add (x*sz)) l e (by omega) (by omega) (by omega) (by omega) (by omega) (fun h=>?_)
  rw[ha (by omega),v7,YT]
  grind
theorem Inv.sc(h:Inv C S ι un f a w){q:Nat}{p p':Bool}{es xy:List (AV×AV)}(hq:f.os q=some (.aw p es)){l:Loc}(hl:ι q=some (some l)){fa:Array MapEntry}{clock':Nat}
 (hlim:fa.size≤bm) (hm:fz S w {w with heap:=w.heap.setIfInBounds l.bd (.map fa clock')}→jj p' S {w with heap:=w.heap.setIfInBounds l.bd (.map fa clock')} ι xy fa.toList):
 Inv C S ι un {f with os:=ay f.os [(q,some (.aw p' xy))]} a {w with heap:=w.heap.setIfInBounds l.bd (.map fa clock')}:=by
 obtain⟨hO,hS,hlt⟩:=h.own q _ hq rfl l hl _ (.inl rfl)
 have eo:∀b,b≠l.bd→(w.heap.setIfInBounds l.bd (Obj.map fa clock'))[b]? =w.heap[b]? :=fun b hb=>Wz (fun e=>hb e.symm)
 have hw:fz S w {w with heap:=w.heap.setIfInBounds l.bd (.map fa clock')}:=fun b hb=>eo b (fun e=>hS (e▸hb))
 have hoth:∀o' y,f.os o'=some y→y.live=true→o'≠q→∀l',ι o'=some (some l')→∀b,cj w y l' b→(w.heap.setIfInBounds l.bd (Obj.map fa clock'))[b]? =w.heap[b]? :=fun o' y hy hly e l' hl' b hb=>
  eo b (fun eb=>e (h.inj o' q y _ hy hq hly rfl l' l hl' hl b hb (.inl eb)))
 refine h.hP (fun _ x=>x) hw (ax.le_refl _) ?_ ?_ ?_ (fun b hb=>by simpa using h.sb b hb) h.sn h.un ?_
 ·intro o' y hy
  simp only[ay]at hy
  by_cases e:o'=q
  ·subst e
   simp only[Yi,Y2]at hy;subst hy
   exact⟨l,fa,clock',hl,by simp[hlt],hm hw,hlim⟩
  ·simp only[e,Yc]at hy
   exact(h.ob o' y hy).mono (fun _ x=>x) hw (ax.le_refl _) (fun l' hl' hy' b hb=>eo _ (fun eb=>e (h.inj o' q y _ hy hq hy' rfl l' l hl' hl b hb (.inl eb))))
 ·intro o' y hy hly l' hl' b hb
  simp only[ay]at hy
  have:(w.heap.setIfInBounds l.bd (Obj.map fa clock')).size=w.heap.size:=by simp
  by_cases e:o'=q
  ·subst e
   rw[hl]at hl'
   injection hl' with hl';injection hl' with hl';subst hl'
   simp only[Yi,Y2]at hy;subst hy;rw[iw rfl hb];simp_all
  ·simp only[e,Yc]at hy
   have:=h.own o' y hy hly l' hl' b (eP (hoth o' y hy hly e l' hl') hb)
   simp_all
 ·intro o1 o2 y1 y2 hy1 hy2 hl1 dJ l1 l2 e1 e2 b hb hb2
  simp only[ay]at hy1 hy2
  by_cases e:o1=q<;>by_cases e':o2=q
  ·rw[e,e']
  ·subst e
   simp only[e',Yc]at hy2;simp only[Yi,Y2]at hy1;subst hy1
   rw[hl]at e1;injection e1 with e1;injection e1 with e1;subst e1
   exact h.inj o1 o2 _ y2 hq hy2 rfl dJ l l2 hl e2 b (.inl (iw rfl hb)) (eP (hoth o2 y2 hy2 dJ e' l2 e2) hb2)
  ·subst e'
   simp only[e,Yc]at hy1;simp only[Yi,Y2]at hy2;subst hy2
   rw[hl]at e2;injection e2 with e2;injection e2 with e2;subst e2
   exact h.inj o1 o2 y1 _ hy1 hq hl1 rfl l1 l e1 hl b (eP (hoth o1 y1 hy1 hl1 e l1 e1) hb) (.inl (iw rfl hb2))
  ·simp only[e,e',Yc]at hy1 hy2
   exact h.inj o1 o2 y1 y2 hy1 hy2 hl1 dJ l1 l2 e1 e2 b (eP (hoth o1 y1 hy1 hl1 e l1 e1) hb) (eP (hoth o2 y2 hy2 dJ e' l2 e2) hb2)
 ·refine⟨h.fr.os,h.fr.output,by simpa using h.fr.size,fun b hb hn=>?_⟩
  have:=eo b (fun e=>hn (by simp_all))
  simp only;rw[this];exact h.fr.old b hb hn
theorem jj.mono{S':Nat→Prop}{w':World}{ι':ax}(hs:∀b,S b→S' b)(hw:fz S w w')(hι:ι.le ι'){es:List (AV×AV)}{xs:List MapEntry}{p:Bool}(h:jj p S w ι es xs):jj p S' w' ι' es xs:=
 ⟨h.1,fun i e x a b=>⟨(h.2 i e x a b).1.mono hs hw,(h.2 i e x a b).2.1.mono hs hw hι,fun hp=>((h.2 i e x a b).2.2 hp).mono hs hw⟩⟩
theorem pb{kt:TypeId}{k:AV}{u:Value}(h:dz P kt k=true)(hu:bP S w ι k u):
 bR S w k u∧(∀e,(Instr.checkKey e 10000 kt u).run P w=.ok () w)∧(∃d,P.underlying kt=some d)∧Instr.sameBits 10000 u u=true:=by
 unfold dz at h;split at h
 ·rename_i q a b ht
  rw[hu.bu]
  exact⟨.int _ _,fun e=>Gp ht,⟨_,ht⟩,Gz _ _ _⟩
 ·rename_i l ht
  rw[hu.cx]
  exact⟨.jm _,fun e=>Pt ht,⟨_,ht⟩,JK _ _⟩
 ·rename_i b ht
  rw[hu.dp]
  exact⟨.bool _,fun e=>Qw ht,⟨_,ht⟩,Kc _ _⟩
 ·rename_i fs q a r b ht
  have hv:=qI hu
  rw[hv]at hu⊢
  refine⟨?_,fun e=>Qx h,⟨_,ht⟩,Kd _ _ _ _⟩
  exact hu.qj rfl
 ·cases h
theorem LJ{kt:TypeId}{k:AV}:∀(es:List (AV×AV)) (i:Nat) (r:Option Nat),fQ P kt k es i r→∀j,r=some j→i≤j∧∃e,es[j-i]? =some e∧cY P kt k e.1=some true:=by
 intro es
 induction es with
 |nil=>intro i r h j e;simp only[fQ]at h;simp_all
 |cons x es ih=>
  intro i r h j e;simp only[fQ]at h
  grind
theorem lL{r:Nat}{es:Array MapEntry}{clock:Nat}(hb:w.heap[r]? =some (.map es clock)):(getObj r).run P w=.ok (.map es clock) w:=by
 simp[getObj,Sem.run,hb]
theorem ta{r:Nat}{es:Array MapEntry}{clock:Nat}(ob:Obj)(hb:w.heap[r]? =some (.map es clock)):(setObj r ob).run P w=.ok () {w with heap:=w.heap.setIfInBounds r ob}:=by
 simp[setObj,Sem.run,hb]
theorem Rr{op:Op}{v:AV}{U:List (Nat×Option AO)}{RO:List Nat}(cu:o.op=op)(h:Inv C S ι un f a w)
 (hst:dR P (gD C.G f.g) f.os id op v U RO) (hid:∀x,id≤x→x<id+W→un x) (hd:∀d,o.dst=some d→C.N.lo≤d∧d<C.N.n) (hn:fP C un id o f v U next):o.wp P a w next Q:=by
 cases hst with
 |nB t x lo hi l x1 x2 hx ht ha hb gr hbl=>
  have hv:=h.ev x
  rw[hx]at hv
  refine gJ hn h hd (tg cu ?_) (.bI _ _ (.jm _))
  rw[hv.cx];exact SF ht (h.ky ha) (h.ky hb) gr hbl
 |sa t x lo hi xs x1 x2 sz hx ht hl ha hb gr hbl=>
  have hv:=h.ev x
  rw[hx]at hv
  obtain⟨e,i,z,ht',hi,hz,CH,hsz,hzs⟩:=rI ht
  obtain⟨ad,len,cap,gp⟩:∃ad len cap,a.eval x=.slice ad len cap:=by
   generalize a.eval x=v' at hv
   cases hv with|bI _ _ hh=>cases hh<;>exact⟨_,_,_,rfl⟩
  rw[gp]at hv
  obtain⟨h1,h2,h3⟩:=Qc hv hl gr hbl
  refine gJ hn h hd (tg cu ?_) h3
  rw[gp]
  exact we ht' hi hsz (h.ky ha) (by rw[h1];exact h.ky hb) gr (by omega)
 |lu t x lo hh m k k' q sz hs hx ht ha OH Oq=>
  have hv:=h.ev x
  have h1:=h.ev hh;have h2:=h.ev m
  rw[OH]at h1;rw[Oq]at h2
  obtain⟨e,i,z,ht',hi,hz,CH,hsz,hzs⟩:=rI ht
  obtain⟨ad,len,cap,gp⟩:∃ad len cap,a.eval x=.slice ad len cap:=by
   generalize a.eval x=v' at hv;generalize gD C.G f.g x=xv at hv hx hs
   cases hv with
   |bI _ _ hh=>
    cases hh with
    |dq=>simp
    |fI=>simp
    |sl=>simp
    |str s=>simp_all
    |_=>simp[dd]at hx
   |eN=>simp
   |an=>simp
   |fk=>simp
   |iG=>simp
   |_=>simp[dd]at hx
  refine gJ hn h hd (tg cu (v:=.slice ad 0 0) ?_) (.bI _ _ (.dq _))
  have:=TE (w:=w) (len:=len) (cap:=cap) (ad:=ad) (k:=k) (k':=k') ht' hi hsz (h.ky ha)
  rw[gp];simp only[Yo,h1.bu,h2.bu];exact this
 |nC t x lo hi ob z0 x1 x2 sz y rs hx ho hy hr ht ha hb gr hbl=>
  have hv:=h.ev x
  rw[hx]at hv
  obtain⟨e,i,z,ht',hi,hz,CH,hsz,hzs⟩:=rI ht
  rcases xF (h.ob ob _ ho) hy with ⟨q,rfl⟩|⟨l,vals,q,hcnt,hat,hrep⟩
  ·rcases kp hv with ⟨l',ab,cap,q',_⟩|⟨q',ab,gp⟩
   ·simp_all
   ·simp only[YB]at hbl hb
    have h2:x2=0:=by omega
    subst h2
    have h1:x1=0:=by omega
    subst h1
    refine gJ hn h hd (tg cu (v:=.slice ab 0 0) ?_) (.iG ob ab q)
    rw[gp]
    have:=we (w:=w) (ad:=ab) (len:=0) (cap:=0) ht' hi hsz (h.ky ha) (h.ky hb) (Yg _) (Yg _)
    simp_all
  ·rcases kp hv with ⟨l',ab,cap,q',gp,g1,g2,g3,_,ga⟩|⟨q',ab,gp⟩
   ·rw[q]at q';injection q' with q';injection q' with q';subst q'
    obtain⟨ad,sq,Aw,e1,e2,e3,e4⟩:=KX (S:=S) (w:=w) (ob:=ob) (off:=0) (room:=rs.length) (x:=x1) (y:=x2) (sz:=sz) (len:=rs.length) (v:=a.eval x)
     ⟨l,ab,cap,q,by simp_all,by omega,by omega,by simp_all,by omega,by omega,fun h=>by simp_all,fun hx0=>by
      have hx1:x1-1<rs.length:=by omega
      have h5:=hr _ (Wb hx1)
      have h6:=(hrep (x1-1) _ (Y3 hx1)).1
      have h7:=hat.2.1 (x1-1) hx1
      omega⟩ gr hbl
    subst e2;rw[YS]at e4
    refine gJ hn h hd (tg cu ?_) e4
    rw[e1]
    exact we ht' hi hsz (h.ky ha) (h.ky hb) gr (by omega)
   simp_all
 |sQ t x hi ob z0 b rs hx ho hr ht hb hbl=>
  have hv:=h.ev x
  rw[hx]at hv
  obtain⟨e,i,z,ht',hi',hz,CH,hsz,hzs⟩:=rI ht
  rcases h.ob ob _ ho with ⟨q,rfl⟩|⟨l,vals,q,hcnt,hm,hat,hrep⟩
  ·rcases kp hv with ⟨l',ab,cap,q',_⟩|⟨q',ab,gp⟩
   ·simp_all
   ·simp only[YB]at hbl hb
    have h2:b=0:=by omega
    subst h2
    have hrun:=tg (P:=P) (w:=w) (a:=a) cu (v:=.slice ab 0 0) (by
     rw[gp]
     have:=we (P:=P) (w:=w) (ad:=ab) (len:=0) (cap:=0) (a:=0) (b:=0) (lo:=none) ht' hi' hsz rfl (h.ky hb) (Yg _) (Yg _)
     simp_all)
    unfold Oper.wp;rw[hrun,Oper.upon_value]
    obtain⟨ι',hle,hι',hinv⟩:=(h.del ob).void (iy hid) true
    exact Inv.goes hn hinv (fun x hx=>po hx) (.fk id _ ab hι') hd
  ·rcases kp hv with ⟨l',ab,cap,q',gp,g1,g2,g3,gz,ga⟩|⟨q',ab,gp⟩
   ·rw[q]at q';injection q' with q';injection q' with q';subst q'
    have hrun:=tg (P:=P) (w:=w) (a:=a) cu (v:=.slice (some ab) b cap) (by
     rw[gp]
     have:=we (P:=P) (w:=w) (ad:=some ab) (len:=l.dO) (cap:=cap) (a:=0) (b:=b) (lo:=none) ht' hi' hsz rfl (by rw[←hcnt];exact h.ky hb) (YC _) (by omega)
     refine Eq.trans (by rfl) (this.trans ?_)
     simp[Addr.add])
    unfold Oper.wp;rw[hrun,Oper.upon_value]
    obtain⟨ι',hle,hι',hinv⟩:=h.move (id:=id) (iy hid) (q:=ob) (x:=.rows true rs) (x':=.rows true (rs.take b)) (l:=l) (l':=⟨l.bd,l.base,l.bo,l.size,b⟩) ho rfl q
     (fun _ h=>by have:=iw rfl h;exact .inl this) (fun ι' hle hι'=>by
     have xk:(rs.take b).length=b:=by simp[hbl]
     have qa:b*l.bo≤rs.length*l.bo:=Yr _ hbl
     refine .inr ⟨_,vals,hι',xk,hm,⟨by have:=hat.1;grind,fun i hi=>hat.2.1 i (by omega),fun i j v hi hv=>hat.2.2 i j v (by omega) hv⟩,fun i r hr=>?_⟩
     rw[W8]at hr
     split at hr
     ·exact hrep i r hr
     grind)
    have xm:bP S w ι' (.an id z0) (.slice (some ab) b cap):=by
     refine .an id z0 cap ab ⟨l.bd,l.base,l.bo,l.size,b⟩ hι' (by grind) g2 (by grind) (fun h0 hc=>?_) ga
     by_cases hr0:l.dO=0
     ·simp_all
     ·obtain⟨r,pW⟩:∃r,rs[0]? =some r:=⟨_,Y3 (by omega)⟩
      have h1:=hat.2.1 0 (by omega)
      have h2:=(hrep.get pW).1
      grind
    exact Inv.goes hn hinv (fun x hx=>po hx) xm hd
   simp_all
 |nD t x lo hi ob off len room x1 x2 sz y rs hx ho hy hr ht ha hb gr hbl kX=>
  have hv:=h.ev x
  rw[hx]at hv
  obtain⟨e,i,z,ht',hi,hz,CH,hsz,hzs⟩:=rI ht
  rcases vY hv with ⟨l',ab,cap,q',gp,g1,g2,g3,g4,g5,ga⟩|⟨q',rfl,rfl,rfl,ab,gp⟩
  ·rcases xF (h.ob ob _ ho) hy with ⟨q,rfl⟩|⟨l,vals,q,hcnt,hat,hrep⟩
   ·simp_all
   ·rw[q]at q';injection q' with q';injection q' with q';subst q'
    obtain⟨ad,sq,Aw,e1,e2,e3,e4⟩:=KX (S:=S) (w:=w) (ob:=ob) (off:=off) (room:=room) (x:=x1) (y:=x2) (sz:=sz) (len:=len) (v:=a.eval x)
     ⟨l,ab,cap,q,gp,g1,g2,g3,g4,g5,ga,fun hx0=>by
      have hx1:x1-1<rs.length:=by omega
      have h5:=hr _ (Wb hx1)
      have h6:=(hrep (x1-1) _ (Y3 hx1)).1
      have h7:=hat.2.1 (x1-1) hx1
      omega⟩ gr hbl
    subst e2
    refine gJ hn h hd (tg cu ?_) e4
    rw[e1]
    exact we ht' hi hsz (h.ky ha) (h.ky hb) gr (by omega)
  ·have h2:x2=0:=by omega
   subst h2
   have h1:x1=0:=by omega
   subst h1
   refine gJ hn h hd (tg cu (v:=.slice ab 0 0) ?_) (.iG ob ab q')
   rw[gp]
   have:=we (w:=w) (ad:=ab) (len:=0) (cap:=0) ht' hi hsz (h.ky ha) (h.ky hb) (Yg _) (Yg _)
   simp_all
 |sk t l c k k' n m z sz hl hc h0 h1 h2 ht hz=>exact zg cu hn h hd hid hl hc h0 h1 h2 ht hz
 |oc t len parts z cs sz ht hz hlim il hcl eg hf=>exact Pp cu hn h hd hid ht hz hlim il hcl eg hf
 |qC t tx s x q sz hs hx ht j4 hr hlim=>exact Qo cu hn h hd hid hs hx ht j4 hr hlim
 |qB t tx s x q sz ob z p rs hs hz ho hx ht j4 hr lT hlim=>exact Qp cu hn h hd hid hs hz ho hx ht j4 hr lT hlim
 |dQ s d x l hx ht hl=>exact TF cu hn h hd hid hx ht hl
 |toStr s d x l q hs hx hl ht=>exact R7 cu hn h hd hx hl ht hs
 |mkMap t hk=>
  have hrun:(execOp a.eval o).run P w=.ok (.value (.map (some w.heap.size))) (w.alloc (.map #[] 0)):=by
   unfold execOp;rw[cu];simp only[Instr.makeMap,Option.map_none,Y7,Sem.run_pure,run_newObj,Result.andThen_ok];rfl
  unfold Oper.wp;rw[hrun,Oper.upon_value]
  obtain⟨ι',hle,hι',hinv⟩:=h.alloc (iy hid) (.map #[] 0) ⟨w.heap.size,0,0,0,0⟩ rfl (.aw true []) rfl (fun _ h=>iw rfl h) (fun ι' hle hι'=>
   ⟨_,#[],0,hι',by show(w.heap.push _)[w.heap.size]? =_;simp,⟨rfl,fun i e x h=>by simp at h⟩,by simp⟩)
  exact Inv.goes hn hinv (fun x hx=>po hx) (.aw id _ hι') hd
 |lx t x k n hk hx=>
  have hv:=h.ev x
  rw[hx]at hv
  obtain⟨kt,fF⟩:=YW.1 hk
  unfold dr at fF;split at fF
  ·rename_i kk ee ht
   have hrun:(execOp a.eval o).run P w=.ok (.value (.map (some w.heap.size))) (w.alloc (.map #[] 0)):=by
    unfold execOp;rw[cu];simp only[Instr.makeMap,Yo,Y7,Y6 ht,hv.bu,asInt,asIntOf,Sem.run_pure,run_newObj,Result.andThen_ok];rfl
   unfold Oper.wp;rw[hrun,Oper.upon_value]
   obtain⟨ι',hle,hι',hinv⟩:=h.alloc (iy hid) (.map #[] 0) ⟨w.heap.size,0,0,0,0⟩ rfl (.aw true []) rfl (fun _ h=>iw rfl h) (fun ι' hle hι'=>
    ⟨_,#[],0,hι',by show(w.heap.push _)[w.heap.size]? =_;simp,⟨rfl,fun i e x h=>by simp at h⟩,by simp⟩)
   exact Inv.goes hn hinv (fun x hx=>po hx) (.aw id _ hι') hd
  grind
 |ik _ t kt m k x pY ob pf es r hm ho ht hk hr hlim vx IZ=>
  have gM:=h.ev m;have hkv:=h.ev k;have oM:=IZ.rep _ (h.ev x)
  rw[hm]at gM
  obtain⟨l,hl,iv⟩:=gM.cK
  obtain⟨l',xs,clock,hl',hheap,lU,iu⟩:=h.ob ob _ ho
  rw[hl]at hl';injection hl' with hl';injection hl' with hl';subst hl'
  obtain⟨ji,iK,⟨d,hd'⟩,hsb⟩:=pb hk hkv
  obtain⟨e,iY,iJ,lH⟩:=pC hd' hk hkv lU hr
  unfold dr at ht;split at ht
  ·rename_i kk ee gL
   injection ht with ht;subst ht
   have iI:(Instr.findKey kk (a.eval k) xs.toList).run P w=.ok e w:=iY
   have hex:(execOp a.eval o)=(do Instr.mapUpdate t (a.eval m) (a.eval k) (a.eval x);pure .skip:Sem Next):=by
    unfold execOp;rw[cu];rcases pY with rfl|rfl<;>rfl
   cases r with
   |none=>
    have he:e=none:=by cases e with|none=>rfl|some p=>grind
    subst he
    have hrun:(execOp a.eval o).run P w=.ok .skip {w with heap:=w.heap.setIfInBounds l.bd (.map (xs.push {key:=a.eval k,val:=a.eval x,born:=clock}) (clock+1))}:=by
     rw[hex,iv];simp only[Instr.mapUpdate,Y7,Y6 gL,Result.andThen_ok,lL hheap,iK,iI,ta _ hheap,Sem.run_pure]
    unfold Oper.wp;rw[hrun,Oper.upon_skip]
    have hinv:=h.sc ho hl (p':=pf&&ur vx) (xy:=iT es none (gD C.G f.g k) vx) (fa:=xs.push {key:=a.eval k,val:=a.eval x,born:=clock}) (clock':=clock+1) (by
     have:=lU.1;simp_all) (fun hw=>by
     have kD:=lU.mono (fun _ x=>x) hw (ax.le_refl _)
     refine⟨by simp[iT,lU.1],fun i e x h1 h2=>?_⟩
     simp only[iT,Vj]at h1 h2
     by_cases hi:i<es.length
     ·rw[Yt hi]at h1
      rw[Yt (by have:=lU.1;omega)]at h2
      exact⟨(kD.2 i e x h1 h2).1,(kD.2 i e x h1 h2).2.1,fun hp=>(kD.2 i e x h1 h2).2.2 (by simp_all)⟩
     ·rw[Yf (by omega)]at h1
      rw[Yf (by have:=lU.1;omega)]at h2
      have hi0:i-es.length=0:=by have:=eZ h1;simp at this;omega
      have hi1:i-xs.toList.length=0:=by rw[←lU.1];exact hi0
      rw[hi0]at h1;rw[hi1]at h2
      simp only[List.getElem?_cons_zero,Y2]at h1 h2
      subst h1;subst h2
      exact⟨ji.mono (fun _ x=>x) hw,oM.mono (fun _ x=>x) hw (ax.le_refl _),fun hp=>(oM.qj (by simp_all)).mono (fun _ x=>x) hw⟩)
    exact Inv.goes hn hinv (fun x hx=>hx.1) (.bI _ _ (.undef _)) hd
   |some j=>
    obtain⟨⟨j',y⟩,rfl⟩:∃p,e=some p:=by cases e with|none=>grind|some p=>simp
    simp only[Yo,Y2]at iJ;subst iJ
    obtain⟨x0,hx0,oK⟩:=lH j' y rfl
    obtain⟨_,e0,he0,CA⟩:=LJ es 0 _ hr j' rfl
    rw[Nat.sub_zero]at he0
    have vi:=Me CA hkv (lU.2 j' e0 x0 he0 hx0).1
    have rn:xs[j']? =some x0:=by rw[←Wh];exact hx0
    have hrun:(execOp a.eval o).run P w=.ok .skip {w with heap:=w.heap.setIfInBounds l.bd (.map (xs.modify j' fun e=>{e with key:=a.eval k,val:=a.eval x}) clock)}:=by
     rw[hex,iv];simp only[Instr.mapUpdate,Y7,Y6 gL,Result.andThen_ok,lL hheap,iK,iI,rn,Yo,Yv,Instr.keyThatStays,vi,Yi,ta _ hheap,Sem.run_pure]
    unfold Oper.wp;rw[hrun,Oper.upon_skip]
    have hinv:=h.sc ho hl (p':=pf&&ur vx) (xy:=iT es (some j') (gD C.G f.g k) vx) (fa:=xs.modify j' fun e=>{e with key:=a.eval k,val:=a.eval x}) (clock':=clock) (by
     simp_all) (fun hw=>by
     have kD:=lU.mono (fun _ x=>x) hw (ax.le_refl _)
     refine⟨by simp[iT,lU.1],fun i e x h1 h2=>?_⟩
     simp only[iT,Array.toList_modify]at h1 h2
     rw[List.getElem?_modify]at h1 h2
     simp only[Option.map_eq_map,Yj]at h1 h2
     obtain⟨e9,h1,rfl⟩:=h1
     obtain⟨x9,h2,rfl⟩:=h2
     by_cases hi:j'=i
     ·subst hi
      simp only[Yi]
      exact⟨ji.mono (fun _ x=>x) hw,oM.mono (fun _ x=>x) hw (ax.le_refl _),fun hp=>(oM.qj (by simp_all)).mono (fun _ x=>x) hw⟩
     ·simp only[hi,Yc]
      exact⟨(kD.2 i e9 x9 h1 h2).1,(kD.2 i e9 x9 h1 h2).2.1,fun hp=>(kD.2 i e9 x9 h1 h2).2.2 (by simp_all)⟩)
    exact Inv.goes hn hinv (fun x hx=>hx.1) (.bI _ _ (.undef _)) hd
  grind
 |look t kt m k ok ob pf es r v hm ho ht hk hr hv=>
  have gM:=h.ev m;have hkv:=h.ev k
  rw[hm]at gM
  obtain⟨l,hl,iv⟩:=gM.cK
  obtain⟨l',xs,clock,hl',hheap,lU,iu⟩:=h.ob ob _ ho
  rw[hl]at hl';injection hl' with hl';injection hl' with hl';subst hl'
  obtain⟨ji,iK,⟨d,hd'⟩,hsb⟩:=pb hk hkv
  obtain⟨e,iY,iJ,lH⟩:=pC hd' hk hkv lU hr
  unfold dr at ht;split at ht
  ·rename_i kk ee gL
   injection ht with ht;subst ht
   have iI:(Instr.findKey kk (a.eval k) xs.toList).run P w=.ok e w:=iY
   have fin:∀v':Value,bP S w ι v v'→((∃j,e=some (j,v')∧r.isSome=true)∨(e=none∧r.isSome=false∧(zeroValue ee).run P w=.ok v' w))→o.wp P a w next Q:=by
    intro v' hv' zz
    have hrun:(execOp a.eval o).run P w=.ok (.value (if ok then .tuple #[v',.bool r.isSome]else v')) w:=by
     unfold execOp;rw[cu]
     rcases zz with ⟨j,rfl,zC⟩|⟨rfl,zC,hz⟩
     ·simp only[iv,Instr.lookup,Y7,Y6 gL,Result.andThen_ok,lL hheap,Sem.run_pure,iK,iI,zC]
     ·simp only[iv,Instr.lookup,Y7,Y6 gL,Result.andThen_ok,lL hheap,Sem.run_pure,iK,iI,zC,hz]
    refine gJ hn h hd hrun ?_
    cases ok
    ·exact hv'
    ·exact az.jQ (az.cons hv' (az.cons (.bI _ _ (.bool _)) .nil))
   rcases hv with ⟨i,e0,rfl,he0,rfl⟩|⟨rfl,vt,z0,jt,hz,jg⟩
   ·obtain⟨⟨j',y⟩,rfl⟩:∃p,e=some p:=by cases e with|none=>grind|some p=>simp
    simp only[Yo,Y2]at iJ;subst iJ
    obtain⟨x0,hx0,oK⟩:=lH j' y rfl
    refine fin y ?_ (.inl ⟨_,rfl,rfl⟩)
    rw[←oK];exact(lU.2 j' e0 x0 he0 hx0).2.1
   ·have he:e=none:=by cases e with|none=>rfl|some p=>grind
    subst he
    have lD:ee=vt:=by unfold fX at jt;rw[gL]at jt;simpa using jt
    subst lD;unfold zeroV at hz;split at hz
    ·cases hz
    ·rename_i i hi
     split at hz
     ·rename_i zv kS
      injection hz with hz;subst hz
      refine fin zv (jg.rep _ (.bI _ _ (s7 zv))) (.inr ⟨rfl,rfl,?_⟩)
      simp[zeroValue,typeInfo,hi,kS]
     grind
  grind
 |nL t kt vt m k ok v hm ht hk jt hz=>
  have gM:=h.ev m;have hkv:=h.ev k
  rw[hm]at gM
  have iv:=gM.gG
  obtain⟨ji,iK,⟨d,hd'⟩,hsb⟩:=pb hk hkv
  unfold dr at ht;split at ht
  ·rename_i kk ee gL
   injection ht with ht;subst ht
   have lD:ee=vt:=by unfold fX at jt;rw[gL]at jt;simpa using jt
   subst lD;unfold zeroV at hz;split at hz
   ·cases hz
   ·rename_i i hi
    split at hz
    ·rename_i zv kS
     injection hz with hz;subst hz
     have ku:(zeroValue ee).run P w=.ok zv w:=by simp[zeroValue,typeInfo,hi,kS]
     have iI:(Instr.findKey kk (a.eval k) []).run P w=.ok none w:=by
      simp only[Instr.findKey,Y7,Y6 hd',Result.andThen_ok,Instr.findNow,Sem.run_pure]
     have hrun:(execOp a.eval o).run P w=.ok (.value (if ok then .tuple #[zv,.bool false]else zv)) w:=by
      unfold execOp;rw[cu];simp only[iv,Instr.lookup,Y7,Y6 gL,Result.andThen_ok,Sem.run_pure,iK,iI,ku]
     refine gJ hn h hd hrun ?_
     cases ok
     ·exact .bI _ _ (s7 zv)
     ·exact az.jQ (az.cons (.bI _ _ (s7 zv)) (az.cons (.bI _ _ (.bool _)) .nil))
    grind
  grind
end
end Go.Ab
