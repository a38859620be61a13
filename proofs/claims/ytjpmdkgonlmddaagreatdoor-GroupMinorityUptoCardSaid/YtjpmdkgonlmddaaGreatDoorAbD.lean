import Derived.Test.YtjpmdkgonlmddaaGreatDoorAbC
import Derived.Laws.MakeOwn
import Derived.Laws.IdiomStrings
import Derived.Laws.BytesString
set_option linter.unusedVariables false
namespace Go.Ab
section
variable {C:Cx}{S:Nat→Prop}{w:World}{ι:Imap}{P:Program}{un:Nat→Prop}{f:FS}{a:Act}{id:Nat}{o:Oper}
 {next:Act→World→Prop} {Q:Exit→Act→World→Prop}
theorem Inv.del(h:Inv C S ι un f a w)(q:Nat):Inv C S ι un {f with os:=updO f.os [(q,none)]} a w:=by
 have sub:∀o x,updO f.os [(q,none)] o=some x→f.os o=some x:=by
  intro o x hx;simp only[updO]at hx;split at hx
  ·cases hx
  ·exact hx
 exact⟨h.tm,h.sz,h.df,fun o x hx=>h.ob o x (sub o x hx),fun o x hx=>h.own o x (sub o x hx),fun o o' x x' h1 h2=>h.inj o o' x x' (sub _ _ h1) (sub _ _ h2),h.sb,h.sn,h.un,h.fr,h.fo,h.gv,h.s0,h.hj⟩
theorem ZnK{x:Option Loc}(hnone:ι id=none):ι.le (fun o=>if o=id then some x else ι o):=by
 intro o y hy
 grind
theorem Inv.void(h:Inv C S ι un f a w)(hid:un id)(p:Bool):
 ∃ι',ι.le ι'∧ι' id=some none∧Inv C S ι' (fun o=>un o∧o≠id) {f with os:=updO f.os [(id,some (.rows p []))]} a w:=by
 have hnone:=h.un id hid
 refine⟨fun o=>if o=id then some none else ι o,ZnK hnone,by simp,?_⟩
 have hι:=ZnK (x:=none) hnone
 have hw:ZbH S w w:=fun _ _=>rfl
 refine h.turn (fun _ x=>x) hw hι ?_ ?_ ?_ h.sb h.sn (fun o ho=>?_) h.fr
 ·intro o y hy
  simp only[updO]at hy
  by_cases e:o=id
  ·subst e
   simp only[Yh,Y1]at hy;subst hy
   exact .inl ⟨by simp,rfl⟩
  ·simp only[e,Y9]at hy
   exact(h.ob o y hy).mono (fun _ x=>x) hw hι (fun _ _ _ _ _=>rfl)
 ·intro o y hy hly l' hl' b hb
  simp only[updO]at hy
  by_cases e:o=id
  ·simp_all
  ·simp only[e,Y9]at hy hl'
   exact h.own o y hy hly l' hl' b hb
 ·intro o1 o2 y1 y2 hy1 hy2 hl1 hl2 l1 l2 e1 e2 b hb hb2
  simp only[updO]at hy1 hy2
  by_cases e:o1=id
  ·simp_all
  ·by_cases e':o2=id
   ·simp_all
   ·simp only[e,e',Y9]at hy1 hy2 e1 e2
    exact h.inj o1 o2 y1 y2 hy1 hy2 hl1 hl2 l1 l2 e1 e2 b hb hb2
 ·simp only[ho.2,Y9];exact h.un o ho.1
theorem Inv.notId(h:Inv C S ι un f a w)(hid:un id){q:Nat}{x:AO}(hq:f.os q=some x):q≠id:=by
 intro e;subst e
 have hnone:=h.un q hid
 have:=h.ob q x hq
 cases x with
 |rows p rs=>rcases this with ⟨e,_⟩|⟨l,vals,e,_⟩<;>(simp_all)
 |froz rs=>rcases this with ⟨e,_⟩|⟨l,vals,e,_⟩<;>(simp_all)
 |mapo p es=>obtain⟨l,xs,c,e,_⟩:=this;simp_all
 |fmap z fs hh=>obtain⟨l,xs,c,e,_⟩:=this;simp_all
 |gmap es hh=>obtain⟨l,xs,c,e,_⟩:=this;simp_all
 |lit rs=>obtain⟨l,vals,e,_⟩:=this;simp_all
theorem Inv.move(h:Inv C S ι un f a w)(hid:un id){q:Nat}{x x':AO}{l l':Loc}(hq:f.os q=some x)(hlive:x.live=true)(hl:ι q=some (some l))(hb:∀b,foot w x' l' b→foot w x l b)
 (hok:∀ι':Imap,ι.le ι'→ι' id=some (some l')→ObjOk S w ι' id x'):
 ∃ι',ι.le ι'∧ι' id=some (some l')∧Inv C S ι' (fun o=>un o∧o≠id) {f with os:=updO f.os [(id,some x'),(q,none)]} a w:=by
 have hnone:=h.un id hid
 have hι:=ZnK (x:=some l') hnone
 refine⟨fun o=>if o=id then some (some l')else ι o,hι,by simp,?_⟩
 have hw:ZbH S w w:=fun _ _=>rfl
 have ho:=h.own q x hq hlive l hl
 refine h.turn (fun _ x=>x) hw hι ?_ ?_ ?_ h.sb h.sn (fun o ho=>?_) h.fr
 ·intro o y hy
  simp only[updO]at hy
  by_cases e:o=id
  ·simp_all
  ·simp only[e,Y9]at hy
   split at hy
   ·cases hy
   ·exact(h.ob o y hy).mono (fun _ x=>x) hw hι (fun _ _ _ _ _=>rfl)
 ·intro o y hy hly l2 hl2 b hb2
  simp only[updO]at hy
  by_cases e:o=id
  ·simp_all
  ·simp only[e,Y9]at hy hl2
   split at hy
   ·cases hy
   ·exact h.own o y hy hly l2 hl2 b hb2
 ·intro o1 o2 y1 y2 hy1 hy2 hl1 hl2 l1 l2 e1 e2 b hb1 hb2
  simp only[updO]at hy1 hy2
  by_cases e:o1=id<;>by_cases e':o2=id
  ·rw[e,e']
  ·subst e
   simp only[Yh,Y1]at e1;simp only[e',Y9]at hy2 e2;split at hy2
   ·cases hy2
   ·rename_i hne
    simp only[Yh,Y1]at hy1;subst e1;subst hy1;exact absurd (h.inj o2 q y2 x hy2 hq hl2 hlive l2 l e2 hl b hb2 (hb b hb1)) hne
  ·subst e'
   simp only[Yh,Y1]at e2;simp only[e,Y9]at hy1 e1;split at hy1
   ·cases hy1
   ·rename_i hne
    simp only[Yh,Y1]at hy2;subst e2;subst hy2;exact absurd (h.inj o1 q y1 x hy1 hq hl1 hlive l1 l e1 hl b hb1 (hb b hb2)) hne
  ·simp only[e,e',Y9]at hy1 hy2 e1 e2
   split at hy1
   ·cases hy1
   ·split at hy2
    ·cases hy2
    ·exact h.inj o1 o2 y1 y2 hy1 hy2 hl1 hl2 l1 l2 e1 e2 b hb1 hb2
 ·simp only[ho.2,Y9];exact h.un o ho.1
theorem hidW(hid:∀x,id≤x→x<id+W→un x):un id:=hid id (Yg _) (by simp[W])
theorem unW{x:Nat}(hx:un x∧¬(id≤x∧x<id+W)):un x∧x≠id:=⟨hx.1,fun e=>hx.2 ⟨by omega,by subst e;simp[W]⟩⟩
theorem ZlJ(w:World)(cells:Array Value)(e:TypeId)(fr:Nat×Nat)(j:Nat):(w.alloc (.cells cells e fr)).cell? ⟨w.heap.size,j,none⟩=cells[j]? :=by
 have h:(w.alloc (.cells cells e fr)).heap[w.heap.size]? =some (.cells cells e fr):=by show(w.heap.push _)[w.heap.size]? =_;simp
 unfold World.cell?;simp_all
theorem Zok(w:World)(cells:Array Value)(e:TypeId)(fr:Nat×Nat)(j:Nat):(w.alloc (.cells cells e fr)).frozen? ⟨w.heap.size,j,none⟩=decide (fr.1≤j∧j<fr.2):=by
 have h:(w.alloc (.cells cells e fr)).heap[w.heap.size]? =some (.cells cells e fr):=by show(w.heap.push _)[w.heap.size]? =_;simp
 unfold World.frozen?;simp_all
theorem ZjH{z:Nat}{fr:Nat×Nat}{p:Bool}{rs:List (List AV)}{us rest:List Value}{esz cap:Nat}{e:TypeId}{cells:Array Value}{D:List (Nat×Option AO)}{w1:World}
 (hn:Goes C un id o f (.osw id z) ((id,some (.rows p rs))::D) next) (h:Inv C S ι un f a w) (hd:∀d,o.dst=some d→C.N.lo≤d∧d<C.N.n) (hid:∀x,id≤x→x<id+W→un x)
 (hD:D=[]∨∃q,D=[(q,none)]) (hF:Flat p S w ι esz rs us) (hc:cells.toList=us++rest) (h1:rs.length≤cap) (h2:cap*esz≤cells.size) (h3:rs.length≤LIM) (hz:rs.length=0→esz=z)
 (hw1:w1=w∨w1=w.drew) (hrun:(execOp a.eval o).run P w=.ok (.value (.slice (some ⟨w.heap.size,0,none⟩) rs.length cap)) (w1.alloc (.cells cells e fr))) (hfr:∀j,(j<cells.size∨esz≠1)→¬(fr.1≤j∧j<fr.2)):o.wp P a w next Q:=by
 unfold Oper.wp;rw[hrun,Oper.upon_value]
 have hD':Inv C S ι un {f with os:=updO f.os D} a w:=by
  rcases hD with rfl|⟨q,rfl⟩
  ·exact h
  ·exact h.del q
 have hinv1:Inv C S ι un {f with os:=updO f.os D} a w1:=by
  rcases hw1 with rfl|rfl
  ·exact hD'
  ·exact hD'.drew
 have hsz:w1.heap.size=w.heap.size:=by rcases hw1 with rfl|rfl<;>rfl
 have hsame:ZbH S w w1:=by intro b hb;rcases hw1 with rfl|rfl<;>rfl
 have hlen:us.length≤cells.size:=by rw[←Array.length_toList,hc];simp
 have hcell:∀(j:Nat) v,us[j]? =some v→Zbo (w1.alloc (.cells cells e fr)) w1.heap.size (0+j)=some v:=by
  intro j v hv;simp only[Zbo,YR];rw[ZlJ]
  rw[←Wg,hc,Yn (Zap hv)]
  exact hv
 obtain⟨ι',hle,hι',hinv⟩:=hinv1.alloc (hidW hid) (.cells cells e fr) ⟨w1.heap.size,0,esz,cells.size,rs.length⟩ rfl (.rows p rs) rfl (fun _ h=>Za7 rfl h) (fun ι' hle hι'=>by
  have hF':Flat p S (w1.alloc (.cells cells e fr)) ι' esz rs us:=hF.mono (fun _ x=>x) (fun b hb=>by rw[Zem w1 _ b (by rw[hsz];exact h.sb b hb)];exact hsame b hb) hle
  refine .inr ⟨_,_,hι',rfl,fun j=>⟨fun hj=>?_,fun hj=>?_⟩,Flat.at (l:=⟨w1.heap.size,0,esz,cells.size,rs.length⟩) hF' hcell (by
   have:rs.length*esz≤cap*esz:=Yo _ h1
   grind),hF'.rows⟩
  ·simp only at hj
   refine⟨cells[j]'(by omega),?_⟩
   simp only[Zbo];rw[ZlJ];simp
  ·simp only at hj
   rw[Zok];simp_all)
 refine Inv.goes hn hinv (fun x hx=>unW hx) ?_ hd
 rw[←hsz]
 exact Rep.osw id z cap _ _ hι' h1 (by simp_all) h3 (fun h0 _=>hz h0) (fun _=>rfl)
theorem Zo8{z:Nat}{p q:Bool}{rs ys:List (List AV)}{us:List Value}{k cap:Nat}{l:Loc}
 (hn:Goes C un id o f (.osw id z) [(id,some (.rows (p&&q) (rs++ys))),(k,none)] next) (h:Inv C S ι un f a w) (hd:∀d,o.dst=some d→C.N.lo≤d∧d<C.N.n) (hid:∀x,id≤x→x<id+W→un x)
 (ho:f.os k=some (.rows p rs)) (hl:ι k=some (some l)) (hF:Flat q S w ι l.esz ys us) (h1:rs.length+ys.length≤cap) (h2:l.base+cap*l.esz≤l.size) (h3:rs.length+ys.length≤LIM) (hz:rs.length+ys.length=0→l.esz=z)
 (hrun:(execOp a.eval o).run P w=.ok (.value (.slice (some ⟨l.blk,l.base,none⟩) (rs.length+ys.length) cap)) (w.setCells l.blk (l.base+rs.length*l.esz) us)):o.wp P a w next Q:=by
 unfold Oper.wp;rw[hrun,Oper.upon_value]
 rcases h.ob k _ ho with ⟨e,_⟩|⟨l',vals,e,hcnt,hm,hat,hrep⟩
 ·simp_all
 ·rw[e]at hl;injection hl with hl;injection hl with hl;subst hl
  have hne:=h.notId (hidW hid) ho
  have hul:=hF.len
  have hsp:l'.base+rs.length*l'.esz+us.length≤l'.size:=by
   have:(rs.length+ys.length)*l'.esz≤cap*l'.esz:=Yo _ h1
   rw[YT]at this;omega
  have hout:∀j,j<rs.length*l'.esz→Zbo (w.setCells l'.blk (l'.base+rs.length*l'.esz) us) l'.blk (l'.base+j)=Zbo w l'.blk (l'.base+j):=by
   intro j hj
   exact Wa l'.blk us _ w _ (fun _ _=>.inl (by simp_all))
  have hin:∀(j:Nat) v,us[j]? =some v→Zbo (w.setCells l'.blk (l'.base+rs.length*l'.esz) us) l'.blk (l'.base+rs.length*l'.esz+j)=some v:=by
   intro j v hv
   have hj:=Zap hv
   have:=Wy l'.blk us (l'.base+rs.length*l'.esz) w (fun i hi=>by
    obtain⟨u,hu⟩:=(hm (l'.base+rs.length*l'.esz+i)).1 (by omega)
    simp_all) j hj
   rw[Y3 hj]at hv
   injection hv with hv
   rw[←hv];exact this
  have hat':ZgS (w.setCells l'.blk (l'.base+rs.length*l'.esz) us) l' rs.length vals:=by
   refine⟨hat.1,hat.2.1,fun i j v hi hv=>?_⟩
   have hlt:i*l'.esz+j<rs.length*l'.esz:=by
    have h5:=hat.2.1 i hi
    have h6:=Zap hv
    have:(i+1)*l'.esz≤rs.length*l'.esz:=Yo _ hi
    rw[YT]at this;omega
   rw[hout _ hlt];exact hat.2.2 i j v hi hv
  have hinv1:=h.writes ho rfl e (x':=.rows p rs) rfl (l'.base+rs.length*l'.esz) us (fun hw=>
   .inr ⟨l',vals,e,hcnt,hm.setCells _ _,hat',hrep.mono (fun _ x=>x) hw (Imap.le_refl _)⟩)
  obtain⟨hO,hS,hlt⟩:=h.own k _ ho rfl l' e _ (.inl rfl)
  have hw:ZbH S w (w.setCells l'.blk (l'.base+rs.length*l'.esz) us):=ZhB hS h.sb _ us
  obtain⟨ι',hle,hι',hinv⟩:=hinv1.move (id:=id) (hidW hid) (q:=k) (x:=.rows p rs) (x':=.rows (p&&q) (rs++ys)) (l:=l') (l':=⟨l'.blk,l'.base,l'.esz,l'.size,rs.length+ys.length⟩)
   (by simp[updO]) rfl e (fun _ h=>by have:=Za7 rfl h;exact .inl this) (fun ι' hle hι'=>by
    obtain⟨us0,hF0,hc0⟩:=Zm2 (cell:=Zbo (w.setCells l'.blk (l'.base+rs.length*l'.esz) us) l'.blk) rs vals l'.base hat'.2.1 (fun i j v hi hv=>hat'.2.2 i j v hi hv)
     (hrep.mono (fun _ x=>x) hw hle)
    have hFF:=hF0.append (hF.mono (fun _ x=>x) hw hle)
    refine .inr ⟨_,_,hι',by simp,hm.setCells _ _,Flat.at (l:=⟨l'.blk,l'.base,l'.esz,l'.size,rs.length+ys.length⟩) hFF (fun j v hv=>?_) ?_,hFF.rows⟩
    ·by_cases hj:j<us0.length
     ·grind
     ·rw[Yc (by omega)]at hv
      have:=hin _ v hv
      have h7:=hF0.len
      grind
    ·simp only[Yd]
     grind)
  have hinv':Inv C S ι' (fun o=>un o∧o≠id) {f with os:=updO f.os [(id,some (.rows (p&&q) (rs++ys))),(k,none)]} a (w.setCells l'.blk (l'.base+rs.length*l'.esz) us):=by
   have e1:updO (updO f.os [(k,some (AO.rows p rs))]) [(id,some (.rows (p&&q) (rs++ys))),(k,none)]=updO f.os [(id,some (.rows (p&&q) (rs++ys))),(k,none)]:=by
    funext x
    simp only[updO];split
    ·rfl
    ·simp_all
   rw[show({f with os:=updO (updO f.os [(k,some (AO.rows p rs))]) [(id,some (.rows (p&&q) (rs++ys))),(k,none)]}:FS)={f with os:=updO f.os [(id,some (.rows (p&&q) (rs++ys))),(k,none)]} by rw[e1]]at hinv
   exact hinv
  refine Inv.goes hn hinv' (fun x hx=>unW hx) ?_ hd
  exact Rep.osw id z cap _ _ hι' h1 h2 h3 (fun h0 _=>hz h0) (fun _=>rfl)
theorem Zfx{t:TypeId}{sz:Nat}(h:rowT P t=some sz):∃e i z,P.underlying t=some (.slice e)∧P.info? e=some i∧i.zero=some z∧i.bytes≤131072∧i.size=sz∧z.cells.size=sz:=by
 unfold rowT at h
 grind
theorem ZpG{t:TypeId}(h:listT P t=true):(∃e',P.underlying t=some (.slice e'))∨P.underlying t=some .string:=by
 unfold listT at h
 grind
theorem Znp{esz:Nat}{tx:TypeId}{v:Value}{q:Bool}{ys:List (List AV)}{us:List Value}(htx:listT P tx=true)(hF:Flat q S w ι esz ys us)(hs:Src2 P w esz v ys.length ys.length us):
 Src P esz tx v ys.length us w:=
 ⟨ZpG htx,hs.len,hs.cells w rfl,hs.cells w.drew rfl,hF.len,hF.one⟩
theorem ZhC{t tx ty:TypeId}{esz:Nat}{base:Option Addr}{sLen sCap:Nat}{x:Value}(ht:rowT P t=some esz)(hs:Src P esz tx x 0 [] w)(hc:sLen≤sCap):
 (Builtin.append_ #[t,tx] ty #[.slice base sLen sCap,x]).run P w=.ok (.slice base sLen sCap) w:=by
 obtain⟨e,i,z,ht',hi,hz,_,hsz,_⟩:=Zfx ht
 subst hsz;clear ht
 rcases hs.kind with ⟨e',hk⟩|hk<;>cases base<;>
  simp[Builtin.append_,Y5 ht',Y5 hk,sizeOf,typeInfo,hi,hs.len,hc,hs.cells,storeCells]
theorem Zli{s x:Operand}{t tx:TypeId}{v:Value}{w':World}(hop:o.op=.call {callee:=.builtin .append,args:=#[s,x],argTypes:=#[t,tx]})
 (h:∀ty,(Builtin.append_ #[t,tx] ty #[a.eval s,a.eval x]).run P w=.ok v w'):(execOp a.eval o).run P w=.ok (.value v) w':=by
 unfold execOp;rw[hop];simp[resolve,invoke,builtin,h]
theorem Zpx{need old bytes:Nat}(h:old<need)(hn:need≤LIM)(hb:bytes≤131072):Builtin.nextslicecap need old*bytes≤281474976710656:=by
 refine growslice_fits h ?_
 have:=Nat.mul_le_mul hn hb
 simp only[LIM]at this;omega
theorem ZlM{p q:Bool}{rs ys:List (List AV)}{us vs:List Value}{esz:Nat}{base:Option Addr}{sCap:Nat}{t tx:TypeId}{s x:Operand}{D:List (Nat×Option AO)}
 (hop:o.op=.call {callee:=.builtin .append,args:=#[s,x],argTypes:=#[t,tx]}) (hn:Goes C un id o f (.osw id esz) ((id,some (.rows (p&&q) (rs++ys)))::D) next) (h:Inv C S ι un f a w)
 (hd:∀d,o.dst=some d→C.N.lo≤d∧d<C.N.n) (hid:∀x,id≤x→x<id+W→un x) (hD:D=[]∨∃q,D=[(q,none)]) (ht:rowT P t=some esz) (htx:listT P tx=true)
 (hv:a.eval s=.slice base rs.length sCap) (hF:Flat p S w ι esz rs us) (hs:Src2 P w esz (.slice base rs.length sCap) rs.length rs.length us)
 (hG:Flat q S w ι esz ys vs) (hs':Src2 P w esz (a.eval x) ys.length ys.length vs) (hg:sCap<rs.length+ys.length) (hlim:rs.length+ys.length≤LIM):o.wp P a w next Q:=by
 obtain⟨e,i,z,ht',hi,hz,hb,hsz,hzs⟩:=Zfx ht
 subst hsz
 have hrun:=fun ty=>run_append_grow_src (P:=P) w t tx ty e i z ht' hi hz base rs.length sCap us (hs.cells w.drew rfl) (a.eval x) ys.length vs (Znp htx hG hs') hg
  (by simp only[LIM]at hlim;omega) (Zpx hg hlim hb)
 rw[←hv]at hrun
 have hl1:=hF.len
 have hl2:=hG.len
 have hge:=grownCap_ge w (rs.length+ys.length) sCap e
 refine ZjH hn h hd hid hD (hF.append hG) (cells:=(us++vs).toArray++Builtin.zeroCells z.cells (grownCap w (rs.length+ys.length) sCap e-(rs.length+ys.length))) (rest:=(Builtin.zeroCells z.cells (grownCap w (rs.length+ys.length) sCap e-(rs.length+ys.length))).toList)
  (cap:=grownCap w (rs.length+ys.length) sCap e) (e:=e) (w1:=w.drew) (by simp) (by simp_all) ?_ (by simp_all) (fun _=>rfl) (.inr rfl) (by
   have:=Zli (P:=P) (w:=w) hop hrun
   simpa using this) (fun j _ h=>by simp at h)
 simp only[Array.size_append,List.size_toArray,Yd,size_zeroCells,hl1,hl2,hzs];rw[←YT,←YT];simp_all
theorem Zoi{ol:Nat→Option AO}{k z:Nat}{p:Bool}{rs:List (List AV)}(h:ol k=some (.rows p rs)):listA ol (.osw k z)=some (p,rs,[k]):=by simp only[listA,h]
theorem ZsN{t tx:TypeId}{s x:Operand}{q:Bool×List (List AV)×List Nat}{sz:Nat}(hop:o.op=.call {callee:=.builtin .append,args:=#[s,x],argTypes:=#[t,tx]})
 (hn:Goes C un id o f (.osw id sz) [(id,some (.rows q.1 q.2.1))] next) (h:Inv C S ι un f a w) (hd:∀d,o.dst=some d→C.N.lo≤d∧d<C.N.n) (hid:∀x,id≤x→x<id+W→un x)
 (hs:(evA C.G f.g) s=.esl) (hx:listA f.os ((evA C.G f.g) x)=some q) (ht:rowT P t=some sz) (htx:listT P tx=true) (hr:∀r,r∈q.2.1→r.length=sz) (hlim:q.2.1.length≤LIM):o.wp P a w next Q:=by
 obtain⟨qp,ys,ro⟩:=q
 simp only at*
 have hsv:=h.ev s
 rw[hs]at hsv
 obtain⟨base,hv⟩:∃base,a.eval s=.slice base 0 0:=by
  generalize a.eval s=v at hsv
  cases hsv with|imm _ _ hh=>cases hh with|esl b=>simp
 obtain⟨vs,hG,hs'⟩:=ZlX (P:=P) h.ob (h.ev x) hx hr ys.length (Yg _)
 rw[Wz]at hG
 by_cases h0:ys.length=0
 ·have hy:ys=[]:=Yt.1 h0
  subst hy
  have hvs:vs=[]:=Yt.1 (by rw[hG.len];simp)
  subst hvs
  have hrun:=Zli (P:=P) (w:=w) (a:=a) hop (fun ty=>by rw[hv];exact ZhC ht (Znp htx hG hs') (Yg _))
  unfold Oper.wp;rw[hrun,Oper.upon_value]
  obtain⟨ι',hle,hι',hinv⟩:=h.void (hidW hid) qp
  exact Inv.goes hn hinv (fun x hx=>unW hx) (.oswv id _ base hι') hd
 ·refine ZlM (p:=true) (rs:=[]) (us:=[]) hop (by simp_all) h hd hid (.inl rfl) ht htx hv Flat.nil ⟨fun _=>rfl,fun w' _=>ZcR (by simp) (.inl ⟨_,_,_,rfl⟩) w'⟩ hG hs' (by omega) (by simp_all)
theorem ZsM{t tx:TypeId}{s x:Operand}{q:Bool×List (List AV)×List Nat}{sz k z:Nat}{p:Bool}{rs:List (List AV)}(hop:o.op=.call {callee:=.builtin .append,args:=#[s,x],argTypes:=#[t,tx]})
 (hn:Goes C un id o f (.osw id sz) [(id,some (.rows (p&&q.1) (rs++q.2.1))),(k,none)] next) (h:Inv C S ι un f a w) (hd:∀d,o.dst=some d→C.N.lo≤d∧d<C.N.n) (hid:∀x,id≤x→x<id+W→un x)
 (hs:(evA C.G f.g) s=.osw k z) (hzz:z=sz) (ho:f.os k=some (.rows p rs)) (hx:listA f.os ((evA C.G f.g) x)=some q) (ht:rowT P t=some sz) (htx:listT P tx=true) (hr:∀r,r∈q.2.1→r.length=sz)
 (hr':∀r,r∈rs→r.length=sz) (hlim:rs.length+q.2.1.length≤LIM):o.wp P a w next Q:=by
 obtain⟨qp,ys,ro⟩:=q
 simp only at*
 have hsv:=h.ev s
 rw[hs]at hsv
 obtain⟨vs,hG,hs'⟩:=ZlX (P:=P) h.ob (h.ev x) hx hr ys.length (Yg _)
 rw[Wz]at hG
 obtain⟨us,hF,hsr⟩:=ZlX (P:=P) h.ob hsv (Zoi ho) hr' rs.length (Yg _)
 rw[Wz]at hF
 have hzero:∀base cap,ys=[]→a.eval s=.slice base rs.length cap→rs.length≤cap→(execOp a.eval o).run P w=.ok (.value (.slice base rs.length cap)) w:=by
  intro base cap hy hv hc;subst hy
  have hvs:vs=[]:=Yt.1 (by rw[hG.len];simp)
  subst hvs
  exact Zli (P:=P) (w:=w) (a:=a) hop (fun ty=>by rw[hv];exact ZhC ht (Znp htx hG hs') hc)
 rcases ZcP hsv with ⟨l,ad,cap,e,hv,h1,h2,h3,hz9,ha⟩|⟨e,base,hv⟩
 ·have hcnt:rs.length=l.cnt:=by
   rcases h.ob k _ ho with ⟨e',_⟩|⟨l',vals,e',hcnt,_⟩
   ·simp_all
   ·simp_all
  rw[←hcnt]at hv h1 h3
  by_cases h0:ys.length=0
  ·have hy:ys=[]:=Yt.1 h0
   have hrun:=hzero _ _ hy hv h1
   subst hy;unfold Oper.wp;rw[hrun,Oper.upon_value]
   rcases h.ob k _ ho with ⟨e',_⟩|⟨l',vals,e',hcnt',hm,hat,hrep⟩
   ·simp_all
   ·rw[e]at e';injection e' with e';injection e' with e';subst e'
    obtain⟨ι',hle,hι',hinv⟩:=h.move (id:=id) (hidW hid) (q:=k) (x:=.rows p rs) (x':=.rows (p&&qp) (rs++[])) (l:=l) (l':=l) ho rfl e (fun _ h=>by have:=Za7 rfl h;exact .inl this) (fun ι' hle hι'=>by
     refine .inr ⟨l,vals,hι',by simp_all,hm,by simp_all,?_⟩
     intro i r hri;rw[W8]at hri
     have h5:RepP p S w ι r (vals i):=hrep i r hri
     exact(h5.mono (fun _ x=>x) (fun _ _=>rfl) hle).weak (fun e=>by simp_all))
    refine Inv.goes hn hinv (fun x hx=>unW hx) ?_ hd
    have:=Rep.osw (S:=S) (w:=w) id z cap ad l hι' (by omega) h2 (by omega) hz9 ha
    simp_all
  ·by_cases hroom:rs.length+ys.length≤cap
   ·have had:=ha (by omega)
    subst had
    rcases h.ob k _ ho with ⟨e',_⟩|⟨l',vals,e',hcnt',hm,hat,hrep⟩
    ·simp_all
    ·rw[e]at e';injection e' with e';injection e' with e';subst e'
     obtain⟨el,i,z,ht',hi,hz,hb,hsz,hzs⟩:=Zfx ht
     have hF2:Flat qp S w ι l.esz ys vs∧i.size=l.esz:=by
      by_cases hrs:rs=[]
      ·grind
      ·obtain⟨r,hrr⟩:=Wv _ hrs
       obtain⟨j,hj⟩:=Wj hrr
       have h6:r.length=l.esz:=by
        have:=(hrep.get hj).1
        have:=hat.2.1 j (Zap hj)
        omega
       simp_all
     obtain⟨hF2,hsz2⟩:=hF2
     have hsp:l.base+rs.length*l.esz+vs.length≤l.size:=by
      have:(rs.length+ys.length)*l.esz≤cap*l.esz:=Yo _ hroom
      rw[YT]at this;rw[hF2.len];omega
     refine Zo8 hn h hd hid ho e hF2 hroom h2 hlim (fun h=>by omega) (Zli hop (fun ty=>?_))
     rw[hv]
     have hsz':sz=l.esz:=by omega
     subst hsz'
     have:=run_append_room_src (P:=P) w t tx ty el i ht' hi l.blk l.base rs.length cap (a.eval x) ys.length vs (by rw[hsz2];exact Znp htx hG hs') hroom (fun j hj=>by
      obtain⟨u,hu⟩:=(hm (l.base+rs.length*i.size+j)).1 (by grind)
      simp_all) (fun j hj=>(hm (l.base+rs.length*i.size+j)).2 (.inl (by grind)))
     simp_all
   ·exact ZlM hop hn h hd hid (.inr ⟨k,rfl⟩) ht htx hv hF (by simp_all) hG hs' (by omega) hlim
 ·have hrs:rs=[]:=by
   rcases h.ob k _ ho with ⟨_,h⟩|⟨l',vals,e',_⟩
   ·exact h
   ·simp_all
  subst hrs
  by_cases h0:ys.length=0
  ·have hy:ys=[]:=Yt.1 h0
   have hrun:=hzero base 0 hy (by omega) (by simp)
   subst hy;unfold Oper.wp;rw[hrun,Oper.upon_value]
   obtain⟨ι',hle,hι',hinv⟩:=(h.del k).void (hidW hid) (p&&qp)
   exact Inv.goes hn hinv (fun x hx=>unW hx) (.oswv id _ base hι') hd
  ·exact ZlM (sCap:=0) hop hn h hd hid (.inr ⟨k,rfl⟩) ht htx (by omega) hF (by simp_all) hG hs' (by omega) hlim
end
section
variable {C:Cx}{S:Nat→Prop}{w:World}{ι:Imap}{P:Program}{un:Nat→Prop}{f:FS}{a:Act}{id:Nat}{o:Oper}
 {next:Act→World→Prop} {Q:Exit→Act→World→Prop}
theorem Inv.bnd(h:Inv C S ι un f a w){x:Option Operand}{d n:Nat}(hb:bndP (evA C.G f.g) x d n):bndV (x.map a.eval) d n:=by
 cases x with
 |none=>exact hb
 |some x=>
  obtain⟨k,i,e,h0,h1⟩:=hb
  have hx:=h.ev x
  rw[e]at hx;exact⟨k,i,hx.int_inv,h0,h1⟩
theorem ZkE{x:AV}{cs:List AV}{v:Value}(hc:ZbE x=some cs)(h:IRep S w x v):IRepL S w cs v.cells.toList∧cs.all Zee=true:=by
 have one:∀y,ZbE y=some [y]→Zee y=true→y=x→IRepL S w cs v.cells.toList∧cs.all Zee=true:=by
  intro y e hy hxy;subst hxy;rw[e]at hc
  injection hc with hc
  subst hc
  refine⟨?_,by simp[hy]⟩
  have hv:=h.cell hy
  have:v.cells.toList=[v]:=by cases v<;>simp[Value.oneCell']at hv<;>simp[Value.cells]
  rw[this]
  refine⟨rfl,fun j x u hx hu=>?_⟩
  have:j=0:=by have:=Zap hx;simp at this;omega
  subst this
  simp only[List.getElem?_cons_zero,Y1]at hx hu
  subst hx;subst hu;exact h
 cases x with
 |agg ds=>
  simp only[ZbE]at hc;split at hc
  ·rename_i hall
   injection hc with hc
   subst hc
   cases h with
   |agg _ vs hl h=>exact⟨⟨by simpa[Value.cells]using hl,fun j x v a b=>h j x v a (by simpa[Value.cells]using b)⟩,hall⟩
  grind
 |tup _=>simp[ZbE]at hc
 |undef=>simp[ZbE]at hc
 |anyb p=>simp[ZbE]at hc
 |int k n=>exact one _ rfl rfl rfl
 |bool b=>exact one _ rfl rfl rfl
 |str s=>exact one _ rfl rfl rfl
 |esl=>exact one _ rfl rfl rfl
 |sl xs=>exact one _ rfl rfl rfl
 |rp r o=>exact one _ rfl rfl rfl
 |fn f c=>exact one _ rfl rfl rfl
 |con v=>exact one _ rfl rfl rfl
 |ptr o r c=>exact one _ rfl rfl rfl
 |osl o a b c=>exact one _ rfl rfl rfl
 |osw o z=>exact one _ rfl rfl rfl
 |mapo o=>exact one _ rfl rfl rfl
theorem Zns{n:Nat}:∀(m j:Nat) (l:List Value),l.length=n→j<m*n→(List.replicate m l).flatten[j]? =l[j% n]? :=by
 intro m
 induction m with
 |zero=>omega
 |succ m ih=>
  intro j l hl h;rw[List.replicate_succ,List.flatten_cons]
  by_cases hj:j<n
  ·rw[Yn (by omega),Wf hj]
  ·rw[Yc (by omega),ih (j-l.length) l hl (by grind),hl,←Nat.mod_eq_sub_mod (by omega)]
theorem ZiK(z:Array Value)(m:Nat):(madeCells z (m*z.size)).toList=(List.replicate m z.toList).flatten:=by
 apply Ve;intro j
 by_cases hj:j<m*z.size
 ·rw[Zns m j z.toList (by simp) hj]
  have hz:0<z.size:=by
   rcases V7 z.size with h|h
   ·simp_all
   ·exact h
  have hm:j% z.size<z.size:=Nat.mod_lt _ hz
  simp[madeCells,hj,hm]
 ·rw[Wo (by simp[madeCells];omega),Wo (by simp;omega)]
theorem Zhq{t:TypeId}{zl:List AV}{sz:Nat}(hz:zeroE P t=some zl)(h:rowT P t=some sz):
 ∃e i z,P.underlying t=some (.slice e)∧P.info? e=some i∧i.zero=some z∧i.bytes≤131072∧i.size=sz∧z.cells.size=sz∧zl.length=sz∧IRepL S w zl z.cells.toList∧zl.all Zee=true:=by
 obtain⟨e,i,z,ht,hi,hzz,hb,hsz,hzs⟩:=Zfx h
 unfold zeroE at hz;rw[ht]at hz;simp only[zeroA,hi,hzz]at hz
 obtain⟨h1,h2⟩:=ZkE (S:=S) (w:=w) hz (Zfd z)
 exact⟨e,i,z,ht,hi,hzz,hb,hsz,hzs,by rw[h1.1];omega,h1,h2⟩
theorem ZmM{zl:List AV}{zs:List Value}(h:IRepL S w zl zs):∀n:Nat,IRepL S w (List.replicate n zl).flatten (List.replicate n zs).flatten:=by
 intro n
 induction n with
 |zero=>exact⟨rfl,fun j x v h=>by simp at h⟩
 |succ n ih=>rw[List.replicate_succ,List.replicate_succ,List.flatten_cons,List.flatten_cons];exact h.append ih
theorem Zly{cs:List AV}{vs:List Value}(h:IRepL S w cs vs)(hc:cs.all Zee=true):∀v,v∈vs→v.oneCell'=true:=
 ZfF (ι:=fun _=>none) h.rep hc
theorem mk_ok{t:TypeId}{l c:Operand}{k k':IntKind}{n m:Int}{z:List AV}{sz:Nat}(hop:o.op=.makeSlice t l c)(hn:Goes C un id o f (.osw id sz) [(id,some (.rows true (List.replicate n.toNat z)))] next)
 (h:Inv C S ι un f a w) (hd:∀d,o.dst=some d→C.N.lo≤d∧d<C.N.n) (hid:∀x,id≤x→x<id+W→un x) (hl:evA C.G f.g l=.int k n) (hc:evA C.G f.g c=.int k' m) (h0:0≤n) (h1:n≤m) (h2:m≤LIM)
 (ht:rowT P t=some sz) (hz:zeroE P t=some z):o.wp P a w next Q:=by
 obtain⟨e,i,zv,ht',hi,hzv,hb,hsz,hzs,hzl,hzr,hza⟩:=Zhq (S:=S) (w:=w) hz ht
 have hlv:=h.ev l;have hcv:=h.ev c
 rw[hl]at hlv;rw[hc]at hcv
 have hb':(i.bytes:Int)*m≤281474976710656:=by
  have:=Nat.mul_le_mul hb (show m.toNat≤LIM by omega)
  have e1:((i.bytes*m.toNat:Nat):Int)≤((131072*LIM:Nat):Int):=by exact_mod_cast this
  rw[Int.natCast_mul,Int.toNat_of_nonneg (by omega)]at e1
  simp only[LIM]at e1;omega
 have hrun:=run_make (P:=P) w t e i zv ht' hi hzv k k' n m h0 h1 hb' (by simp only[LIM]at h2;omega)
 subst hsz
 have hF:Flat true S w ι i.size (List.replicate n.toNat z) (List.replicate n.toNat zv.cells.toList).flatten:=by
  refine⟨fun r hr=>by simp_all,by simp[hzs],fun v hv=>?_,?_⟩
  ·obtain⟨l',hl',hv⟩:=List.mem_flatten.1 hv
   rw[List.eq_of_mem_replicate hl']at hv;exact Zly hzr hza v hv
  ·simp only[RepP,Yh];exact ZmM hzr _
 refine ZjH hn h hd hid (.inl rfl) hF (cells:=madeCells zv.cells (m.toNat*i.size)) (rest:=(List.replicate (m.toNat-n.toNat) zv.cells.toList).flatten) (cap:=m.toNat) (e:=e) (w1:=w) (fr:=(0,0)) ?_ (by grind)
  (by simp[madeCells]) (by grind) (fun _=>rfl) (.inl rfl) ?_ (fun j _ h=>by simp at h)
 ·rw[←hzs,ZiK,←List.flatten_append,List.replicate_append_replicate]
  grind
 ·unfold execOp;rw[hop]
  simp only[hlv.int_inv,hcv.int_inv,Y6,hrun,Result.andThen_ok,Sem.run_pure,WU]
theorem ZnW(n:Nat):∀(k:Nat) (cs:List AV),cs.length=k*n→(chunk n k cs).flatten=cs∧(∀r,r∈chunk n k cs→r.length=n)∧(chunk n k cs).length=k:=by
 intro k
 induction k with
 |zero=>intro cs h;simp[chunk];simp_all
 |succ k ih=>
  intro cs h;rw[YT,Nat.one_mul]at h
  obtain⟨h1,h2,h3⟩:=ih (cs.drop n) (by grind)
  refine⟨by simp[chunk,h1],fun r hr=>?_,by simp[chunk,h3]⟩
  rcases Yj.1 hr with rfl|hr
  all_goals simp_all
theorem ZsI{t:TypeId}{len:Nat}{parts:Array (Nat×Operand)}{z cs:List AV}{sz:Nat}(hop:o.op=.buildSlice t len parts)
 (h:Inv C S ι un f a w) (ht:rowT P t=some sz) (hz:zeroE P t=some z) (hlim:len*sz≤16777216)
 (hcl:cs.length=len*sz) (hall:cs.all Zee=true)
 (hf:fillA (evA C.G f.g) (fun i=>some (i*sz,sz)) parts.toList (List.replicate len z).flatten=some cs):
 ∃cells' e,RepL S w ι cs cells'.toList∧True∧(execOp a.eval o).run P w=.ok (.value (.slice (some ⟨w.heap.size,0,none⟩) len len)) (w.alloc (.cells cells' e (0,0))):=by
 obtain⟨e,i,zv,ht',hi,hzv,hb,hsz,hzs,hzl,hzr,hza⟩:=Zhq (S:=S) (w:=w) hz ht
 subst hsz
 have hzrep:RepL S w ι (List.replicate len z).flatten (madeCells zv.cells (len*i.size)).toList:=by
  rw[←hzs,ZiK];exact(ZmM hzr len).rep
 obtain⟨cells',h1,h2⟩:=ZlC (fun x=>h.ev x) (fun j=>some (j*i.size,i.size)) parts.toList _ (madeCells zv.cells (len*i.size)) cs hzrep hf
 refine⟨cells',e,h2,trivial,?_⟩
 unfold execOp;rw[hop]
 have hpl:(parts.map fun(i,x)=>(i,a.eval x)).toList=parts.toList.map fun x=>(x.1,a.eval x.2):=by simp
 have hnl:¬(len*i.size>2^24):=by simp;omega
 by_cases h0:len*i.size=0
 ·have hm:(Array.range (len*i.size)).map (fun x=>(#[]:Array Value)[x% (#[]:Array Value).size]!)=madeCells zv.cells (len*i.size):=by simp[h0,madeCells,Array.range_zero']
  simp only[Instr.buildSlice,Y6,Y5 ht',Result.andThen_ok,Zbs hi,if_neg hnl,if_pos h0,Sem.run_pure,hm,hpl,h1,newRow,run_newObj,World.alloc]
 ·have hzero:(zeroValue e).run P w=.ok zv w:=by simp[zeroValue,typeInfo,hi,hzv]
  have hm:(Array.range (len*i.size)).map (fun x=>zv.cells[x% zv.cells.size]!)=madeCells zv.cells (len*i.size):=rfl
  simp only[Instr.buildSlice,Y6,Y5 ht',Result.andThen_ok,Zbs hi,if_neg hnl,if_neg h0,Sem.run_pure,hzero,hm,hpl,h1,newRow,run_newObj,World.alloc]
theorem Ztm{t:TypeId}{len:Nat}{parts:Array (Nat×Operand)}{z cs:List AV}{sz:Nat}(hop:o.op=.buildSlice t len parts)
 (hn:Goes C un id o f (.osw id sz) [(id,some (.rows (cs.all Zb8) (chunk sz len cs)))] next)
 (h:Inv C S ι un f a w) (hd:∀d,o.dst=some d→C.N.lo≤d∧d<C.N.n) (hid:∀x,id≤x→x<id+W→un x) (ht:rowT P t=some sz) (hz:zeroE P t=some z) (hlim:len*sz≤16777216) (hlim2:len≤LIM)
 (hcl:cs.length=len*sz) (hall:cs.all Zee=true)
 (hf:fillA (evA C.G f.g) (fun i=>some (i*sz,sz)) parts.toList (List.replicate len z).flatten=some cs):o.wp P a w next Q:=by
 obtain⟨e,i,zv,ht',hi,hzv,hb,hsz,hzs,hzl,hzr,hza⟩:=Zhq (S:=S) (w:=w) hz ht
 subst hsz
 have hzrep:RepL S w ι (List.replicate len z).flatten (madeCells zv.cells (len*i.size)).toList:=by
  rw[←hzs,ZiK];exact(ZmM hzr len).rep
 obtain⟨cells',h1,h2⟩:=ZlC (fun x=>h.ev x) (fun j=>some (j*i.size,i.size)) parts.toList _ (madeCells zv.cells (len*i.size)) cs hzrep hf
 obtain⟨c1,c2,c3⟩:=ZnW i.size len cs hcl
 have hF:Flat (cs.all Zb8) S w ι i.size (chunk i.size len cs) cells'.toList:=by
  refine⟨c2,by rw[←h2.1,hcl,c3],ZfF h2 hall,?_⟩
  rw[c1];cases hid:cs.all Zb8
  ·simpa[RepP]using h2
  ·simpa[RepP]using h2.free hid
 have hcs:cells'.size=len*i.size:=by have:=h2.1;simp only[Array.length_toList]at this;omega
 refine ZjH hn h hd hid (.inl rfl) hF (cells:=cells') (rest:=[]) (cap:=len) (e:=e) (w1:=w) (fr:=(0,0)) (by simp) (by omega) (by omega) (by omega) (fun _=>rfl) (.inl rfl) ?_ (fun j _ h=>by simp at h)
 unfold execOp;rw[hop];rw[c3]
 have hpl:(parts.map fun(i,x)=>(i,a.eval x)).toList=parts.toList.map fun x=>(x.1,a.eval x.2):=by simp
 have hnl:¬(len*i.size>2^24):=by simp;omega
 by_cases h0:len*i.size=0
 ·have hm:(Array.range (len*i.size)).map (fun x=>(#[]:Array Value)[x% (#[]:Array Value).size]!)=madeCells zv.cells (len*i.size):=by simp[h0,madeCells,Array.range_zero']
  simp only[Instr.buildSlice,Y6,Y5 ht',Result.andThen_ok,Zbs hi,if_neg hnl,if_pos h0,Sem.run_pure,hm,hpl,h1,newRow,run_newObj,World.alloc]
 ·have hzero:(zeroValue e).run P w=.ok zv w:=by simp[zeroValue,typeInfo,hi,hzv]
  have hm:(Array.range (len*i.size)).map (fun x=>zv.cells[x% zv.cells.size]!)=madeCells zv.cells (len*i.size):=rfl
  simp only[Instr.buildSlice,Y6,Y5 ht',Result.andThen_ok,Zbs hi,if_neg hnl,if_neg h0,Sem.run_pure,hzero,hm,hpl,h1,newRow,run_newObj,World.alloc]
theorem Ze9{t:TypeId}{x:Operand}{lo hi mx:Option Operand}{v:Value}(hop:o.op=.slice t x lo hi mx)
 (h:(Instr.sliceAt t (a.eval x) (lo.map a.eval) (hi.map a.eval) (mx.map a.eval)).run P w=.ok v w):(execOp a.eval o).run P w=.ok (.value v) w:=by
 unfold execOp;simp_all
theorem Zk6{s d:TypeId}(h:Zii P s d=true):∃e,P.underlying s=some .string∧P.underlying d=some (.slice e)∧P.underlying e=some (.int .u8):=by
 unfold Zii at h
 grind
theorem Zmz(l:List UInt8):(enc8 l).flatten=l.map fun b=>AV.int .u8 b.toNat:=by
 unfold enc8
 induction l with
 |nil=>rfl
 |cons b m ih=>simp[ih]
theorem Zoy(l:List UInt8):Flat true S w ι 1 (enc8 l) (l.map fun b=>Value.int .u8 b.toNat):=by
 refine⟨fun r hr=>by obtain⟨b,_,rfl⟩:=YK.1 hr;rfl,by simp[enc8],fun v hv=>by obtain⟨b,_,rfl⟩:=YK.1 hv;rfl,?_⟩
 rw[Zmz];simp only[RepP,Yh]
 refine⟨by simp,fun j x v h1 h2=>?_⟩
 rw[Yl,Ye]at h1 h2
 obtain⟨b,h1,rfl⟩:=h1
 obtain⟨b',h2,rfl⟩:=h2
 rw[h1]at h2;injection h2 with h2;subst h2
 exact .int _ _
theorem Zn5{s d:TypeId}{x:Operand}{l:List UInt8}(hop:o.op=.convert s d x)(hn:Goes C un id o f (.osw id 1) [(id,some (.rows true (enc8 l)))] next)
 (h:Inv C S ι un f a w) (hd:∀d,o.dst=some d→C.N.lo≤d∧d<C.N.n) (hid:∀x,id≤x→x<id+W→un x) (hx:evA C.G f.g x=.str l) (ht:Zii P s d=true) (hl:l.length≤LIM):o.wp P a w next Q:=by
 obtain⟨e,h1,h2,h3⟩:=Zk6 ht
 have hv:=h.ev x
 rw[hx]at hv
 have hsz:(⟨l.toArray⟩:ByteArray).size=l.length:=by show l.toArray.size=_;simp
 have hrun:=run_bytes_of_string (P:=P) w s d e ⟨l.toArray⟩ h1 h2 h3
 rw[hsz]at hrun
 have hge:=grownCap_ge w l.length 0 e
 refine ZjH hn h hd hid (.inl rfl) (Zoy l) (cells:=bytesRow ⟨l.toArray⟩ (grownCap w l.length 0 e)) (rest:=List.replicate (grownCap w l.length 0 e-l.length) (.int .u8 0)) (cap:=grownCap w l.length 0 e) (e:=e) (w1:=w.drew)
  (fr:=((bytesRow ⟨l.toArray⟩ (grownCap w l.length 0 e)).size,(bytesRow ⟨l.toArray⟩ (grownCap w l.length 0 e)).size+1)) ?_ (by simpa[enc8]using hge) ?_ (by simpa[enc8]using hl) (fun _=>rfl) (.inr rfl) ?_ (fun j hj h=>by omega)
 ·simp[bytesRow,hsz]
 ·simp[bytesRow,hsz];omega
 ·unfold execOp;rw[hop]
  simp only[hv.str_inv,Y6,hrun,Result.andThen_ok,Sem.run_pure,enc8,Ya]
theorem ZqH{s d:TypeId}{x:Operand}{l:List UInt8}{q:Bool×List (List AV)×List Nat}(hop:o.op=.convert s d x)(hn:Goes C un id o f (.str l) [] next)
 (h:Inv C S ι un f a w) (hd:∀d,o.dst=some d→C.N.lo≤d∧d<C.N.n) (hx:listA f.os (evA C.G f.g x)=some q) (hl:q.2.1=enc8 l) (ht:Zii P d s=true) (hns:∀l,evA C.G f.g x≠.str l):o.wp P a w next Q:=by
 obtain⟨e,h1,h2,h3⟩:=Zk6 ht
 obtain⟨qp,ys,ro⟩:=q
 simp only at hl;subst hl
 have hv:=h.ev x
 have hlen:(enc8 l).length=l.length:=by simp[enc8]
 obtain⟨us,hF,hs⟩:=ZlX (P:=P) h.ob hv hx (fun r hr=>by obtain⟨b,_,rfl⟩:=YK.1 hr;rfl) l.length (by omega)
 rw[←hlen,Wz]at hF
 have hus:us=l.map fun b=>Value.int .u8 b.toNat:=by
  have hr:=hF.rep.rep
  rw[Zmz]at hr;apply Ve;intro j
  have hl2:=hr.1
  simp only[Ya]at hl2
  by_cases hj:j<l.length
  ·have hu:us[j]? =some us[j]:=Y3 (by omega)
   have:=hr.2 j (.int .u8 l[j].toNat) us[j] (by simp[hj]) hu
   rw[hu,this.int_inv];simp[hj]
  ·simp_all
 obtain⟨ad,len,cap,hvv⟩:∃ad len cap,a.eval x=.slice ad len cap:=by
  generalize a.eval x=v' at hv;generalize evA C.G f.g x=xv at hv hx hns
  cases hv with
  |imm _ _ hh=>
   cases hh with
   |esl=>simp
   |snil=>simp
   |sl=>simp
   |str s=>simp_all
   |_=>simp[listA]at hx
  |osl=>simp
  |osw=>simp
  |oswv=>simp
  |oslv=>simp
  |_=>simp[listA]at hx
 have hlen2:len=l.length:=by
  have:=hs.len w
  rw[hvv,hlen]at this;simpa[Builtin.lenOf]using this
 subst hlen2
 have hcells:=hs.cells w rfl
 rw[hvv,hus]at hcells
 refine ZaK hn h hd (v':=.string ⟨l.toArray⟩) ?_ (.imm _ _ (.str_mk _))
 unfold execOp;rw[hop]
 have hconv:(convert s d (.slice ad l.length cap)).run P w=.ok (.string ⟨l.toArray⟩) w:=by
  rw[run_convert_bytes_string w s d e ad l.length cap h2 h3 h1]
  cases ad with
  |none=>
   have:l=[]:=by
    simp only[Builtin.firstCells,Sem.run_pure,V4]at hcells
    have:=YI Array.size hcells.1
    simp at this;exact Yt.1 this.symm
   subst this;rfl
  |some ad=>
   have hc2:(loadCells ad l.length).run P w=.ok ((l.map (fun b=>(b.toNat:Int))).map (Value.int .u8)).toArray w:=by
    have:(Builtin.firstCells 1 l.length (.slice (some ad) l.length cap))=loadCells ad (l.length*1):=rfl
    rw[this,Nat.mul_one]at hcells;rw[hcells,YN];rfl
   rw[run_bytesToString w ad l.length cap (l.map fun b=>(b.toNat:Int)) hc2,foldl_push_byteCells]
   simp
 simp_all
theorem Znz{ob off len room x y sz:Nat}{v:Value}(hv:∃l ad cap,ι ob=some (some l)∧v=.slice (some ad) len cap∧len≤room∧room≤cap∧l.base+(off+cap)*l.esz≤l.size∧len≤LIM∧off+room≤l.cnt∧
 (cap≠0→ad=⟨l.blk,l.base+off*l.esz,none⟩)∧(x≠0→sz=l.esz)) (h1:x≤y) (h2:y≤len):
 ∃ad len' cap,v=.slice ad len' cap∧len'=len∧len≤cap∧Rep S w ι (.osl ob (off+x) (y-x) (room-x)) (.slice (if cap=x then ad else ad.map (·.add (x*sz))) (y-x) (cap-x)):=by
 obtain⟨l,ad,cap,e,rfl,h3,h4,h5,h6,h7,ha,hs⟩:=hv
 refine⟨some ad,len,cap,rfl,rfl,by omega,?_⟩
 have hmul:(off+x+(cap-x))*l.esz=(off+cap)*l.esz:=by congr 1;omega
 split
 ·rename_i hc
  exact .osl ob (off+x) (y-x) (room-x) (cap-x) ad l e (by omega) (by omega) (by omega) (by omega) (by omega) (fun h=>by omega)
 ·rename_i hc
  refine .osl ob (off+x) (y-x) (room-x) (cap-x) (ad.add (x*sz)) l e (by omega) (by omega) (by omega) (by omega) (by omega) (fun h=>?_)
  rw[ha (by omega),Zgn,YT]
  grind
theorem Inv.sets(h:Inv C S ι un f a w){q:Nat}{p p':Bool}{es es':List (AV×AV)}(hq:f.os q=some (.mapo p es)){l:Loc}(hl:ι q=some (some l)){xs':Array MapEntry}{clock':Nat}
 (hlim:xs'.size≤LIM) (hm:ZbH S w {w with heap:=w.heap.setIfInBounds l.blk (.map xs' clock')}→Zdm p' S {w with heap:=w.heap.setIfInBounds l.blk (.map xs' clock')} ι es' xs'.toList):
 Inv C S ι un {f with os:=updO f.os [(q,some (.mapo p' es'))]} a {w with heap:=w.heap.setIfInBounds l.blk (.map xs' clock')}:=by
 obtain⟨hO,hS,hlt⟩:=h.own q _ hq rfl l hl _ (.inl rfl)
 have hother:∀b,b≠l.blk→(w.heap.setIfInBounds l.blk (Obj.map xs' clock'))[b]? =w.heap[b]? :=fun b hb=>Ww (fun e=>hb e.symm)
 have hw:ZbH S w {w with heap:=w.heap.setIfInBounds l.blk (.map xs' clock')}:=fun b hb=>hother b (fun e=>hS (e▸hb))
 have hoth:∀o' y,f.os o'=some y→y.live=true→o'≠q→∀l',ι o'=some (some l')→∀b,foot w y l' b→(w.heap.setIfInBounds l.blk (Obj.map xs' clock'))[b]? =w.heap[b]? :=fun o' y hy hly e l' hl' b hb=>
  hother b (fun eb=>e (h.inj o' q y _ hy hq hly rfl l' l hl' hl b hb (.inl eb)))
 refine h.turn (fun _ x=>x) hw (Imap.le_refl _) ?_ ?_ ?_ (fun b hb=>by simpa using h.sb b hb) h.sn h.un ?_
 ·intro o' y hy
  simp only[updO]at hy
  by_cases e:o'=q
  ·subst e
   simp only[Yh,Y1]at hy;subst hy
   exact⟨l,xs',clock',hl,by simp[hlt],hm hw,hlim⟩
  ·simp only[e,Y9]at hy
   exact(h.ob o' y hy).mono (fun _ x=>x) hw (Imap.le_refl _) (fun l' hl' hy' b hb=>hother _ (fun eb=>e (h.inj o' q y _ hy hq hy' rfl l' l hl' hl b hb (.inl eb))))
 ·intro o' y hy hly l' hl' b hb
  simp only[updO]at hy
  have:(w.heap.setIfInBounds l.blk (Obj.map xs' clock')).size=w.heap.size:=by simp
  by_cases e:o'=q
  ·subst e
   rw[hl]at hl'
   injection hl' with hl';injection hl' with hl';subst hl'
   simp only[Yh,Y1]at hy;subst hy;rw[Za7 rfl hb];simp_all
  ·simp only[e,Y9]at hy
   have:=h.own o' y hy hly l' hl' b (Zao (hoth o' y hy hly e l' hl') hb)
   simp_all
 ·intro o1 o2 y1 y2 hy1 hy2 hl1 hl2 l1 l2 e1 e2 b hb hb2
  simp only[updO]at hy1 hy2
  by_cases e:o1=q<;>by_cases e':o2=q
  ·rw[e,e']
  ·subst e
   simp only[e',Y9]at hy2;simp only[Yh,Y1]at hy1;subst hy1
   rw[hl]at e1;injection e1 with e1;injection e1 with e1;subst e1
   exact h.inj o1 o2 _ y2 hq hy2 rfl hl2 l l2 hl e2 b (.inl (Za7 rfl hb)) (Zao (hoth o2 y2 hy2 hl2 e' l2 e2) hb2)
  ·subst e'
   simp only[e,Y9]at hy1;simp only[Yh,Y1]at hy2;subst hy2
   rw[hl]at e2;injection e2 with e2;injection e2 with e2;subst e2
   exact h.inj o1 o2 y1 _ hy1 hq hl1 rfl l1 l e1 hl b (Zao (hoth o1 y1 hy1 hl1 e l1 e1) hb) (.inl (Za7 rfl hb2))
  ·simp only[e,e',Y9]at hy1 hy2
   exact h.inj o1 o2 y1 y2 hy1 hy2 hl1 hl2 l1 l2 e1 e2 b (Zao (hoth o1 y1 hy1 hl1 e l1 e1) hb) (Zao (hoth o2 y2 hy2 hl2 e' l2 e2) hb2)
 ·refine⟨h.fr.os,h.fr.output,by simpa using h.fr.size,fun b hb hn=>?_⟩
  have:=hother b (fun e=>hn (by simp_all))
  simp only;rw[this];exact h.fr.old b hb hn
theorem Zdm.mono{S':Nat→Prop}{w':World}{ι':Imap}(hs:∀b,S b→S' b)(hw:ZbH S w w')(hι:ι.le ι'){es:List (AV×AV)}{xs:List MapEntry}{p:Bool}(h:Zdm p S w ι es xs):Zdm p S' w' ι' es xs:=
 ⟨h.1,fun i e x a b=>⟨(h.2 i e x a b).1.mono hs hw,(h.2 i e x a b).2.1.mono hs hw hι,fun hp=>((h.2 i e x a b).2.2 hp).mono hs hw⟩⟩
theorem Zdv{kt:TypeId}{k:AV}{u:Value}(h:keyOk P kt k=true)(hu:Rep S w ι k u):
 IRep S w k u∧(∀e,(Instr.checkKey e 10000 kt u).run P w=.ok () w)∧(∃d,P.underlying kt=some d)∧Instr.sameBits 10000 u u=true:=by
 unfold keyOk at h;split at h
 ·rename_i q a b ht
  rw[hu.int_inv]
  exact⟨.int _ _,fun e=>Zqg ht,⟨_,ht⟩,Zo5 _ _ _⟩
 ·rename_i l ht
  rw[hu.str_inv]
  exact⟨.str_mk _,fun e=>Ztk ht,⟨_,ht⟩,ZrD _ _⟩
 ·rename_i b ht
  rw[hu.bool_inv]
  exact⟨.bool _,fun e=>ZsG ht,⟨_,ht⟩,Zo6 _ _⟩
 ·rename_i fs q a r b ht
  have hv:=Zfc hu
  rw[hv]at hu⊢
  refine⟨?_,fun e=>ZsF h,⟨_,ht⟩,Zo4 _ _ _ _⟩
  exact hu.freeV rfl
 ·cases h
theorem Zk1{kt:TypeId}{k:AV}:∀(es:List (AV×AV)) (i:Nat) (r:Option Nat),ZbR P kt k es i r→∀j,r=some j→i≤j∧∃e,es[j-i]? =some e∧keyEq P kt k e.1=some true:=by
 intro es
 induction es with
 |nil=>intro i r h j e;simp only[ZbR]at h;simp_all
 |cons x es ih=>
  intro i r h j e;simp only[ZbR]at h
  grind
theorem ZbB{r:Nat}{es:Array MapEntry}{clock:Nat}(hb:w.heap[r]? =some (.map es clock)):(getObj r).run P w=.ok (.map es clock) w:=by
 simp[getObj,Sem.run,hb]
theorem Zex{r:Nat}{es:Array MapEntry}{clock:Nat}(ob:Obj)(hb:w.heap[r]? =some (.map es clock)):(setObj r ob).run P w=.ok () {w with heap:=w.heap.setIfInBounds r ob}:=by
 simp[setObj,Sem.run,hb]
theorem Zrw{op:Op}{v:AV}{U:List (Nat×Option AO)}{RO:List Nat}(hop:o.op=op)(h:Inv C S ι un f a w)
 (hst:BStep P (evA C.G f.g) f.os id op v U RO) (hid:∀x,id≤x→x<id+W→un x) (hd:∀d,o.dst=some d→C.N.lo≤d∧d<C.N.n) (hn:Goes C un id o f v U next):o.wp P a w next Q:=by
 cases hst with
 |slStr t x lo hi l x1 x2 hx ht ha hb hab hbl=>
  have hv:=h.ev x
  rw[hx]at hv
  refine ZaK hn h hd (Ze9 hop ?_) (.imm _ _ (.str_mk _))
  rw[hv.str_inv];exact Zo1 ht (h.bnd ha) (h.bnd hb) hab hbl
 |slSl t x lo hi xs x1 x2 sz hx ht hl ha hb hab hbl=>
  have hv:=h.ev x
  rw[hx]at hv
  obtain⟨e,i,z,ht',hi,hz,hby,hsz,hzs⟩:=Zfx ht
  obtain⟨ad,len,cap,hvv⟩:∃ad len cap,a.eval x=.slice ad len cap:=by
   generalize a.eval x=v' at hv
   cases hv with|imm _ _ hh=>cases hh<;>exact⟨_,_,_,rfl⟩
  rw[hvv]at hv
  obtain⟨h1,h2,h3⟩:=Zsa hv hl hab hbl
  refine ZaK hn h hd (Ze9 hop ?_) h3
  rw[hvv]
  exact ZgV ht' hi hsz (h.bnd ha) (by rw[h1];exact h.bnd hb) hab (by omega)
 |slZero t x lo hh m k k' q sz hs hx ht ha hh1 hm1=>
  have hv:=h.ev x
  have h1:=h.ev hh;have h2:=h.ev m
  rw[hh1]at h1;rw[hm1]at h2
  obtain⟨e,i,z,ht',hi,hz,hby,hsz,hzs⟩:=Zfx ht
  obtain⟨ad,len,cap,hvv⟩:∃ad len cap,a.eval x=.slice ad len cap:=by
   generalize a.eval x=v' at hv;generalize evA C.G f.g x=xv at hv hx hs
   cases hv with
   |imm _ _ hh=>
    cases hh with
    |esl=>simp
    |snil=>simp
    |sl=>simp
    |str s=>simp_all
    |_=>simp[listA]at hx
   |osl=>simp
   |osw=>simp
   |oswv=>simp
   |oslv=>simp
   |_=>simp[listA]at hx
  refine ZaK hn h hd (Ze9 hop (v:=.slice ad 0 0) ?_) (.imm _ _ (.esl _))
  have:=Zn7 (w:=w) (len:=len) (cap:=cap) (ad:=ad) (k:=k) (k':=k') ht' hi hsz (h.bnd ha)
  rw[hvv];simp only[Yq,h1.int_inv,h2.int_inv];exact this
 |slOsw t x lo hi ob z0 x1 x2 sz y rs hx ho hy hr ht ha hb hab hbl=>
  have hv:=h.ev x
  rw[hx]at hv
  obtain⟨e,i,z,ht',hi,hz,hby,hsz,hzs⟩:=Zfx ht
  rcases ZhZ (h.ob ob _ ho) hy with ⟨q,rfl⟩|⟨l,vals,q,hcnt,hat,hrep⟩
  ·rcases ZcP hv with ⟨l',ab,cap,q',_⟩|⟨q',ab,hvv⟩
   ·simp_all
   ·simp only[Yx]at hbl hb
    have h2:x2=0:=by omega
    subst h2
    have h1:x1=0:=by omega
    subst h1
    refine ZaK hn h hd (Ze9 hop (v:=.slice ab 0 0) ?_) (.oslv ob ab q)
    rw[hvv]
    have:=ZgV (w:=w) (ad:=ab) (len:=0) (cap:=0) ht' hi hsz (h.bnd ha) (h.bnd hb) (Yg _) (Yg _)
    simp_all
  ·rcases ZcP hv with ⟨l',ab,cap,q',hvv,g1,g2,g3,_,ga⟩|⟨q',ab,hvv⟩
   ·rw[q]at q';injection q' with q';injection q' with q';subst q'
    obtain⟨ad,len',cap',e1,e2,e3,e4⟩:=Znz (S:=S) (w:=w) (ob:=ob) (off:=0) (room:=rs.length) (x:=x1) (y:=x2) (sz:=sz) (len:=rs.length) (v:=a.eval x)
     ⟨l,ab,cap,q,by simp_all,by omega,by omega,by simp_all,by omega,by omega,fun h=>by simp_all,fun hx0=>by
      have hx1:x1-1<rs.length:=by omega
      have h5:=hr _ (We hx1)
      have h6:=(hrep (x1-1) _ (Y3 hx1)).1
      have h7:=hat.2.1 (x1-1) hx1
      omega⟩ hab hbl
    subst e2;rw[YR]at e4
    refine ZaK hn h hd (Ze9 hop ?_) e4
    rw[e1]
    exact ZgV ht' hi hsz (h.bnd ha) (h.bnd hb) hab (by omega)
   simp_all
 |cutW t x hi ob z0 b rs hx ho hr ht hb hbl=>
  have hv:=h.ev x
  rw[hx]at hv
  obtain⟨e,i,z,ht',hi',hz,hby,hsz,hzs⟩:=Zfx ht
  rcases h.ob ob _ ho with ⟨q,rfl⟩|⟨l,vals,q,hcnt,hm,hat,hrep⟩
  ·rcases ZcP hv with ⟨l',ab,cap,q',_⟩|⟨q',ab,hvv⟩
   ·simp_all
   ·simp only[Yx]at hbl hb
    have h2:b=0:=by omega
    subst h2
    have hrun:=Ze9 (P:=P) (w:=w) (a:=a) hop (v:=.slice ab 0 0) (by
     rw[hvv]
     have:=ZgV (P:=P) (w:=w) (ad:=ab) (len:=0) (cap:=0) (a:=0) (b:=0) (lo:=none) ht' hi' hsz rfl (h.bnd hb) (Yg _) (Yg _)
     simp_all)
    unfold Oper.wp;rw[hrun,Oper.upon_value]
    obtain⟨ι',hle,hι',hinv⟩:=(h.del ob).void (hidW hid) true
    exact Inv.goes hn hinv (fun x hx=>unW hx) (.oswv id _ ab hι') hd
  ·rcases ZcP hv with ⟨l',ab,cap,q',hvv,g1,g2,g3,gz,ga⟩|⟨q',ab,hvv⟩
   ·rw[q]at q';injection q' with q';injection q' with q';subst q'
    have hrun:=Ze9 (P:=P) (w:=w) (a:=a) hop (v:=.slice (some ab) b cap) (by
     rw[hvv]
     have:=ZgV (P:=P) (w:=w) (ad:=some ab) (len:=l.cnt) (cap:=cap) (a:=0) (b:=b) (lo:=none) ht' hi' hsz rfl (by rw[←hcnt];exact h.bnd hb) (Yv _) (by omega)
     refine Eq.trans (by rfl) (this.trans ?_)
     simp[Addr.add])
    unfold Oper.wp;rw[hrun,Oper.upon_value]
    obtain⟨ι',hle,hι',hinv⟩:=h.move (id:=id) (hidW hid) (q:=ob) (x:=.rows true rs) (x':=.rows true (rs.take b)) (l:=l) (l':=⟨l.blk,l.base,l.esz,l.size,b⟩) ho rfl q
     (fun _ h=>by have:=Za7 rfl h;exact .inl this) (fun ι' hle hι'=>by
     have htk:(rs.take b).length=b:=by simp[hbl]
     have hfit:b*l.esz≤rs.length*l.esz:=Yo _ hbl
     refine .inr ⟨_,vals,hι',htk,hm,⟨by have:=hat.1;grind,fun i hi=>hat.2.1 i (by omega),fun i j v hi hv=>hat.2.2 i j v (by omega) hv⟩,fun i r hr=>?_⟩
     rw[W7]at hr
     split at hr
     ·exact hrep i r hr
     grind)
    have hrp:Rep S w ι' (.osw id z0) (.slice (some ab) b cap):=by
     refine .osw id z0 cap ab ⟨l.blk,l.base,l.esz,l.size,b⟩ hι' (by grind) g2 (by grind) (fun h0 hc=>?_) ga
     by_cases hr0:l.cnt=0
     ·simp_all
     ·obtain⟨r,hrr⟩:∃r,rs[0]? =some r:=⟨_,Y3 (by omega)⟩
      have h1:=hat.2.1 0 (by omega)
      have h2:=(hrep.get hrr).1
      grind
    exact Inv.goes hn hinv (fun x hx=>unW hx) hrp hd
   simp_all
 |slOsl t x lo hi ob off len room x1 x2 sz y rs hx ho hy hr ht ha hb hab hbl hbr=>
  have hv:=h.ev x
  rw[hx]at hv
  obtain⟨e,i,z,ht',hi,hz,hby,hsz,hzs⟩:=Zfx ht
  rcases Zil hv with ⟨l',ab,cap,q',hvv,g1,g2,g3,g4,g5,ga⟩|⟨q',rfl,rfl,rfl,ab,hvv⟩
  ·rcases ZhZ (h.ob ob _ ho) hy with ⟨q,rfl⟩|⟨l,vals,q,hcnt,hat,hrep⟩
   ·simp_all
   ·rw[q]at q';injection q' with q';injection q' with q';subst q'
    obtain⟨ad,len',cap',e1,e2,e3,e4⟩:=Znz (S:=S) (w:=w) (ob:=ob) (off:=off) (room:=room) (x:=x1) (y:=x2) (sz:=sz) (len:=len) (v:=a.eval x)
     ⟨l,ab,cap,q,hvv,g1,g2,g3,g4,g5,ga,fun hx0=>by
      have hx1:x1-1<rs.length:=by omega
      have h5:=hr _ (We hx1)
      have h6:=(hrep (x1-1) _ (Y3 hx1)).1
      have h7:=hat.2.1 (x1-1) hx1
      omega⟩ hab hbl
    subst e2
    refine ZaK hn h hd (Ze9 hop ?_) e4
    rw[e1]
    exact ZgV ht' hi hsz (h.bnd ha) (h.bnd hb) hab (by omega)
  ·have h2:x2=0:=by omega
   subst h2
   have h1:x1=0:=by omega
   subst h1
   refine ZaK hn h hd (Ze9 hop (v:=.slice ab 0 0) ?_) (.oslv ob ab q')
   rw[hvv]
   have:=ZgV (w:=w) (ad:=ab) (len:=0) (cap:=0) ht' hi hsz (h.bnd ha) (h.bnd hb) (Yg _) (Yg _)
   simp_all
 |mkSl t l c k k' n m z sz hl hc h0 h1 h2 ht hz=>exact mk_ok hop hn h hd hid hl hc h0 h1 h2 ht hz
 |bldSl t len parts z cs sz ht hz hlim hlim2 hcl hall hf=>exact Ztm hop hn h hd hid ht hz hlim hlim2 hcl hall hf
 |appE t tx s x q sz hs hx ht htx hr hlim=>exact ZsN hop hn h hd hid hs hx ht htx hr hlim
 |appW t tx s x q sz ob z p rs hs hz ho hx ht htx hr hr' hlim=>exact ZsM hop hn h hd hid hs hz ho hx ht htx hr hr' hlim
 |toBytes s d x l hx ht hl=>exact Zn5 hop hn h hd hid hx ht hl
 |toStr s d x l q hs hx hl ht=>exact ZqH hop hn h hd hx hl ht hs
 |mkMap t hk=>
  have hrun:(execOp a.eval o).run P w=.ok (.value (.map (some w.heap.size))) (w.alloc (.map #[] 0)):=by
   unfold execOp;rw[hop];simp only[Instr.makeMap,Option.map_none,Y6,Sem.run_pure,run_newObj,Result.andThen_ok];rfl
  unfold Oper.wp;rw[hrun,Oper.upon_value]
  obtain⟨ι',hle,hι',hinv⟩:=h.alloc (hidW hid) (.map #[] 0) ⟨w.heap.size,0,0,0,0⟩ rfl (.mapo true []) rfl (fun _ h=>Za7 rfl h) (fun ι' hle hι'=>
   ⟨_,#[],0,hι',by show(w.heap.push _)[w.heap.size]? =_;simp,⟨rfl,fun i e x h=>by simp at h⟩,by simp⟩)
  exact Inv.goes hn hinv (fun x hx=>unW hx) (.mapo id _ hι') hd
 |mkMapN t x k n hk hx=>
  have hv:=h.ev x
  rw[hx]at hv
  obtain⟨kt,hkt⟩:=YQ.1 hk
  unfold keyT at hkt;split at hkt
  ·rename_i kk ee ht
   have hrun:(execOp a.eval o).run P w=.ok (.value (.map (some w.heap.size))) (w.alloc (.map #[] 0)):=by
    unfold execOp;rw[hop];simp only[Instr.makeMap,Yq,Y6,Y5 ht,hv.int_inv,asInt,asIntOf,Sem.run_pure,run_newObj,Result.andThen_ok];rfl
   unfold Oper.wp;rw[hrun,Oper.upon_value]
   obtain⟨ι',hle,hι',hinv⟩:=h.alloc (hidW hid) (.map #[] 0) ⟨w.heap.size,0,0,0,0⟩ rfl (.mapo true []) rfl (fun _ h=>Za7 rfl h) (fun ι' hle hι'=>
    ⟨_,#[],0,hι',by show(w.heap.push _)[w.heap.size]? =_;simp,⟨rfl,fun i e x h=>by simp at h⟩,by simp⟩)
   exact Inv.goes hn hinv (fun x hx=>unW hx) (.mapo id _ hι') hd
  grind
 |mapUpd _ t kt m k x hop' ob pf es r hm ho ht hk hr hlim vx hwx=>
  have hmv:=h.ev m;have hkv:=h.ev k;have hxv:=hwx.rep _ (h.ev x)
  rw[hm]at hmv
  obtain⟨l,hl,hmm⟩:=hmv.mapo_inv
  obtain⟨l',xs,clock,hl',hheap,hmr,hxl⟩:=h.ob ob _ ho
  rw[hl]at hl';injection hl' with hl';injection hl' with hl';subst hl'
  obtain⟨hki,hck,⟨d,hd'⟩,hsb⟩:=Zdv hk hkv
  obtain⟨e,hfe,her,hey⟩:=Zc5 hd' hk hkv hmr hr
  unfold keyT at ht;split at ht
  ·rename_i kk ee hut
   injection ht with ht;subst ht
   have hfk:(Instr.findKey kk (a.eval k) xs.toList).run P w=.ok e w:=hfe
   have hex:(execOp a.eval o)=(do Instr.mapUpdate t (a.eval m) (a.eval k) (a.eval x);pure .skip:Sem Next):=by
    unfold execOp;rw[hop];rcases hop' with rfl|rfl<;>rfl
   cases r with
   |none=>
    have he:e=none:=by cases e with|none=>rfl|some p=>grind
    subst he
    have hrun:(execOp a.eval o).run P w=.ok .skip {w with heap:=w.heap.setIfInBounds l.blk (.map (xs.push {key:=a.eval k,val:=a.eval x,born:=clock}) (clock+1))}:=by
     rw[hex,hmm];simp only[Instr.mapUpdate,Y6,Y5 hut,Result.andThen_ok,ZbB hheap,hck,hfk,Zex _ hheap,Sem.run_pure]
    unfold Oper.wp;rw[hrun,Oper.upon_skip]
    have hinv:=h.sets ho hl (p':=pf&&ZhK vx) (es':=putE es none (evA C.G f.g k) vx) (xs':=xs.push {key:=a.eval k,val:=a.eval x,born:=clock}) (clock':=clock+1) (by
     have:=hmr.1;simp_all) (fun hw=>by
     have hmr':=hmr.mono (fun _ x=>x) hw (Imap.le_refl _)
     refine⟨by simp[putE,hmr.1],fun i e x h1 h2=>?_⟩
     simp only[putE,Vf]at h1 h2
     by_cases hi:i<es.length
     ·rw[Yn hi]at h1
      rw[Yn (by have:=hmr.1;omega)]at h2
      exact⟨(hmr'.2 i e x h1 h2).1,(hmr'.2 i e x h1 h2).2.1,fun hp=>(hmr'.2 i e x h1 h2).2.2 (by simp_all)⟩
     ·rw[Yc (by omega)]at h1
      rw[Yc (by have:=hmr.1;omega)]at h2
      have hi0:i-es.length=0:=by have:=Zap h1;simp at this;omega
      have hi1:i-xs.toList.length=0:=by rw[←hmr.1];exact hi0
      rw[hi0]at h1;rw[hi1]at h2
      simp only[List.getElem?_cons_zero,Y1]at h1 h2
      subst h1;subst h2
      exact⟨hki.mono (fun _ x=>x) hw,hxv.mono (fun _ x=>x) hw (Imap.le_refl _),fun hp=>(hxv.freeV (by simp_all)).mono (fun _ x=>x) hw⟩)
    exact Inv.goes hn hinv (fun x hx=>hx.1) (.imm _ _ (.undef _)) hd
   |some j=>
    obtain⟨⟨j',y⟩,rfl⟩:∃p,e=some p:=by cases e with|none=>grind|some p=>simp
    simp only[Yq,Y1]at her;subst her
    obtain⟨x0,hx0,hy0⟩:=hey j' y rfl
    obtain⟨_,e0,he0,hke⟩:=Zk1 es 0 _ hr j' rfl
    rw[Nat.sub_zero]at he0
    have hsbk:=ZkV hke hkv (hmr.2 j' e0 x0 he0 hx0).1
    have hxj:xs[j']? =some x0:=by rw[←Wg];exact hx0
    have hrun:(execOp a.eval o).run P w=.ok .skip {w with heap:=w.heap.setIfInBounds l.blk (.map (xs.modify j' fun e=>{e with key:=a.eval k,val:=a.eval x}) clock)}:=by
     rw[hex,hmm];simp only[Instr.mapUpdate,Y6,Y5 hut,Result.andThen_ok,ZbB hheap,hck,hfk,hxj,Yq,Yu,Instr.keyThatStays,hsbk,Yh,Zex _ hheap,Sem.run_pure]
    unfold Oper.wp;rw[hrun,Oper.upon_skip]
    have hinv:=h.sets ho hl (p':=pf&&ZhK vx) (es':=putE es (some j') (evA C.G f.g k) vx) (xs':=xs.modify j' fun e=>{e with key:=a.eval k,val:=a.eval x}) (clock':=clock) (by
     simp_all) (fun hw=>by
     have hmr':=hmr.mono (fun _ x=>x) hw (Imap.le_refl _)
     refine⟨by simp[putE,hmr.1],fun i e x h1 h2=>?_⟩
     simp only[putE,Array.toList_modify]at h1 h2
     rw[List.getElem?_modify]at h1 h2
     simp only[Option.map_eq_map,Ye]at h1 h2
     obtain⟨e9,h1,rfl⟩:=h1
     obtain⟨x9,h2,rfl⟩:=h2
     by_cases hi:j'=i
     ·subst hi
      simp only[Yh]
      exact⟨hki.mono (fun _ x=>x) hw,hxv.mono (fun _ x=>x) hw (Imap.le_refl _),fun hp=>(hxv.freeV (by simp_all)).mono (fun _ x=>x) hw⟩
     ·simp only[hi,Y9]
      exact⟨(hmr'.2 i e9 x9 h1 h2).1,(hmr'.2 i e9 x9 h1 h2).2.1,fun hp=>(hmr'.2 i e9 x9 h1 h2).2.2 (by simp_all)⟩)
    exact Inv.goes hn hinv (fun x hx=>hx.1) (.imm _ _ (.undef _)) hd
  grind
 |look t kt m k ok ob pf es r v hm ho ht hk hr hv=>
  have hmv:=h.ev m;have hkv:=h.ev k
  rw[hm]at hmv
  obtain⟨l,hl,hmm⟩:=hmv.mapo_inv
  obtain⟨l',xs,clock,hl',hheap,hmr,hxl⟩:=h.ob ob _ ho
  rw[hl]at hl';injection hl' with hl';injection hl' with hl';subst hl'
  obtain⟨hki,hck,⟨d,hd'⟩,hsb⟩:=Zdv hk hkv
  obtain⟨e,hfe,her,hey⟩:=Zc5 hd' hk hkv hmr hr
  unfold keyT at ht;split at ht
  ·rename_i kk ee hut
   injection ht with ht;subst ht
   have hfk:(Instr.findKey kk (a.eval k) xs.toList).run P w=.ok e w:=hfe
   have fin:∀v':Value,Rep S w ι v v'→((∃j,e=some (j,v')∧r.isSome=true)∨(e=none∧r.isSome=false∧(zeroValue ee).run P w=.ok v' w))→o.wp P a w next Q:=by
    intro v' hv' hrun'
    have hrun:(execOp a.eval o).run P w=.ok (.value (if ok then .tuple #[v',.bool r.isSome]else v')) w:=by
     unfold execOp;rw[hop]
     rcases hrun' with ⟨j,rfl,hr2⟩|⟨rfl,hr2,hz⟩
     ·simp only[hmm,Instr.lookup,Y6,Y5 hut,Result.andThen_ok,ZbB hheap,Sem.run_pure,hck,hfk,hr2]
     ·simp only[hmm,Instr.lookup,Y6,Y5 hut,Result.andThen_ok,ZbB hheap,Sem.run_pure,hck,hfk,hr2,hz]
    refine ZaK hn h hd hrun ?_
    cases ok
    ·exact hv'
    ·exact RepL.tupr (RepL.cons hv' (RepL.cons (.imm _ _ (.bool _)) .nil))
   rcases hv with ⟨i,e0,rfl,he0,rfl⟩|⟨rfl,vt,z0,hvt,hz,hwk⟩
   ·obtain⟨⟨j',y⟩,rfl⟩:∃p,e=some p:=by cases e with|none=>grind|some p=>simp
    simp only[Yq,Y1]at her;subst her
    obtain⟨x0,hx0,hy0⟩:=hey j' y rfl
    refine fin y ?_ (.inl ⟨_,rfl,rfl⟩)
    rw[←hy0];exact(hmr.2 j' e0 x0 he0 hx0).2.1
   ·have he:e=none:=by cases e with|none=>rfl|some p=>grind
    subst he
    have hvt':ee=vt:=by unfold valT at hvt;rw[hut]at hvt;simpa using hvt
    subst hvt';unfold zeroV at hz;split at hz
    ·cases hz
    ·rename_i i hi
     split at hz
     ·rename_i zv hzv
      injection hz with hz;subst hz
      refine fin zv (hwk.rep _ (.imm _ _ (Zfd zv))) (.inr ⟨rfl,rfl,?_⟩)
      simp[zeroValue,typeInfo,hi,hzv]
     grind
  grind
 |lookN t kt vt m k ok v hm ht hk hvt hz=>
  have hmv:=h.ev m;have hkv:=h.ev k
  rw[hm]at hmv
  have hmm:=hmv.con_inv
  obtain⟨hki,hck,⟨d,hd'⟩,hsb⟩:=Zdv hk hkv
  unfold keyT at ht;split at ht
  ·rename_i kk ee hut
   injection ht with ht;subst ht
   have hvt':ee=vt:=by unfold valT at hvt;rw[hut]at hvt;simpa using hvt
   subst hvt';unfold zeroV at hz;split at hz
   ·cases hz
   ·rename_i i hi
    split at hz
    ·rename_i zv hzv
     injection hz with hz;subst hz
     have hzr:(zeroValue ee).run P w=.ok zv w:=by simp[zeroValue,typeInfo,hi,hzv]
     have hfk:(Instr.findKey kk (a.eval k) []).run P w=.ok none w:=by
      simp only[Instr.findKey,Y6,Y5 hd',Result.andThen_ok,Instr.findNow,Sem.run_pure]
     have hrun:(execOp a.eval o).run P w=.ok (.value (if ok then .tuple #[zv,.bool false]else zv)) w:=by
      unfold execOp;rw[hop];simp only[hmm,Instr.lookup,Y6,Y5 hut,Result.andThen_ok,Sem.run_pure,hck,hfk,hzr]
     refine ZaK hn h hd hrun ?_
     cases ok
     ·exact .imm _ _ (Zfd zv)
     ·exact RepL.tupr (RepL.cons (.imm _ _ (Zfd zv)) (RepL.cons (.imm _ _ (.bool _)) .nil))
    grind
  grind
end
end Go.Ab
