import Derived.Test.YtjpmdkgonlmddaaGreatDoorAbC
set_option linter.unusedVariables false
namespace Go.Ab
section
variable {bX z:Nat}{p:Bool}{rs:List (List AV)}{s x:Operand}{t tx:TypeId}{us:List Value}
section
variable {C:Cx}{S:Nat→Prop}{w:World}{ι:bp}{P:Program}{un:Nat→Prop}{f:FS}{a:Act}{id:Nat}{o:Oper}
 {next:Act→World→Prop} {Q:Exit→Act→World→Prop}
theorem Inv.del(h:Inv C S ι un f a w)(q:Nat):Inv C S ι un {f with os:=bw f.os [(q,none)]} a w:=by
 have sub:∀o x,bw f.os [(q,none)] o=some x→f.os o=some x:=by
  intro o x i;simp only[bw]at i;split at i
  ·cases i
  ·exact i
 exact⟨h.tm,h.sz,h.df,λ o x i=>h.ob o x (sub o x i),λ o x i=>h.own o x (sub o x i),λ o o' x x' h1 j=>h.inj o o' x x' (sub _ _ h1) (sub _ _ j),h.sb,h.sn,h.un,h.fr,h.fo,h.gv,h.s0,h.hj⟩
theorem EC{x:Option Loc}(i:ι id=none):ι.le (λ o=>if o=id then some x else ι o):=by
 intro o y hy;grind
theorem Inv.void(h:Inv C S ι un f a w)(A:un id)(p:Bool):
 ∃ι',ι.le ι'∧ι' id=some none∧Inv C S ι' (λ o=>un o∧o≠id) {f with os:=bw f.os [(id,some (.rows p []))]} a w:=by
 have i:=h.un id A;refine⟨λ o=>if o=id then some none else ι o,EC i,by simp,?_⟩
 have hι:=EC (x:=none) i;have M:gA S w w:=λ _ _=>rfl;refine h.iC (λ _ x=>x) M hι ?_ ?_ ?_ h.sb h.sn (λ o ho=>?_) h.fr
 ·intro o y j;simp only[bw]at j;by_cases e:o=id
  ·subst e;simp only[Yz,Y5]at j;subst j;exact .inl ⟨by simp,rfl⟩
  ·simp only[e,Ym]at j;exact(h.ob o y j).mono (λ _ x=>x) M hι (λ _ _ _ _ _=>rfl)
 ·intro o y j J l' z b H;simp only[bw]at j;by_cases e:o=id
  ·simp_all
  ·simp only[e,Ym]at j z;exact h.own o y j J l' z b H
 ·intro Q O U T q u E B l1 l2 e1 R b H F;simp only[bw]at q u;by_cases e:Q=id
  ·simp_all
  ·by_cases V:O=id
   ·simp_all
   ·simp only[e,V,Ym]at q u e1 R;exact h.inj Q O U T q u E B l1 l2 e1 R b H F
 ·simp only[ho.2,Ym];exact h.un o ho.1
theorem Inv.ri(h:Inv C S ι un f a w)(i:un id){q:Nat}{x:AO}(o:f.os q=some x):q≠id:=by
 intro e;subst e;have j:=h.un q i;have:=h.ob q x o;cases x with
 |rows p rs=>rcases this with ⟨e,_⟩|⟨l,bc,e,_⟩<;>(simp_all)
 |dD rs=>rcases this with ⟨e,_⟩|⟨l,bc,e,_⟩<;>(simp_all)
 |bm p es=>obtain⟨l,xs,c,e,_⟩:=this;simp_all
 |cw z fs hh=>obtain⟨l,xs,c,e,_⟩:=this;simp_all
 |cF es hh=>obtain⟨l,xs,c,e,_⟩:=this;simp_all
 |lit rs=>obtain⟨l,bc,e,_⟩:=this;simp_all
theorem Inv.move(h:Inv C S ι un f a w)(O:un id){q:Nat}{x x':AO}{l l':Loc}(V:f.os q=some x)(p:x.live=true)(R:ι q=some (some l))(Z:∀b,c6 w x' l' b→c6 w x l b)
 (mM:∀ι':bp,ι.le ι'→ι' id=some (some l')→cX S w ι' id x'):
 ∃ι',ι.le ι'∧ι' id=some (some l')∧Inv C S ι' (λ o=>un o∧o≠id) {f with os:=bw f.os [(id,some x'),(q,none)]} a w:=by
 have B:=h.un id O;have hι:=EC (x:=some l') B;refine⟨λ o=>if o=id then some (some l')else ι o,hι,by simp,?_⟩
 have Y:gA S w w:=λ _ _=>rfl;have ho:=h.own q x V p l R
 refine h.iC (λ _ x=>x) Y hι ?_ ?_ ?_ h.sb h.sn (λ o ho=>?_) h.fr
 ·intro o y z;simp only[bw]at z;by_cases e:o=id
  ·simp_all
  ·simp only[e,Ym]at z;split at z
   ·cases z
   ·exact(h.ob o y z).mono (λ _ x=>x) Y hι (λ _ _ _ _ _=>rfl)
 ·intro o y z U l2 A b u;simp only[bw]at z;by_cases e:o=id
  ·simp_all
  ·simp only[e,Ym]at z A;split at z
   ·cases z
   ·exact h.own o y z U l2 A b u
 ·intro T Q y1 X i j J A l1 l2 e1 H b F u;simp only[bw]at i j;by_cases e:T=id<;>by_cases M:Q=id
  ·rw[e,M]
  ·subst e;simp only[Yz,Y5]at e1;simp only[M,Ym]at j H;split at j
   ·cases j
   ·rename_i E;simp only[Yz,Y5]at i;subst e1;subst i;exact absurd (h.inj Q q X x j V A p l2 l H R b u (Z b F)) E
  ·subst M;simp only[Yz,Y5]at H;simp only[e,Ym]at i e1;split at i
   ·cases i
   ·rename_i E;simp only[Yz,Y5]at j;subst H;subst j;exact absurd (h.inj T q y1 x i V J p l1 l e1 R b F (Z b u)) E
  ·simp only[e,M,Ym]at i j e1 H;split at i
   ·cases i
   ·split at j
    ·cases j
    ·exact h.inj T Q y1 X i j J A l1 l2 e1 H b F u
 ·simp only[ho.2,Ym];exact h.un o ho.1
theorem ja(i:∀x,id≤x→x<id+W→un x):un id:=i id (Yg _) (by simp[W])
theorem qs{x:Nat}(i:un x∧¬(id≤x∧x<id+W)):un x∧x≠id:=⟨i.1,λ e=>i.2 ⟨by omega,by subst e;simp[W]⟩⟩
theorem Je(w:World)(cells:Array Value)(e:TypeId)(fr:Nat×Nat)(j:Nat):(w.alloc (.cells cells e fr)).cell? ⟨w.heap.size,j,none⟩=cells[j]? :=by
 have h:(w.alloc (.cells cells e fr)).heap[w.heap.size]? =some (.cells cells e fr):=by show(w.heap.push _)[w.heap.size]? =_;simp
 unfold World.cell?;simp_all
theorem Zpr(w:World)(cells:Array Value)(e:TypeId)(fr:Nat×Nat)(j:Nat):(w.alloc (.cells cells e fr)).frozen? ⟨w.heap.size,j,none⟩=decide (fr.1≤j∧j<fr.2):=by
 have h:(w.alloc (.cells cells e fr)).heap[w.heap.size]? =some (.cells cells e fr):=by show(w.heap.push _)[w.heap.size]? =_;simp
 unfold World.frozen?;simp_all
theorem EZ{fr:Nat×Nat}{rest:List Value}{cap:Nat}{e:TypeId}{cells:Array Value}{D:List (Nat×Option AO)}{w1:World}
 (hn:gK C un id o f (.bf id z) ((id,some (.rows p rs))::D) next) (h:Inv C S ι un f a w) (hd:∀d,o.dst=some d→C.N.lo≤d∧d<C.N.n) (O:∀x,id≤x→x<id+W→un x)
 (X:D=[]∨∃q,D=[(q,none)]) (Y:Flat p S w ι bX rs us) (U:cells.toList=us++rest) (h1:rs.length≤cap) (h2:cap*bX≤cells.size) (h3:rs.length≤bI) (Z:rs.length=0→bX=z)
 (y:w1=w∨w1=w.drew) (H:(execOp a.eval o).run P w=.ok (.value (.slice (some ⟨w.heap.size,0,none⟩) rs.length cap)) (w1.alloc (.cells cells e fr))) (nG:∀j,(j<cells.size∨bX≠1)→¬(fr.1≤j∧j<fr.2)):o.wp P a w next Q:=by
 unfold Oper.wp;rw[H,YT];have M:Inv C S ι un {f with os:=bw f.os D} a w:=by
  rcases X with rfl|⟨q,rfl⟩
  ·exact h
  ·exact h.del q
 have A:Inv C S ι un {f with os:=bw f.os D} a w1:=by
  rcases y with rfl|rfl
  ·exact M
  ·exact M.drew
 have B:w1.heap.size=w.heap.size:=by rcases y with rfl|rfl<;>rfl
 have u:gA S w w1:=by intro b R;rcases y with rfl|rfl<;>rfl
 have V:us.length≤cells.size:=by rw[←WA,U];simp
 have i:∀(j:Nat) v,us[j]? =some v→fC (w1.alloc (.cells cells e fr)) w1.heap.size (0+j)=some v:=by
  intro j v T;simp only[fC,Wf];rw[Je];rw[←WG,U,Yt (fD T)];exact T
 obtain⟨ι',E,hι',F⟩:=A.alloc (ja O) (.cells cells e fr) ⟨w1.heap.size,0,bX,cells.size,rs.length⟩ rfl (.rows p rs) rfl (λ _ h=>iY rfl h) (λ ι' E hι'=>by
  have J:Flat p S (w1.alloc (.cells cells e fr)) ι' bX rs us:=Y.mono (λ _ x=>x) (λ b R=>by rw[so w1 _ b (by rw[B];exact h.sb b R)];exact u b R) E
  refine .inr ⟨_,_,hι',rfl,λ j=>⟨λ hj=>?_,λ hj=>?_⟩,Flat.at (l:=⟨w1.heap.size,0,bX,cells.size,rs.length⟩) J i (by
   have:rs.length*bX≤cap*bX:=YK _ h1;grind),J.rows⟩
  ·simp only at hj;refine⟨cells[j]'(by omega),?_⟩
   simp only[fC];rw[Je];simp
  ·simp only at hj;rw[Zpr];simp_all)
 refine Inv.goes hn F (λ x hx=>qs hx) ?_ hd;rw[←B]
 exact cz.bf id z cap _ _ hι' h1 (by simp_all) h3 (λ h0 _=>Z h0) (λ _=>rfl)
theorem Z9{q:Bool}{ys:List (List AV)}{k cap:Nat}{l:Loc}
 (hn:gK C un id o f (.bf id z) [(id,some (.rows (p&&q) (rs++ys))),(k,none)] next) (h:Inv C S ι un f a w) (hd:∀d,o.dst=some d→C.N.lo≤d∧d<C.N.n) (T:∀x,id≤x→x<id+W→un x)
 (ho:f.os k=some (.rows p rs)) (O:ι k=some (some l)) (hF:Flat q S w ι l.bX ys us) (h1:rs.length+ys.length≤cap) (h2:l.base+cap*l.bX≤l.size) (h3:rs.length+ys.length≤bI) (hz:rs.length+ys.length=0→l.bX=z)
 (xa:(execOp a.eval o).run P w=.ok (.value (.slice (some ⟨l.bB,l.base,none⟩) (rs.length+ys.length) cap)) (w.setCells l.bB (l.base+rs.length*l.bX) us)):o.wp P a w next Q:=by
 unfold Oper.wp;rw[xa,YT];rcases h.ob k _ ho with ⟨e,_⟩|⟨l',bc,e,U,hm,B,F⟩
 ·simp_all
 ·rw[e]at O;injection O with O;injection O with O;subst O;have iF:=h.ri (ja T) ho;have Le:=hF.len;have rB:l'.base+rs.length*l'.bX+us.length≤l'.size:=by
   have:(rs.length+ys.length)*l'.bX≤cap*l'.bX:=YK _ h1;rw[Wg]at this;omega
  have X:∀j,j<rs.length*l'.bX→fC (w.setCells l'.bB (l'.base+rs.length*l'.bX) us) l'.bB (l'.base+j)=fC w l'.bB (l'.base+j):=by
   intro j hj;exact Wy l'.bB us _ w _ (λ _ _=>.inl (by simp_all))
  have n0:∀(j:Nat) v,us[j]? =some v→fC (w.setCells l'.bB (l'.base+rs.length*l'.bX) us) l'.bB (l'.base+rs.length*l'.bX+j)=some v:=by
   intro j v y;have hj:=fD y;have:=V9 l'.bB us (l'.base+rs.length*l'.bX) w (λ i R=>by
    obtain⟨u,hu⟩:=(hm (l'.base+rs.length*l'.bX+i)).1 (by omega)
    simp_all) j hj
   rw[Y3 hj]at y;injection y with y;rw[←y];exact this
  have A:p9 (w.setCells l'.bB (l'.base+rs.length*l'.bX) us) l' rs.length bc:=by
   refine⟨B.1,B.2.1,λ i j v R y=>?_⟩;have V:i*l'.bX+j<rs.length*l'.bX:=by
    have h5:=B.2.1 i R;have h6:=fD y;have:(i+1)*l'.bX≤rs.length*l'.bX:=YK _ R;rw[Wg]at this;omega
   rw[X _ V];exact B.2.2 i j v R y
  have M:=h.writes ho rfl e (x':=.rows p rs) rfl (l'.base+rs.length*l'.bX) us (λ hw=>
   .inr ⟨l',bc,e,U,hm.setCells _ _,A,F.mono (λ _ x=>x) hw (bp.le_refl _)⟩)
  obtain⟨hO,hS,V⟩:=h.own k _ ho rfl l' e _ (.inl rfl);have hw:gA S w (w.setCells l'.bB (l'.base+rs.length*l'.bX) us):=PO hS h.sb _ us;obtain⟨ι',J,hι',E⟩:=M.move (id:=id) (ja T) (q:=k) (x:=.rows p rs) (x':=.rows (p&&q) (rs++ys)) (l:=l') (l':=⟨l'.bB,l'.base,l'.bX,l'.size,rs.length+ys.length⟩)
   (by simp[bw]) rfl e (λ _ h=>by have:=iY rfl h;exact .inl this) (λ ι' J hι'=>by
    obtain⟨QD,Z,uw⟩:=IY (cell:=fC (w.setCells l'.bB (l'.base+rs.length*l'.bX) us) l'.bB) rs bc l'.base A.2.1 (λ i j v R y=>A.2.2 i j v R y)
     (F.mono (λ _ x=>x) hw J)
    have Y:=Z.append (hF.mono (λ _ x=>x) hw J);refine .inr ⟨_,_,hι',by simp,hm.setCells _ _,Flat.at (l:=⟨l'.bB,l'.base,l'.bX,l'.size,rs.length+ys.length⟩) Y (λ j v y=>?_) ?_,Y.rows⟩
    ·by_cases hj:j<QD.length
     ·grind
     ·rw[Yl (by omega)]at y
      have:=n0 _ v y;have h7:=Z.len;grind
    ·simp only[Y8];grind)
  have H:Inv C S ι' (λ o=>un o∧o≠id) {f with os:=bw f.os [(id,some (.rows (p&&q) (rs++ys))),(k,none)]} a (w.setCells l'.bB (l'.base+rs.length*l'.bX) us):=by
   have e1:bw (bw f.os [(k,some (AO.rows p rs))]) [(id,some (.rows (p&&q) (rs++ys))),(k,none)]=bw f.os [(id,some (.rows (p&&q) (rs++ys))),(k,none)]:=by
    funext x;simp only[bw];split
    ·rfl
    ·simp_all
   rw[show({f with os:=bw (bw f.os [(k,some (AO.rows p rs))]) [(id,some (.rows (p&&q) (rs++ys))),(k,none)]}:FS)={f with os:=bw f.os [(id,some (.rows (p&&q) (rs++ys))),(k,none)]} by rw[e1]]at E
   exact E
  refine Inv.goes hn H (λ x hx=>qs hx) ?_ hd;exact cz.bf id z cap _ _ hι' h1 h2 h3 (λ h0 _=>hz h0) (λ _=>rfl)
theorem td{sz:Nat}(h:eN P t=some sz):∃e i z,P.underlying t=some (.slice e)∧P.info? e=some i∧i.zero=some z∧i.bytes≤131072∧i.size=sz∧z.cells.size=sz:=by
 unfold eN at h;grind
theorem ZqM(h:je P t=true):(∃i,P.underlying t=some (.slice i))∨P.underlying t=some .string:=by
 unfold je at h;grind
theorem Ez{v:Value}{q:Bool}{ys:List (List AV)}(j:je P tx=true)(o:Flat q S w ι bX ys us)(i:ov P w bX v ys.length ys.length us):
 Src P bX tx v ys.length us w:=
 ⟨ZqM j,i.len,i.cells w rfl,i.cells w.drew rfl,o.len,o.one⟩
theorem PN{ty:TypeId}{base:Option Addr}{j sCap:Nat}{x:Value}(u:eN P t=some bX)(o:Src P bX tx x 0 [] w)(A:j≤sCap):
 (Builtin.append_ #[t,tx] ty #[.slice base j sCap,x]).run P w=.ok (.slice base j sCap) w:=by
 obtain⟨e,i,z,q,B,hz,_,p,_⟩:=td u;subst p;clear u;rcases o.kind with ⟨e',y⟩|y<;>cases base<;>
  simp[Builtin.append_,Yb q,Yb y,sizeOf,typeInfo,B,o.len,A,o.cells,storeCells]
theorem EL{v:Value}{w':World}(i:o.op=.call {callee:=.builtin .append,args:=#[s,x],argTypes:=#[t,tx]})
 (h:∀ty,(Builtin.append_ #[t,tx] ty #[a.eval s,a.eval x]).run P w=.ok v w'):(execOp a.eval o).run P w=.ok (.value v) w':=by
 unfold execOp;rw[i];simp[resolve,invoke,builtin,h]
theorem ZqE{i old bytes:Nat}(h:old<i)(hn:i≤bI)(j:bytes≤131072):Builtin.nextslicecap i old*bytes≤281474976710656:=by
 refine growslice_fits h ?_;have:=Nat.mul_le_mul hn j;simp only[bI]at this;omega
theorem Jc{q:Bool}{ys:List (List AV)}{vs:List Value}{base:Option Addr}{sCap:Nat}{D:List (Nat×Option AO)}
 (A:o.op=.call {callee:=.builtin .append,args:=#[s,x],argTypes:=#[t,tx]}) (hn:gK C un id o f (.bf id bX) ((id,some (.rows (p&&q) (rs++ys)))::D) next) (h:Inv C S ι un f a w)
 (hd:∀d,o.dst=some d→C.N.lo≤d∧d<C.N.n) (B:∀x,id≤x→x<id+W→un x) (Y:D=[]∨∃q,D=[(q,none)]) (ht:eN P t=some bX) (J:je P tx=true)
 (hv:a.eval s=.slice base rs.length sCap) (U:Flat p S w ι bX rs us) (X:ov P w bX (.slice base rs.length sCap) rs.length rs.length us)
 (T:Flat q S w ι bX ys vs) (M:ov P w bX (a.eval x) ys.length ys.length vs) (V:sCap<rs.length+ys.length) (u:rs.length+ys.length≤bI):o.wp P a w next Q:=by
 obtain⟨e,i,z,O,Z,hz,hb,E,H⟩:=td ht;subst E;have y:=λ ty=>run_append_grow_src (P:=P) w t tx ty e i z O Z hz base rs.length sCap us (X.cells w.drew rfl) (a.eval x) ys.length vs (Ez J T M) V
  (by simp only[bI]at u;omega) (ZqE V u hb)
 rw[←hv]at y;have F:=U.len;have R:=T.len;have Lx:=grownCap_ge w (rs.length+ys.length) sCap e;refine EZ hn h hd B Y (U.append T) (cells:=(us++vs).toArray++Builtin.zeroCells z.cells (grownCap w (rs.length+ys.length) sCap e-(rs.length+ys.length))) (rest:=(Builtin.zeroCells z.cells (grownCap w (rs.length+ys.length) sCap e-(rs.length+ys.length))).toList)
  (cap:=grownCap w (rs.length+ys.length) sCap e) (e:=e) (w1:=w.drew) (by simp) (by simp_all) ?_ (by simp_all) (λ _=>rfl) (.inr rfl) (by
   have:=EL (P:=P) (w:=w) A y;simpa using this) (λ j _ h=>by simp at h)
 simp only[Array.size_append,List.size_toArray,Y8,size_zeroCells,F,R,H];rw[←Wg,←Wg];simp_all
theorem Zpp{ol:Nat→Option AO}{k:Nat}(h:ol k=some (.rows p rs)):dG ol (.bf k z)=some (p,rs,[k]):=by simp only[dG,h]
theorem Te{q:Bool×List (List AV)×bL}{sz:Nat}(j:o.op=.call {callee:=.builtin .append,args:=#[s,x],argTypes:=#[t,tx]})
 (hn:gK C un id o f (.bf id sz) [(id,some (.rows q.1 q.2.1))] next) (h:Inv C S ι un f a w) (hd:∀d,o.dst=some d→C.N.lo≤d∧d<C.N.n) (u:∀x,id≤x→x<id+W→un x)
 (R:(ig C.G f.g) s=.dK) (H:dG f.os ((ig C.G f.g) x)=some q) (J:eN P t=some sz) (y:je P tx=true) (T:∀r∈q.2.1,r.length=sz) (M:q.2.1.length≤bI):o.wp P a w next Q:=by
 obtain⟨U,ys,ro⟩:=q;simp only at*;have i:=h.ev s;rw[R]at i;obtain⟨base,O⟩:∃base,a.eval s=.slice base 0 0:=by
  generalize a.eval s=v at i;cases i with|cu _ _ hh=>cases hh with|dK b=>simp
 obtain⟨vs,E,B⟩:=B1 (P:=P) h.ob (h.ev x) H T ys.length (Yg _);rw[W7]at E;by_cases h0:ys.length=0
 ·have X:ys=[]:=YR.1 h0;subst X;have F:vs=[]:=YR.1 (by rw[E.len];simp)
  subst F;have z:=EL (P:=P) (w:=w) (a:=a) j (λ ty=>by rw[O];exact PN J (Ez y E B) (Yg _))
  unfold Oper.wp;rw[z,YT];obtain⟨ι',V,hι',A⟩:=h.void (ja u) U;exact Inv.goes hn A (λ x H=>qs H) (.fW id _ base hι') hd
 ·refine Jc (p:=true) (rs:=[]) (us:=[]) j (by simp_all) h hd u (.inl rfl) J y O Flat.nil ⟨λ _=>rfl,λ w' _=>yq (by simp) (.inl ⟨_,_,_,rfl⟩) w'⟩ E B (by omega) (by simp_all)
theorem Tf{q:Bool×List (List AV)×bL}{sz k:Nat}(O:o.op=.call {callee:=.builtin .append,args:=#[s,x],argTypes:=#[t,tx]})
 (hn:gK C un id o f (.bf id sz) [(id,some (.rows (p&&q.1) (rs++q.2.1))),(k,none)] next) (h:Inv C S ι un f a w) (hd:∀d,o.dst=some d→C.N.lo≤d∧d<C.N.n) (B:∀x,id≤x→x<id+W→un x)
 (hs:(ig C.G f.g) s=.bf k z) (hzz:z=sz) (ho:f.os k=some (.rows p rs)) (hx:dG f.os ((ig C.G f.g) x)=some q) (ht:eN P t=some sz) (R:je P tx=true) (hr:∀r∈q.2.1,r.length=sz)
 (pO:∀r∈rs,r.length=sz) (H:rs.length+q.2.1.length≤bI):o.wp P a w next Q:=by
 obtain⟨qp,ys,ro⟩:=q;simp only at*;have X:=h.ev s;rw[hs]at X;obtain⟨vs,hG,T⟩:=B1 (P:=P) h.ob (h.ev x) hx hr ys.length (Yg _);rw[W7]at hG;obtain⟨us,hF,Hd⟩:=B1 (P:=P) h.ob X (Zpp ho) pO rs.length (Yg _);rw[W7]at hF;have E:∀base cap,ys=[]→a.eval s=.slice base rs.length cap→rs.length≤cap→(execOp a.eval o).run P w=.ok (.value (.slice base rs.length cap)) w:=by
  intro base cap Y Z hc;subst Y;have G4:vs=[]:=YR.1 (by rw[hG.len];simp)
  subst G4;exact EL (P:=P) (w:=w) (a:=a) O (λ ty=>by rw[Z];exact PN ht (Ez R hG T) hc)
 rcases kZ X with ⟨l,ad,cap,e,Z,h1,h2,h3,QY,ha⟩|⟨e,base,Z⟩
 ·have V:rs.length=l.eA:=by
   rcases h.ob k _ ho with ⟨y,_⟩|⟨l',bc,y,V,_⟩
   ·simp_all
   ·simp_all
  rw[←V]at Z h1 h3;by_cases h0:ys.length=0
  ·have Y:ys=[]:=YR.1 h0;have J:=E _ _ Y Z h1;subst Y;unfold Oper.wp;rw[J,YT];rcases h.ob k _ ho with ⟨y,_⟩|⟨l',bc,y,Bx,hm,eY,M⟩
   ·simp_all
   ·rw[e]at y;injection y with y;injection y with y;subst y;obtain⟨ι',hle,hι',F⟩:=h.move (id:=id) (ja B) (q:=k) (x:=.rows p rs) (x':=.rows (p&&qp) (rs++[])) (l:=l) (l':=l) ho rfl e (λ _ h=>by have:=iY rfl h;exact .inl this) (λ ι' hle hι'=>by
     refine .inr ⟨l,bc,hι',by simp_all,hm,by simp_all,?_⟩
     intro i r Lh;rw[YI]at Lh;have h5:dQ p S w ι r (bc i):=M i r Lh;exact(h5.mono (λ _ x=>x) (λ _ _=>rfl) hle).qZ (λ e=>by simp_all))
    refine Inv.goes hn F (λ x hx=>qs hx) ?_ hd;have:=cz.bf (S:=S) (w:=w) id z cap ad l hι' (by omega) h2 (by omega) QY ha
    simp_all
  ·by_cases A:rs.length+ys.length≤cap
   ·have xr:=ha (by omega)
    subst xr;rcases h.ob k _ ho with ⟨y,_⟩|⟨l',bc,y,Bx,hm,eY,M⟩
    ·simp_all
    ·rw[e]at y;injection y with y;injection y with y;subst y;obtain⟨el,i,z,qA,hi,hz,hb,fg,qw⟩:=td ht;have U:Flat qp S w ι l.bX ys vs∧i.size=l.bX:=by
      by_cases nU:rs=[]
      ·grind
      ·obtain⟨r,rG⟩:=V4 _ nU;obtain⟨j,hj⟩:=WM rG;have h6:r.length=l.bX:=by
        have:=(M.get hj).1;have:=eY.2.1 j (fD hj);omega
       simp_all
     obtain⟨U,G'⟩:=U;have rB:l.base+rs.length*l.bX+vs.length≤l.size:=by
      have:(rs.length+ys.length)*l.bX≤cap*l.bX:=YK _ A;rw[Wg]at this;rw[U.len];omega
     refine Z9 hn h hd B ho e U A h2 H (λ h=>by omega) (EL O (λ ty=>?_))
     rw[Z];have Hb:sz=l.bX:=by omega
     subst Hb;have:=run_append_room_src (P:=P) w t tx ty el i qA hi l.bB l.base rs.length cap (a.eval x) ys.length vs (by rw[G'];exact Ez R hG T) A (λ j hj=>by
      obtain⟨u,hu⟩:=(hm (l.base+rs.length*i.size+j)).1 (by grind)
      simp_all) (λ j hj=>(hm (l.base+rs.length*i.size+j)).2 (.inl (by grind)))
     simp_all
   ·exact Jc O hn h hd B (.inr ⟨k,rfl⟩) ht R Z hF (by simp_all) hG T (by omega) H
 ·have nU:rs=[]:=by
   rcases h.ob k _ ho with ⟨_,h⟩|⟨l',bc,y,_⟩
   ·exact h
   ·simp_all
  subst nU;by_cases h0:ys.length=0
  ·have Y:ys=[]:=YR.1 h0;have J:=E base 0 Y (by omega) (by simp)
   subst Y;unfold Oper.wp;rw[J,YT];obtain⟨ι',hle,hι',F⟩:=(h.del k).void (ja B) (p&&qp);exact Inv.goes hn F (λ x hx=>qs hx) (.fW id _ base hι') hd
  ·exact Jc (sCap:=0) O hn h hd B (.inr ⟨k,rfl⟩) ht R (by omega) hF (by simp_all) hG T (by omega) H
end
end
section
variable {cs:List AV}{sz:Nat}{t:TypeId}
section
variable {C:Cx}{S:Nat→Prop}{w:World}{ι:bp}{P:Program}{un:Nat→Prop}{f:FS}{a:Act}{id:Nat}{o:Oper}
 {next:Act→World→Prop} {Q:Exit→Act→World→Prop}
theorem Inv.lu(h:Inv C S ι un f a w){x:Option Operand}{d n:Nat}(o:gg (ig C.G f.g) x d n):kU (x.map a.eval) d n:=by
 cases x with
 |none=>exact o
 |some x=>
  obtain⟨k,i,e,h0,h1⟩:=o;have j:=h.ev x;rw[e]at j;exact⟨k,i,j.bU,h0,h1⟩
theorem Zlh{x:AV}{v:Value}(i:lv x=some cs)(h:cE S w x v):cy S w cs v.cells.toList∧cs.all kp=true:=by
 have one:∀y,lv y=some [y]→kp y=true→y=x→cy S w cs v.cells.toList∧cs.all kp=true:=by
  intro y e E B;subst B;rw[e]at i;injection i with i;subst i;refine⟨?_,by simp[E]⟩
  have F:=h.cell E;have:v.cells.toList=[v]:=by cases v<;>simp[Value.oneCell']at F<;>simp[Value.cells]
  rw[this];refine⟨rfl,λ j x u A C=>?_⟩;have:j=0:=by have:=fD A;simp at this;omega
  subst this;simp only[Yv,Y5]at A C;subst A;subst C;exact h
 cases x with
 |agg ds=>
  simp only[lv]at i;split at i
  ·rename_i q;injection i with i;subst i;cases h with
   |agg _ vs hl h=>exact⟨⟨by simpa[Value.cells]using hl,λ j x v a b=>h j x v a (by simpa[Value.cells]using b)⟩,q⟩
  grind
 |cx _=>simp[lv]at i
 |undef=>simp[lv]at i
 |eR p=>simp[lv]at i
 |int k n=>exact one _ rfl rfl rfl
 |bool b=>exact one _ rfl rfl rfl
 |str s=>exact one _ rfl rfl rfl
 |dK=>exact one _ rfl rfl rfl
 |sl xs=>exact one _ rfl rfl rfl
 |rp r o=>exact one _ rfl rfl rfl
 |fn f c=>exact one _ rfl rfl rfl
 |eT v=>exact one _ rfl rfl rfl
 |ptr o r c=>exact one _ rfl rfl rfl
 |fp o a b c=>exact one _ rfl rfl rfl
 |bf o z=>exact one _ rfl rfl rfl
 |bm o=>exact one _ rfl rfl rfl
theorem Nf{n:Nat}:∀(m j:Nat) (l:List Value),l.length=n→j<m*n→(List.replicate m l).flatten[j]? =l[j% n]? :=by
 intro m;induction m with
 |zero=>omega
 |succ m ih=>
  intro j l i h;rw[List.replicate_succ,Wu];by_cases hj:j<n
  ·rw[Yt (by omega),WE hj]
  ·rw[Yl (by omega),ih (j-l.length) l i (by grind),i,←Nat.mod_eq_sub_mod (by omega)]
theorem E6(z:Array Value)(m:Nat):(madeCells z (m*z.size)).toList=(List.replicate m z.toList).flatten:=by
 apply U3;intro j;by_cases hj:j<m*z.size
 ·rw[Nf m j z.toList (by simp) hj]
  have o:0<z.size:=by
   rcases VW z.size with h|h
   ·simp_all
   ·exact h
  have i:j% z.size<z.size:=Nat.mod_lt _ o;simp[madeCells,hj,i]
 ·rw[Wn (by simp[madeCells];omega),Wn (by simp;omega)]
theorem Co{p:List AV}(o:gP P t=some p)(h:eN P t=some sz):
 ∃e i z,P.underlying t=some (.slice e)∧P.info? e=some i∧i.zero=some z∧i.bytes≤131072∧i.size=sz∧z.cells.size=sz∧p.length=sz∧cy S w p z.cells.toList∧p.all kp=true:=by
 obtain⟨e,i,z,x,y,j,B,q,u⟩:=td h;unfold gP at o;rw[x]at o;simp only[iM,y,j]at o;obtain⟨h1,A⟩:=Zlh (S:=S) (w:=w) o (uP z);exact⟨e,i,z,x,y,j,B,q,u,by rw[h1.1];omega,h1,A⟩
theorem I6{i:List AV}{o:List Value}(h:cy S w i o):∀n:Nat,cy S w (List.replicate n i).flatten (List.replicate n o).flatten:=by
 intro n;induction n with
 |zero=>exact⟨rfl,λ j x v h=>by simp at h⟩
 |succ n ih=>rw[List.replicate_succ,List.replicate_succ,Wu,Wu];exact h.append ih
theorem Jn{vs:List Value}(h:cy S w cs vs)(i:cs.all kp=true):∀v∈vs,v.oneCell'=true:=
 wx (ι:=λ _=>none) h.rep i
theorem AP{l c:Operand}{k k':IntKind}{n m:Int}{z:List AV}(F:o.op=.makeSlice t l c)(hn:gK C un id o f (.bf id sz) [(id,some (.rows true (List.replicate n.toNat z)))] next)
 (h:Inv C S ι un f a w) (hd:∀d,o.dst=some d→C.N.lo≤d∧d<C.N.n) (H:∀x,id≤x→x<id+W→un x) (V:ig C.G f.g l=.int k n) (hc:ig C.G f.g c=.int k' m) (h0:0≤n) (h1:n≤m) (h2:m≤bI)
 (Y:eN P t=some sz) (hz:gP P t=some z):o.wp P a w next Q:=by
 obtain⟨e,i,E,R,X,M,hb,J,q,ua,A,O⟩:=Co (S:=S) (w:=w) hz Y;have p:=h.ev l;have y:=h.ev c;rw[V]at p;rw[hc]at y;have U:(i.bytes:Int)*m≤281474976710656:=by
  have:=Nat.mul_le_mul hb (show m.toNat≤bI by omega)
  have e1:((i.bytes*m.toNat:Nat):Int)≤((131072*bI:Nat):Int):=by exact_mod_cast this
  rw[Uj,Vt (by omega)]at e1
  simp only[bI]at e1;omega
 have u:=run_make (P:=P) w t e i E R X M k k' n m h0 h1 U (by simp only[bI]at h2;omega)
 subst J;have Z:Flat true S w ι i.size (List.replicate n.toNat z) (List.replicate n.toNat E.cells.toList).flatten:=by
  refine⟨λ r hr=>by simp_all,by simp[q],λ v B=>?_,?_⟩
  ·obtain⟨l',T,B⟩:=List.mem_flatten.1 B;rw[VX T]at B;exact Jn A O v B
  ·simp only[dQ,Yz];exact I6 A _
 refine EZ hn h hd H (.inl rfl) Z (cells:=madeCells E.cells (m.toNat*i.size)) (rest:=(List.replicate (m.toNat-n.toNat) E.cells.toList).flatten) (cap:=m.toNat) (e:=e) (w1:=w) (fr:=(0,0)) ?_ (by grind)
  (by simp[madeCells]) (by grind) (λ _=>rfl) (.inl rfl) ?_ (λ j _ h=>by simp at h)
 ·rw[←q,E6,←List.flatten_append,List.replicate_append_replicate];grind
 ·unfold execOp;rw[F];simp only[p.bU,y.bU,Yc,u,Y6,Yd,List.length_replicate]
theorem Nt(n:Nat):∀(k:Nat) (cs:List AV),cs.length=k*n→(chunk n k cs).flatten=cs∧(∀r,r∈chunk n k cs→r.length=n)∧(chunk n k cs).length=k:=by
 intro k;induction k with
 |zero=>intro cs h;simp[chunk];simp_all
 |succ k ih=>
  intro cs h;rw[Wg,Nat.one_mul]at h;obtain⟨h1,h2,j⟩:=ih (cs.drop n) (by grind)
  refine⟨by simp[chunk,h1],λ r i=>?_,by simp[chunk,j]⟩
  rcases Yr.1 i with rfl|i
  all_goals simp_all
theorem Tj{len:Nat}{parts:Array (Nat×Operand)}{z:List AV}(F:o.op=.buildSlice t len parts)
 (h:Inv C S ι un f a w) (V:eN P t=some sz) (X:gP P t=some z) (U:len*sz≤16777216)
 (iG:cs.length=len*sz) (T:cs.all kp=true)
 (Z:fZ (ig C.G f.g) (λ i=>some (i*sz,sz)) parts.toList (List.replicate len z).flatten=some cs):
 ∃p e,bA S w ι cs p.toList∧True∧(execOp a.eval o).run P w=.ok (.value (.slice (some ⟨w.heap.size,0,none⟩) len len)) (w.alloc (.cells p e (0,0))):=by
 obtain⟨e,i,u,E,J,M,hb,H,O,ua,R,AZ⟩:=Co (S:=S) (w:=w) X V;subst H;have y:bA S w ι (List.replicate len z).flatten (madeCells u.cells (len*i.size)).toList:=by
  rw[←O,E6];exact(I6 R len).rep
 obtain⟨p,h1,Y⟩:=EG (λ x=>h.ev x) (λ j=>some (j*i.size,i.size)) parts.toList _ (madeCells u.cells (len*i.size)) cs y Z;refine⟨p,e,Y,trivial,?_⟩
 unfold execOp;rw[F];have B:(parts.map λ(i,x)=>(i,a.eval x)).toList=parts.toList.map λ x=>(x.1,a.eval x.2):=by simp
 have A:¬(len*i.size>2^24):=by simp;omega
 by_cases h0:len*i.size=0
 ·have Q:(Array.range (len*i.size)).map (λ x=>(#[]:Array Value)[x% (#[]:Array Value).size]!)=madeCells u.cells (len*i.size):=by simp[h0,madeCells,Array.range_zero']
  simp only[Instr.buildSlice,Yc,Yb E,Y6,sy J,if_neg A,if_pos h0,Yd,Q,B,h1,newRow,Vk,World.alloc]
 ·have q:(zeroValue e).run P w=.ok u w:=by simp[zeroValue,typeInfo,J,M]
  have Q:(Array.range (len*i.size)).map (λ x=>u.cells[x% u.cells.size]!)=madeCells u.cells (len*i.size):=rfl;simp only[Instr.buildSlice,Yc,Yb E,Y6,sy J,if_neg A,if_neg h0,Yd,q,Q,B,h1,newRow,Vk,World.alloc]
theorem Ur{len:Nat}{parts:Array (Nat×Operand)}{z:List AV}(O:o.op=.buildSlice t len parts)
 (hn:gK C un id o f (.bf id sz) [(id,some (.rows (cs.all iy) (chunk sz len cs)))] next)
 (h:Inv C S ι un f a w) (hd:∀d,o.dst=some d→C.N.lo≤d∧d<C.N.n) (q:∀x,id≤x→x<id+W→un x) (ht:eN P t=some sz) (hz:gP P t=some z) (cS:len*sz≤16777216) (Z:len≤bI)
 (J:cs.length=len*sz) (F:cs.all kp=true)
 (hf:fZ (ig C.G f.g) (λ i=>some (i*sz,sz)) parts.toList (List.replicate len z).flatten=some cs):o.wp P a w next Q:=by
 obtain⟨e,i,y,M,T,U,hb,R,V,ua,Y,AZ⟩:=Co (S:=S) (w:=w) hz ht;subst R;have A:bA S w ι (List.replicate len z).flatten (madeCells y.cells (len*i.size)).toList:=by
  rw[←V,E6];exact(I6 Y len).rep
 obtain⟨p,h1,E⟩:=EG (λ x=>h.ev x) (λ j=>some (j*i.size,i.size)) parts.toList _ (madeCells y.cells (len*i.size)) cs A hf;obtain⟨c1,c2,c3⟩:=Nt i.size len cs J
 have hF:Flat (cs.all iy) S w ι i.size (chunk i.size len cs) p.toList:=by
  refine⟨c2,by rw[←E.1,J,c3],wx E F,?_⟩
  rw[c1];cases q:cs.all iy
  ·simpa[dQ]using E
  ·simpa[dQ]using E.free q
 have sU:p.size=len*i.size:=by have:=E.1;simp only[WA]at this;omega
 refine EZ hn h hd q (.inl rfl) hF (cells:=p) (rest:=[]) (cap:=len) (e:=e) (w1:=w) (fr:=(0,0)) (by simp) (by omega) (by omega) (by omega) (λ _=>rfl) (.inl rfl) ?_ (λ j _ h=>by simp at h)
 unfold execOp;rw[O];rw[c3];have H:(parts.map λ(i,x)=>(i,a.eval x)).toList=parts.toList.map λ x=>(x.1,a.eval x.2):=by simp
 have B:¬(len*i.size>2^24):=by simp;omega
 by_cases h0:len*i.size=0
 ·have X:(Array.range (len*i.size)).map (λ x=>(#[]:Array Value)[x% (#[]:Array Value).size]!)=madeCells y.cells (len*i.size):=by simp[h0,madeCells,Array.range_zero']
  simp only[Instr.buildSlice,Yc,Yb M,Y6,sy T,if_neg B,if_pos h0,Yd,X,H,h1,newRow,Vk,World.alloc]
 ·have u:(zeroValue e).run P w=.ok y w:=by simp[zeroValue,typeInfo,T,U]
  have X:(Array.range (len*i.size)).map (λ x=>y.cells[x% y.cells.size]!)=madeCells y.cells (len*i.size):=rfl;simp only[Instr.buildSlice,Yc,Yb M,Y6,sy T,if_neg B,if_neg h0,Yd,u,X,H,h1,newRow,Vk,World.alloc]
theorem uR{x:Operand}{lo i mx:Option Operand}{v:Value}(j:o.op=.slice t x lo i mx)
 (h:(Instr.sliceAt t (a.eval x) (lo.map a.eval) (i.map a.eval) (mx.map a.eval)).run P w=.ok v w):(execOp a.eval o).run P w=.ok (.value v) w:=by
 unfold execOp;simp_all
theorem OX{s d:TypeId}(h:sY P s d=true):∃e,P.underlying s=some .string∧P.underlying d=some (.slice e)∧P.underlying e=some (.int .u8):=by
 unfold sY at h;grind
theorem N3(l:aj):(gY l).flatten=l.map λ b=>AV.int .u8 b.toNat:=by
 unfold gY;induction l with
 |nil=>rfl
 |cons b m ih=>simp[ih]
theorem ZpF(l:aj):Flat true S w ι 1 (gY l) (l.map λ b=>Value.int .u8 b.toNat):=by
 refine⟨λ r o=>by obtain⟨b,_,rfl⟩:=W0.1 o;rfl,by simp[gY],λ v p=>by obtain⟨b,_,rfl⟩:=W0.1 p;rfl,?_⟩
 rw[N3];simp only[dQ,Yz];refine⟨by simp,λ j x v h1 i=>?_⟩
 rw[YD,Yq]at h1 i;obtain⟨b,h1,rfl⟩:=h1;obtain⟨b',i,rfl⟩:=i;rw[h1]at i;injection i with i;subst i;exact .int _ _
theorem Zo5{s d:TypeId}{x:Operand}{l:aj}(q:o.op=.convert s d x)(hn:gK C un id o f (.bf id 1) [(id,some (.rows true (gY l)))] next)
 (h:Inv C S ι un f a w) (hd:∀d,o.dst=some d→C.N.lo≤d∧d<C.N.n) (u:∀x,id≤x→x<id+W→un x) (E:ig C.G f.g x=.str l) (A:sY P s d=true) (H:l.length≤bI):o.wp P a w next Q:=by
 obtain⟨e,h1,F,B⟩:=OX A;have z:=h.ev x;rw[E]at z;have p:(⟨l.toArray⟩:ByteArray).size=l.length:=by show l.toArray.size=_;simp
 have i:=run_bytes_of_string (P:=P) w s d e ⟨l.toArray⟩ h1 F B;rw[p]at i;have y:=grownCap_ge w l.length 0 e;refine EZ hn h hd u (.inl rfl) (ZpF l) (cells:=bytesRow ⟨l.toArray⟩ (grownCap w l.length 0 e)) (rest:=List.replicate (grownCap w l.length 0 e-l.length) (.int .u8 0)) (cap:=grownCap w l.length 0 e) (e:=e) (w1:=w.drew)
  (fr:=((bytesRow ⟨l.toArray⟩ (grownCap w l.length 0 e)).size,(bytesRow ⟨l.toArray⟩ (grownCap w l.length 0 e)).size+1)) ?_ (by simpa[gY]using y) ?_ (by simpa[gY]using H) (λ _=>rfl) (.inr rfl) ?_ (λ j hj h=>by omega)
 ·simp[bytesRow,p]
 ·simp[bytesRow,p];omega
 ·unfold execOp;rw[q];simp only[z.dk,Yc,i,Y6,Yd,gY,Ya]
theorem Zx{s d:TypeId}{x:Operand}{l:aj}{q:Bool×List (List AV)×bL}(E:o.op=.convert s d x)(hn:gK C un id o f (.str l) [] next)
 (h:Inv C S ι un f a w) (hd:∀d,o.dst=some d→C.N.lo≤d∧d<C.N.n) (A:dG f.os (ig C.G f.g x)=some q) (U:q.2.1=gY l) (X:sY P d s=true) (J:∀l,ig C.G f.g x≠.str l):o.wp P a w next Q:=by
 obtain⟨e,h1,Y,Z⟩:=OX X;obtain⟨qp,ys,ro⟩:=q;simp only at U;subst U;have B:=h.ev x;have p:(gY l).length=l.length:=by simp[gY]
 obtain⟨us,V,R⟩:=B1 (P:=P) h.ob B A (λ r y=>by obtain⟨b,_,rfl⟩:=W0.1 y;rfl) l.length (by omega)
 rw[←p,W7]at V;have O:us=l.map λ b=>Value.int .u8 b.toNat:=by
  have y:=V.rep.rep;rw[N3]at y;apply U3;intro j;have M:=y.1;simp only[Ya]at M;by_cases hj:j<l.length
  ·have T:us[j]? =some us[j]:=Y3 (by omega)
   have:=y.2 j (.int .u8 l[j].toNat) us[j] (by simp[hj]) T
   rw[T,this.bU];simp[hj]
  ·simp_all
 obtain⟨ad,len,cap,z⟩:∃ad len cap,a.eval x=.slice ad len cap:=by
  generalize a.eval x=v' at B;generalize ig C.G f.g x=xv at B A J;cases B with
  |cu _ _ hh=>
   cases hh with
   |dK=>simp
   |gG=>simp
   |sl=>simp
   |str s=>simp_all
   |_=>simp[dG]at A
  |fp=>simp
  |bf=>simp
  |fW=>simp
  |jg=>simp
  |_=>simp[dG]at A
 have u:len=l.length:=by
  have:=R.len w;rw[z,p]at this;simpa[Builtin.lenOf]using this
 subst u;have i:=R.cells w rfl;rw[z,O]at i;refine im hn h hd (v':=.string ⟨l.toArray⟩) ?_ (.cu _ _ (.jK _));unfold execOp;rw[E];have F:(convert s d (.slice ad l.length cap)).run P w=.ok (.string ⟨l.toArray⟩) w:=by
  rw[run_convert_bytes_string w s d e ad l.length cap Y Z h1];cases ad with
  |none=>
   have:l=[]:=by
    simp only[Builtin.firstCells,Yd,VS]at i;have:=YU Array.size i.1;simp at this;exact YR.1 this.symm
   subst this;rfl
  |some ad=>
   have H:(loadCells ad l.length).run P w=.ok ((l.map (λ b=>(b.toNat:Int))).map (Value.int .u8)).toArray w:=by
    have:(Builtin.firstCells 1 l.length (.slice (some ad) l.length cap))=loadCells ad (l.length*1):=rfl;rw[this,Nat.mul_one]at i;rw[i,Wa];rfl
   rw[run_bytesToString w ad l.length cap (l.map λ b=>(b.toNat:Int)) H,foldl_push_byteCells];simp
 simp_all
theorem M8{ob off len room x y:Nat}{v:Value}(p:∃l ad cap,ι ob=some (some l)∧v=.slice (some ad) len cap∧len≤room∧room≤cap∧l.base+(off+cap)*l.bX≤l.size∧len≤bI∧off+room≤l.eA∧
 (cap≠0→ad=⟨l.bB,l.base+off*l.bX,none⟩)∧(x≠0→sz=l.bX)) (h1:x≤y) (h2:y≤len):
 ∃ad i cap,v=.slice ad i cap∧i=len∧len≤cap∧cz S w ι (.fp ob (off+x) (y-x) (room-x)) (.slice (if cap=x then ad else ad.map (·.add (x*sz))) (y-x) (cap-x)):=by
 obtain⟨l,ad,cap,e,rfl,h3,h4,h5,h6,h7,q,hs⟩:=p;refine⟨some ad,len,cap,rfl,rfl,by omega,?_⟩
 have j:(off+x+(cap-x))*l.bX=(off+cap)*l.bX:=by congr 1;omega
 split
 ·rename_i o;exact .fp ob (off+x) (y-x) (room-x) (cap-x) ad l e (by omega) (by omega) (by omega) (by omega) (by omega) (λ h=>by omega)
 ·rename_i o;refine .fp ob (off+x) (y-x) (room-x) (cap-x) (ad.add (x*sz)) l e (by omega) (by omega) (by omega) (by omega) (by omega) (λ h=>?_)
  rw[q (by omega),xS,Wg]
  grind
theorem Inv.tM(h:Inv C S ι un f a w){q:Nat}{p p':Bool}{es zh:List (AV×AV)}(V:f.os q=some (.bm p es)){l:Loc}(H:ι q=some (some l)){fF:Array MapEntry}{cK:Nat}
 (U:fF.size≤bI) (hm:gA S w {w with heap:=w.heap.setIfInBounds l.bB (.map fF cK)}→jH p' S {w with heap:=w.heap.setIfInBounds l.bB (.map fF cK)} ι zh fF.toList):
 Inv C S ι un {f with os:=bw f.os [(q,some (.bm p' zh))]} a {w with heap:=w.heap.setIfInBounds l.bB (.map fF cK)}:=by
 obtain⟨hO,hS,iU⟩:=h.own q _ V rfl l H _ (.inl rfl);have j:∀b,b≠l.bB→(w.heap.setIfInBounds l.bB (Obj.map fF cK))[b]? =w.heap[b]? :=λ b z=>V6 (λ e=>z e.symm);have Z:gA S w {w with heap:=w.heap.setIfInBounds l.bB (.map fF cK)}:=λ b z=>j b (λ e=>hS (e▸z))
 have A:∀o' y,f.os o'=some y→y.live=true→o'≠q→∀l',ι o'=some (some l')→∀b,c6 w y l' b→(w.heap.setIfInBounds l.bB (Obj.map fF cK))[b]? =w.heap[b]? :=λ o' y B J e l' i b z=>
  j b (λ eb=>e (h.inj o' q y _ B V J rfl l' l i H b z (.inl eb)))
 refine h.iC (λ _ x=>x) Z (bp.le_refl _) ?_ ?_ ?_ (λ b z=>by simpa using h.sb b z) h.sn h.un ?_
 ·intro o' y B;simp only[bw]at B;by_cases e:o'=q
  ·subst e;simp only[Yz,Y5]at B;subst B;exact⟨l,fF,cK,H,by simp[iU],hm Z,U⟩
  ·simp only[e,Ym]at B;exact(h.ob o' y B).mono (λ _ x=>x) Z (bp.le_refl _) (λ l' i uc b z=>j _ (λ eb=>e (h.inj o' q y _ B V uc rfl l' l i H b z (.inl eb))))
 ·intro o' y B J l' i b z;simp only[bw]at B;have:(w.heap.setIfInBounds l.bB (Obj.map fF cK)).size=w.heap.size:=by simp
  by_cases e:o'=q
  ·subst e;rw[H]at i;injection i with i;injection i with i;subst i;simp only[Yz,Y5]at B;subst B;rw[iY rfl z];simp_all
  ·simp only[e,Ym]at B;have:=h.own o' y B J l' i b (ft (A o' y B J e l' i) z);simp_all
 ·intro R Q Y X o u F M l1 l2 e1 E b z O;simp only[bw]at o u;by_cases e:R=q<;>by_cases T:Q=q
  ·rw[e,T]
  ·subst e;simp only[T,Ym]at u;simp only[Yz,Y5]at o;subst o;rw[H]at e1;injection e1 with e1;injection e1 with e1;subst e1;exact h.inj R Q _ X V u rfl M l l2 H E b (.inl (iY rfl z)) (ft (A Q X u M T l2 E) O)
  ·subst T;simp only[e,Ym]at o;simp only[Yz,Y5]at u;subst u;rw[H]at E;injection E with E;injection E with E;subst E;exact h.inj R Q Y _ o V F rfl l1 l e1 H b (ft (A R Y o F e l1 e1) z) (.inl (iY rfl O))
  ·simp only[e,T,Ym]at o u;exact h.inj R Q Y X o u F M l1 l2 e1 E b (ft (A R Y o F e l1 e1) z) (ft (A Q X u M T l2 E) O)
 ·refine⟨h.fr.os,h.fr.output,by simpa using h.fr.size,λ b z hn=>?_⟩
  have:=j b (λ e=>hn (by simp_all))
  simp only;rw[this];exact h.fr.old b z hn
theorem jH.mono{S':Nat→Prop}{w':World}{ι':bp}(j:∀b,S b→S' b)(o:gA S w w')(hι:ι.le ι'){es:List (AV×AV)}{xs:List MapEntry}{p:Bool}(h:jH p S w ι es xs):jH p S' w' ι' es xs:=
 ⟨h.1,λ i e x a b=>⟨(h.2 i e x a b).1.mono j o,(h.2 i e x a b).2.1.mono j o hι,λ q=>((h.2 i e x a b).2.2 q).mono j o⟩⟩
theorem qh{kt:TypeId}{k:AV}{u:Value}(h:dT P kt k=true)(j:cz S w ι k u):
 cE S w k u∧(∀e,(Instr.checkKey e 10000 kt u).run P w=.ok () w)∧(∃d,P.underlying kt=some d)∧Instr.sameBits 10000 u u=true:=by
 unfold dT at h;split at h
 ·rename_i q a b i;rw[j.bU];exact⟨.int _ _,λ e=>Ix i,⟨_,i⟩,IG _ _ _⟩
 ·rename_i l i;rw[j.dk];exact⟨.jK _,λ e=>Tt i,⟨_,i⟩,L9 _ _⟩
 ·rename_i b i;rw[j.dJ];exact⟨.bool _,λ e=>Tl i,⟨_,i⟩,MJ _ _⟩
 ·rename_i fs q a r b i;have o:=sk j;rw[o]at j⊢;refine⟨?_,λ e=>Tn h,⟨_,i⟩,MK _ _ _ _⟩;exact j.rX rfl
 ·cases h
theorem O5{kt:TypeId}{k:AV}:∀(es:List (AV×AV)) (i:Nat) (r:Option Nat),gM P kt k es i r→∀j,r=some j→i≤j∧∃e,es[j-i]? =some e∧dE P kt k e.1=some true:=by
 intro es;induction es with
 |nil=>intro i r h j e;simp only[gM]at h;simp_all
 |cons x es ih=>
  intro i r h j e;simp only[gM]at h;grind
theorem mF{r:Nat}{es:Array MapEntry}{i:Nat}(j:w.heap[r]? =some (.map es i)):(getObj r).run P w=.ok (.map es i) w:=by
 simp[getObj,Sem.run,j]
theorem uY{r:Nat}{es:Array MapEntry}{i:Nat}(ob:Obj)(j:w.heap[r]? =some (.map es i)):(setObj r ob).run P w=.ok () {w with heap:=w.heap.setIfInBounds r ob}:=by
 simp[setObj,Sem.run,j]
theorem X0{op:Op}{v:AV}{U:List (Nat×Option AO)}{RO:bL}(B:o.op=op)(h:Inv C S ι un f a w)
 (iE:ey P (ig C.G f.g) f.os id op v U RO) (hid:∀x,id≤x→x<id+W→un x) (hd:∀d,o.dst=some d→C.N.lo≤d∧d<C.N.n) (hn:gK C un id o f v U next):o.wp P a w next Q:=by
 cases iE with
 |oC t x lo hi l x1 x2 F A ha hb jG gL=>
  have R:=h.ev x;rw[F]at R;refine im hn h hd (uR B ?_) (.cu _ _ (.jK _));rw[R.dk];exact Zp7 A (h.lu ha) (h.lu hb) jG gL
 |tL t x lo hi xs x1 x2 sz F A hl ha hb jG gL=>
  have R:=h.ev x;rw[F]at R;obtain⟨e,i,z,Z,hi,T,Ef,fg,qw⟩:=td A;obtain⟨ad,len,cap,E⟩:∃ad len cap,a.eval x=.slice ad len cap:=by
   generalize a.eval x=v' at R;cases R with|cu _ _ hh=>cases hh<;>exact⟨_,_,_,rfl⟩
  rw[E]at R;obtain⟨h1,J,h3⟩:=Ut R hl jG gL;refine im hn h hd (uR B ?_) h3;rw[E];exact xP Z hi fg (h.lu ha) (by rw[h1];exact h.lu hb) jG (by omega)
 |mi t x lo hh m k k' q sz hs F A ha RU Rw=>
  have R:=h.ev x;have h1:=h.ev hh;have J:=h.ev m;rw[RU]at h1;rw[Rw]at J;obtain⟨e,i,z,Z,hi,T,Ef,fg,qw⟩:=td A;obtain⟨ad,len,cap,E⟩:∃ad len cap,a.eval x=.slice ad len cap:=by
   generalize a.eval x=v' at R;generalize ig C.G f.g x=xv at R F hs;cases R with
   |cu _ _ hh=>
    cases hh with
    |dK=>simp
    |gG=>simp
    |sl=>simp
    |str s=>simp_all
    |_=>simp[dG]at F
   |fp=>simp
   |bf=>simp
   |fW=>simp
   |jg=>simp
   |_=>simp[dG]at F
  refine im hn h hd (uR B (v:=.slice ad 0 0) ?_) (.cu _ _ (.dK _));have:=Zo7 (w:=w) (len:=len) (cap:=cap) (ad:=ad) (k:=k) (k':=k') Z hi fg (h.lu ha);rw[E];simp only[YE,h1.bU,J.bU];exact this
 |oD t x lo hi ob z0 x1 x2 sz y rs F ho hy hr A ha hb jG gL=>
  have R:=h.ev x;rw[F]at R;obtain⟨e,i,z,Z,hi,T,Ef,fg,qw⟩:=td A;rcases zn (h.ob ob _ ho) hy with ⟨q,rfl⟩|⟨l,bc,q,fw,eY,du⟩
  ·rcases kZ R with ⟨l',ab,cap,V,_⟩|⟨V,ab,E⟩
   ·simp_all
   ·simp only[Yx]at gL hb;have J:x2=0:=by omega
    subst J;have h1:x1=0:=by omega
    subst h1;refine im hn h hd (uR B (v:=.slice ab 0 0) ?_) (.jg ob ab q);rw[E];have:=xP (w:=w) (ad:=ab) (len:=0) (cap:=0) Z hi fg (h.lu ha) (h.lu hb) (Yg _) (Yg _);simp_all
  ·rcases kZ R with ⟨l',ab,cap,V,E,g1,g2,g3,_,ga⟩|⟨V,ab,E⟩
   ·rw[q]at V;injection V with V;injection V with V;subst V;obtain⟨ad,GN,BS,e1,e2,e3,e4⟩:=M8 (S:=S) (w:=w) (ob:=ob) (off:=0) (room:=rs.length) (x:=x1) (y:=x2) (sz:=sz) (len:=rs.length) (v:=a.eval x)
     ⟨l,ab,cap,q,by simp_all,by omega,by omega,by simp_all,by omega,by omega,λ h=>by simp_all,λ iZ=>by
      have kd:x1-1<rs.length:=by omega
      have h5:=hr _ (Wz kd);have h6:=(du (x1-1) _ (Y3 kd)).1;have h7:=eY.2.1 (x1-1) kd;omega⟩ jG gL
    subst e2;rw[Wf]at e4;refine im hn h hd (uR B ?_) e4;rw[e1];exact xP Z hi fg (h.lu ha) (h.lu hb) jG (by omega)
   simp_all
 |uE t x hi ob z0 b rs F ho hr A hb gL=>
  have R:=h.ev x;rw[F]at R;obtain⟨e,i,z,Z,pS,T,Ef,fg,qw⟩:=td A;rcases h.ob ob _ ho with ⟨q,rfl⟩|⟨l,bc,q,fw,hm,eY,du⟩
  ·rcases kZ R with ⟨l',ab,cap,V,_⟩|⟨V,ab,E⟩
   ·simp_all
   ·simp only[Yx]at gL hb;have J:b=0:=by omega
    subst J;have u:=uR (P:=P) (w:=w) (a:=a) B (v:=.slice ab 0 0) (by
     rw[E];have:=xP (P:=P) (w:=w) (ad:=ab) (len:=0) (cap:=0) (a:=0) (b:=0) (lo:=none) Z pS fg rfl (h.lu hb) (Yg _) (Yg _);simp_all)
    unfold Oper.wp;rw[u,YT];obtain⟨ι',hle,hι',H⟩:=(h.del ob).void (ja hid) true;exact Inv.goes hn H (λ x F=>qs F) (.fW id _ ab hι') hd
  ·rcases kZ R with ⟨l',ab,cap,V,E,g1,g2,g3,gz,ga⟩|⟨V,ab,E⟩
   ·rw[q]at V;injection V with V;injection V with V;subst V;have u:=uR (P:=P) (w:=w) (a:=a) B (v:=.slice (some ab) b cap) (by
     rw[E];have:=xP (P:=P) (w:=w) (ad:=some ab) (len:=l.eA) (cap:=cap) (a:=0) (b:=b) (lo:=none) Z pS fg rfl (by rw[←fw];exact h.lu hb) (YL _) (by omega)
     refine Eq.trans (by rfl) (this.trans ?_)
     simp[Addr.add])
    unfold Oper.wp;rw[u,YT];obtain⟨ι',hle,hι',H⟩:=h.move (id:=id) (ja hid) (q:=ob) (x:=.rows true rs) (x':=.rows true (rs.take b)) (l:=l) (l':=⟨l.bB,l.base,l.bX,l.size,b⟩) ho rfl q
     (λ _ h=>by have:=iY rfl h;exact .inl this) (λ ι' hle hι'=>by
     have Q8:(rs.take b).length=b:=by simp[gL]
     have Br:b*l.bX≤rs.length*l.bX:=YK _ gL;refine .inr ⟨_,bc,hι',Q8,hm,⟨by have:=eY.1;grind,λ i hi=>eY.2.1 i (by omega),λ i j v hi R=>eY.2.2 i j v (by omega) R⟩,λ i r hr=>?_⟩
     rw[Ww]at hr;split at hr
     ·exact du i r hr
     grind)
    have yT:cz S w ι' (.bf id z0) (.slice (some ab) b cap):=by
     refine .bf id z0 cap ab ⟨l.bB,l.base,l.bX,l.size,b⟩ hι' (by grind) g2 (by grind) (λ h0 hc=>?_) ga
     by_cases yU:l.eA=0
     ·simp_all
     ·obtain⟨r,rG⟩:∃r,rs[0]? =some r:=⟨_,Y3 (by omega)⟩
      have h1:=eY.2.1 0 (by omega)
      have J:=(du.get rG).1;grind
    exact Inv.goes hn H (λ x F=>qs F) yT hd
   simp_all
 |oE t x lo hi ob off len room x1 x2 sz y rs F ho hy hr A ha hb jG gL ux=>
  have R:=h.ev x;rw[F]at R;obtain⟨e,i,z,Z,hi,T,Ef,fg,qw⟩:=td A;rcases xI R with ⟨l',ab,cap,V,E,g1,g2,g3,g4,g5,ga⟩|⟨V,rfl,rfl,rfl,ab,E⟩
  ·rcases zn (h.ob ob _ ho) hy with ⟨q,rfl⟩|⟨l,bc,q,fw,eY,du⟩
   ·simp_all
   ·rw[q]at V;injection V with V;injection V with V;subst V;obtain⟨ad,GN,BS,e1,e2,e3,e4⟩:=M8 (S:=S) (w:=w) (ob:=ob) (off:=off) (room:=room) (x:=x1) (y:=x2) (sz:=sz) (len:=len) (v:=a.eval x)
     ⟨l,ab,cap,q,E,g1,g2,g3,g4,g5,ga,λ iZ=>by
      have kd:x1-1<rs.length:=by omega
      have h5:=hr _ (Wz kd);have h6:=(du (x1-1) _ (Y3 kd)).1;have h7:=eY.2.1 (x1-1) kd;omega⟩ jG gL
    subst e2;refine im hn h hd (uR B ?_) e4;rw[e1];exact xP Z hi fg (h.lu ha) (h.lu hb) jG (by omega)
  ·have J:x2=0:=by omega
   subst J;have h1:x1=0:=by omega
   subst h1;refine im hn h hd (uR B (v:=.slice ab 0 0) ?_) (.jg ob ab V);rw[E];have:=xP (w:=w) (ad:=ab) (len:=0) (cap:=0) Z hi fg (h.lu ha) (h.lu hb) (Yg _) (Yg _);simp_all
 |tV t l c k k' n m z sz hl hc h0 h1 J A T=>exact AP B hn h hd hid hl hc h0 h1 J A T
 |pj t len parts z cs sz A T cS jx iG jb hf=>exact Ur B hn h hd hid A T cS jx iG jb hf
 |sf t tx s x q sz hs F A uh hr cS=>exact Te B hn h hd hid hs F A uh hr cS
 |se t tx s x q sz ob z p rs hs T ho F A uh hr pO cS=>exact Tf B hn h hd hid hs T ho F A uh hr pO cS
 |cv s d x l F A hl=>exact Zo5 B hn h hd hid F A hl
 |toStr s d x l q hs F hl A=>exact Zx B hn h hd F hl A hs
 |mkMap t hk=>
  have u:(execOp a.eval o).run P w=.ok (.value (.map (some w.heap.size))) (w.alloc (.map #[] 0)):=by
   unfold execOp;rw[B];simp only[Instr.makeMap,V8,Yc,Yd,Vk,Y6];rfl
  unfold Oper.wp;rw[u,YT];obtain⟨ι',hle,hι',H⟩:=h.alloc (ja hid) (.map #[] 0) ⟨w.heap.size,0,0,0,0⟩ rfl (.bm true []) rfl (λ _ h=>iY rfl h) (λ ι' hle hι'=>
   ⟨_,#[],0,hι',by show(w.heap.push _)[w.heap.size]? =_;simp,⟨rfl,λ i e x h=>by simp at h⟩,by simp⟩)
  exact Inv.goes hn H (λ x F=>qs F) (.bm id _ hι') hd
 |mn t x k n hk F=>
  have R:=h.ev x;rw[F]at R;obtain⟨kt,xh⟩:=Wj.1 hk;unfold dL at xh;split at xh
  ·rename_i kk ee A;have u:(execOp a.eval o).run P w=.ok (.value (.map (some w.heap.size))) (w.alloc (.map #[] 0)):=by
    unfold execOp;rw[B];simp only[Instr.makeMap,YE,Yc,Yb A,R.bU,asInt,asIntOf,Yd,Vk,Y6];rfl
   unfold Oper.wp;rw[u,YT];obtain⟨ι',hle,hι',H⟩:=h.alloc (ja hid) (.map #[] 0) ⟨w.heap.size,0,0,0,0⟩ rfl (.bm true []) rfl (λ _ h=>iY rfl h) (λ ι' hle hι'=>
    ⟨_,#[],0,hι',by show(w.heap.push _)[w.heap.size]? =_;simp,⟨rfl,λ i e x h=>by simp at h⟩,by simp⟩)
   exact Inv.goes hn H (λ x F=>qs F) (.bm id _ hι') hd
  grind
 |iQ _ t kt m k x rJ ob pf es r hm ho A hk hr cS vx La=>
  have jY:=h.ev m;have sP:=h.ev k;have pM:=La.rep _ (h.ev x);rw[hm]at jY;obtain⟨l,hl,j6⟩:=jY.dx;obtain⟨l',xs,M,Y,O,X,jL⟩:=h.ob ob _ ho;rw[hl]at Y;injection Y with Y;injection Y with Y;subst Y;obtain⟨j7,kK,⟨d,lp⟩,jO⟩:=qh hk sP;obtain⟨e,oe,ji,mC⟩:=qO lp hk sP X hr;unfold dL at A;split at A
  ·rename_i kk ee ug;injection A with A;subst A;have kJ:(Instr.findKey kk (a.eval k) xs.toList).run P w=.ok e w:=oe;have hex:(execOp a.eval o)=(do Instr.mapUpdate t (a.eval m) (a.eval k) (a.eval x);pure .skip:Sem Next):=by
    unfold execOp;rw[B];rcases rJ with rfl|rfl<;>rfl
   cases r with
   |none=>
    have he:e=none:=by cases e with|none=>rfl|some p=>grind
    subst he;have u:(execOp a.eval o).run P w=.ok .skip {w with heap:=w.heap.setIfInBounds l.bB (.map (xs.push {key:=a.eval k,val:=a.eval x,born:=M}) (M+1))}:=by
     rw[hex,j6];simp only[Instr.mapUpdate,Yc,Yb ug,Y6,mF O,kK,kJ,uY _ O,Yd]
    unfold Oper.wp;rw[u,VJ];have H:=h.tM ho hl (p':=pf&&vX vx) (zh:=jq es none (ig C.G f.g k) vx) (fF:=xs.push {key:=a.eval k,val:=a.eval x,born:=M}) (cK:=M+1) (by
     have:=X.1;simp_all) (λ hw=>by
     have lA:=X.mono (λ _ x=>x) hw (bp.le_refl _);refine⟨by simp[jq,X.1],λ i e x h1 J=>?_⟩
     simp only[jq,U4]at h1 J;by_cases hi:i<es.length
     ·rw[Yt hi]at h1;rw[Yt (by have:=X.1;omega)]at J
      exact⟨(lA.2 i e x h1 J).1,(lA.2 i e x h1 J).2.1,λ hp=>(lA.2 i e x h1 J).2.2 (by simp_all)⟩
     ·rw[Yl (by omega)]at h1
      rw[Yl (by have:=X.1;omega)]at J
      have sT:i-es.length=0:=by have:=fD h1;simp at this;omega
      have ln:i-xs.toList.length=0:=by rw[←X.1];exact sT
      rw[sT]at h1;rw[ln]at J;simp only[Yv,Y5]at h1 J;subst h1;subst J;exact⟨j7.mono (λ _ x=>x) hw,pM.mono (λ _ x=>x) hw (bp.le_refl _),λ hp=>(pM.rX (by simp_all)).mono (λ _ x=>x) hw⟩)
    exact Inv.goes hn H (λ x F=>F.1) (.cu _ _ (.undef _)) hd
   |some j=>
    obtain⟨⟨j',y⟩,rfl⟩:∃p,e=some p:=by cases e with|none=>grind|some p=>simp
    simp only[YE,Y5]at ji;subst ji;obtain⟨x0,iZ,rz⟩:=mC j' y rfl;obtain⟨_,e0,nj,sQ⟩:=O5 es 0 _ hr j' rfl;rw[Nat.sub_zero]at nj;have w9:=OJ sQ sP (X.2 j' e0 x0 nj iZ).1;have A0:xs[j']? =some x0:=by rw[←WG];exact iZ
    have u:(execOp a.eval o).run P w=.ok .skip {w with heap:=w.heap.setIfInBounds l.bB (.map (xs.modify j' λ e=>{e with key:=a.eval k,val:=a.eval x}) M)}:=by
     rw[hex,j6];simp only[Instr.mapUpdate,Yc,Yb ug,Y6,mF O,kK,kJ,A0,YE,YJ,Instr.keyThatStays,w9,Yz,uY _ O,Yd]
    unfold Oper.wp;rw[u,VJ];have H:=h.tM ho hl (p':=pf&&vX vx) (zh:=jq es (some j') (ig C.G f.g k) vx) (fF:=xs.modify j' λ e=>{e with key:=a.eval k,val:=a.eval x}) (cK:=M) (by
     simp_all) (λ hw=>by
     have lA:=X.mono (λ _ x=>x) hw (bp.le_refl _);refine⟨by simp[jq,X.1],λ i e x h1 J=>?_⟩
     simp only[jq,Array.toList_modify]at h1 J;rw[List.getElem?_modify]at h1 J;simp only[Option.map_eq_map,Yq]at h1 J;obtain⟨e9,h1,rfl⟩:=h1;obtain⟨x9,J,rfl⟩:=J;by_cases hi:j'=i
     ·subst hi;simp only[Yz];exact⟨j7.mono (λ _ x=>x) hw,pM.mono (λ _ x=>x) hw (bp.le_refl _),λ hp=>(pM.rX (by simp_all)).mono (λ _ x=>x) hw⟩
     ·simp only[hi,Ym];exact⟨(lA.2 i e9 x9 h1 J).1,(lA.2 i e9 x9 h1 J).2.1,λ hp=>(lA.2 i e9 x9 h1 J).2.2 (by simp_all)⟩)
    exact Inv.goes hn H (λ x F=>F.1) (.cu _ _ (.undef _)) hd
  grind
 |look t kt m k ok ob pf es r v hm ho A hk hr R=>
  have jY:=h.ev m;have sP:=h.ev k;rw[hm]at jY;obtain⟨l,hl,j6⟩:=jY.dx;obtain⟨l',xs,M,Y,O,X,jL⟩:=h.ob ob _ ho;rw[hl]at Y;injection Y with Y;injection Y with Y;subst Y;obtain⟨j7,kK,⟨d,lp⟩,jO⟩:=qh hk sP;obtain⟨e,oe,ji,mC⟩:=qO lp hk sP X hr;unfold dL at A;split at A
  ·rename_i kk ee ug;injection A with A;subst A;have kJ:(Instr.findKey kk (a.eval k) xs.toList).run P w=.ok e w:=oe;have fin:∀v':Value,cz S w ι v v'→((∃j,e=some (j,v')∧r.isSome=true)∨(e=none∧r.isSome=false∧(zeroValue ee).run P w=.ok v' w))→o.wp P a w next Q:=by
    intro v' DX A8;have u:(execOp a.eval o).run P w=.ok (.value (if ok then .tuple #[v',.bool r.isSome]else v')) w:=by
     unfold execOp;rw[B];rcases A8 with ⟨j,rfl,Bb⟩|⟨rfl,Bb,T⟩
     ·simp only[j6,Instr.lookup,Yc,Yb ug,Y6,mF O,Yd,kK,kJ,Bb]
     ·simp only[j6,Instr.lookup,Yc,Yb ug,Y6,mF O,Yd,kK,kJ,Bb,T]
    refine im hn h hd u ?_;cases ok
    ·exact DX
    ·exact bA.kz (bA.cons DX (bA.cons (.cu _ _ (.bool _)) .nil))
   rcases R with ⟨i,e0,rfl,nj,rfl⟩|⟨rfl,vt,z0,lj,T,ke⟩
   ·obtain⟨⟨j',y⟩,rfl⟩:∃p,e=some p:=by cases e with|none=>grind|some p=>simp
    simp only[YE,Y5]at ji;subst ji;obtain⟨x0,iZ,rz⟩:=mC j' y rfl;refine fin y ?_ (.inl ⟨_,rfl,rfl⟩);rw[←rz];exact(X.2 j' e0 x0 nj iZ).2.1
   ·have he:e=none:=by cases e with|none=>rfl|some p=>grind
    subst he;have mz:ee=vt:=by unfold gT at lj;rw[ug]at lj;simpa using lj
    subst mz;unfold zeroV at T;split at T
    ·cases T
    ·rename_i i hi;split at T
     ·rename_i zv qv;injection T with T;subst T;refine fin zv (ke.rep _ (.cu _ _ (uP zv))) (.inr ⟨rfl,rfl,?_⟩);simp[zeroValue,typeInfo,hi,qv]
     grind
  grind
 |oN t kt vt m k ok v hm A hk lj T=>
  have jY:=h.ev m;have sP:=h.ev k;rw[hm]at jY;have j6:=jY.ik;obtain⟨j7,kK,⟨d,lp⟩,jO⟩:=qh hk sP;unfold dL at A;split at A
  ·rename_i kk ee ug;injection A with A;subst A;have mz:ee=vt:=by unfold gT at lj;rw[ug]at lj;simpa using lj
   subst mz;unfold zeroV at T;split at T
   ·cases T
   ·rename_i i hi;split at T
    ·rename_i zv qv;injection T with T;subst T;have qx:(zeroValue ee).run P w=.ok zv w:=by simp[zeroValue,typeInfo,hi,qv]
     have kJ:(Instr.findKey kk (a.eval k) []).run P w=.ok none w:=by
      simp only[Instr.findKey,Yc,Yb lp,Y6,Instr.findNow,Yd]
     have u:(execOp a.eval o).run P w=.ok (.value (if ok then .tuple #[zv,.bool false]else zv)) w:=by
      unfold execOp;rw[B];simp only[j6,Instr.lookup,Yc,Yb ug,Y6,Yd,kK,kJ,qx]
     refine im hn h hd u ?_;cases ok
     ·exact .cu _ _ (uP zv)
     ·exact bA.kz (bA.cons (.cu _ _ (uP zv)) (bA.cons (.cu _ _ (.bool _)) .nil))
    grind
  grind
end
end
end Go.Ab
