import Derived.Test.YtjpmdkgonlmddaaGreatDoorAbB
set_option linter.unusedVariables false
namespace Go.Ab
section
variable {row:List AV}
section
variable {S:Nat→Prop}{w:World}{ι:bp}{P:Program}
theorem Fe{bc:List Value}(u:bA S w ι row bc){bB b0:Nat}(p:∀(j:Nat) v,bc[j]? =some v→fC w bB (b0+j)=some v∧v.oneCell'=true)
 {t:TypeId} {c:Nat} {v:AV} (o:ot P t row c=some v):∃v',(loadVar t ⟨bB,b0+c,none⟩).run P w=.ok v' w∧cz S w ι v v':=by
 unfold ot at o;split at o
 ·rename_i n x;split at o
  ·rename_i hc;injection o with o;subst o;obtain⟨h1,A⟩:=qQ x w;have y:=(u.drop c).take n;have q:((bc.drop c).take n).length=n:=by
    have:=u.1;simp;omega
   have i:=run_loadCells_list (P:=P) w ⟨bB,b0+c,none⟩ ((bc.drop c).take n) (λ j v z=>by
    rw[xS];grind)
   rw[q]at i;refine⟨.agg ((bc.drop c).take n).toArray,?_,bA.agg (by omega)⟩
   unfold loadVar;simp_all
  grind
 ·rename_i n x;obtain⟨h1,A⟩:=qQ x w;obtain⟨v',z,y⟩:=u.get o;refine⟨v',?_,y⟩;have:=(p _ _ z).1;unfold loadVar;simp_all
 grind
theorem ka.get{p:Bool}{rs:List (List AV)}{bc:Nat→List Value}(h:ka p S w ι rs bc){i:Nat}(j:rs[i]? =some row):
 bA S w ι row (bc i):=by
 have:=h i row j;cases p
 ·simp_all
 ·simp only[Yz]at this;exact this.rep
theorem fD{α:Type}{l:List α}{i:Nat}{x:α}(h:l[i]? =some x):i<l.length:=by
 grind
theorem zn{o:Nat}{y:AO}{rs:List (List AV)}(h:cX S w ι o y)(z:y=.rows true rs∨y=.rows false rs∨y=.dD rs):
 (ι o=some none∧rs=[])∨∃l bc,ι o=some (some l)∧rs.length=l.eA∧p9 w l rs.length bc∧∀(i:Nat) row,rs[i]? =some row→bA S w ι row (bc i):=by
 rcases z with rfl|rfl|rfl
 ·rcases h with h|⟨l,bc,h1,q,x,u,j⟩
  ·grind
  ·exact .inr ⟨l,bc,h1,q,u,λ i row p=>j.get p⟩
 ·rcases h with h|⟨l,bc,h1,q,x,u,j⟩
  ·grind
  ·exact .inr ⟨l,bc,h1,q,u,λ i row p=>j.get p⟩
 ·rcases h with h|⟨l,bc,h1,q,x,u,j⟩
  ·grind
  ·exact .inr ⟨l,bc,h1,q,u,λ i row p=>j.get p⟩
theorem Mn{c:Nat}{v:Value}(h:cz S w ι (.rp row c) v):
 ∃bB base bc,v=.pointer (some ⟨bB,base+c,none⟩)∧S bB∧cy S w row bc∧∀(j:Nat) v,bc[j]? =some v→fC w bB (base+j)=some v∧v.oneCell'=true:=by
 cases h with
 |cu _ _ h=>
  cases h with
  |rp _ _ bB base bc hS hl dC h=>exact⟨bB,base,bc,rfl,hS,⟨hl,h⟩,dC⟩
theorem SX{xs:List (List AV)}{v:Value}(h:cz S w ι (.sl xs) v){i:Nat}(p:xs[i]? =some row):
 ∃(a:Addr) (cap sz:Nat) (bc:List Value),v=.slice (some a) xs.length cap∧a.spot=none∧S a.block∧row.length=sz∧cy S w row bc∧
  ∀(j:Nat) v,bc[j]? =some v→fC w a.block (a.off+i*sz+j)=some v∧v.oneCell'=true:=by
 cases h with
 |cu _ _ h=>
  cases h with
  |gG=>simp at p
  |sl _ a cap sz bc iH cS hS hlen dC du=>
   have o:xs≠[]:=by intro e;subst e;simp at p
   have y:=hlen i row p;exact⟨a,cap,sz,bc i,rfl,(hS o).2,(hS o).1,y.1,⟨by omega,λ j x v u q=>du i j row x v p u q⟩,
    λ j v q=>by grind⟩
theorem Zpx:∀(d:Nat) (t:TypeId) (xs ys:List AV) (c:Nat) (r:Bool),lJ P d t xs ys c=some r→lK P d t=true→
 ∀(us vs:Array Value),bA S w ι xs us.toList→bA S w ι ys vs.toList→c+P.cellsOf t≤xs.length→c+P.cellsOf t≤ys.length→
 ∀(x y:Value),(part t us c).run P w=.ok x w→(part t vs c).run P w=.ok y w→(Op.equalIn (d+1) t x y).run P w=.ok r w:=by
 intro d;induction d with
 |zero=>intro t xs ys c r h;simp[lJ]at h
 |succ d ih=>
  intro t xs ys c r h hp us vs Y hv Ec R8 x y C B;unfold lJ at h;split at h
  ·rename_i k p;have o:(isAgg t).run P w=.ok false w:=by unfold isAgg;simp[Yb p]
   split at h
   ·rename_i k1 a k2 b h1 X;split at h
    ·rename_i e;subst e;injection h with h;subst h;obtain⟨u,E,F⟩:=Y.get h1;obtain⟨v,M,H⟩:=hv.get X;have e1:us[c]? =some u:=by simpa using E
     have e2:vs[c]? =some v:=by simpa using M
     unfold part at C B;simp only[Yc,o,Y6,YN,Ym,e1,e2,Yd,VS,VD]at C B;subst C;subst B;rw[F.bU,H.bU];exact run_equalIn_int w (d+1) t k1 k a b p
    ·cases h
   ·cases h
  ·rename_i p;have o:(isAgg t).run P w=.ok false w:=by unfold isAgg;simp[Yb p]
   split at h
   ·rename_i a b h1 X;injection h with h;subst h;obtain⟨u,E,F⟩:=Y.get h1;obtain⟨v,M,H⟩:=hv.get X;have e1:us[c]? =some u:=by simpa using E
    have e2:vs[c]? =some v:=by simpa using M
    unfold part at C B;simp only[Yc,o,Y6,YN,Ym,e1,e2,Yd,VS,VD]at C B;subst C;subst B;rw[F.dk,H.dk];rw[run_equalIn_string w (d+1) t _ _ p];simp
   ·cases h
  ·rename_i p;have o:(isAgg t).run P w=.ok false w:=by unfold isAgg;simp[Yb p]
   split at h
   ·rename_i a b h1 X;injection h with h;subst h;obtain⟨u,E,F⟩:=Y.get h1;obtain⟨v,M,H⟩:=hv.get X;have e1:us[c]? =some u:=by simpa using E
    have e2:vs[c]? =some v:=by simpa using M
    unfold part at C B;simp only[Yc,o,Y6,YN,Ym,e1,e2,Yd,VS,VD]at C B;subst C;subst B;rw[F.dJ,H.dJ];exact run_equalIn_bool w (d+1) t a b p
   ·cases h
  ·rename_i fs p;unfold lK at hp;rw[p]at hp;simp only[Yi,VI,YV]at hp;obtain⟨⟨iE,U⟩,R⟩:=hp;have o:(isAgg t).run P w=.ok true w:=by unfold isAgg;simp[Yb p]
   have fg:(sizeOf t).run P w=.ok (P.cellsOf t) w:=by
    obtain⟨⟨b,n⟩,A⟩:=Wj.1 U;have:=(qQ A w).2;unfold dS at A;split at A
    ·cases A
    ·split at A
     ·cases A
     ·rename_i i V;rw[sy V];simp[Program.cellsOf,V]
   unfold part at C B;simp only[Yc,o,Y6,Yz,fg,Yd,VS,VD]at C B;subst C;subst B;have lT:P.fieldsOf t=fs:=by simp[Program.fieldsOf,p]
   rw[run_equalIn_struct w (d+1) t _ _ (by simp_all) iE,lT]
   have J:∀f∈fs.toList,(f.name != "_" &&lK P d f.type&&decide (f.offset+P.cellsOf f.type≤P.cellsOf t))=true:=by
    intro f hf;have:=Array.all_eq_true.1 R;obtain⟨i,V,he⟩:=Wc hf;have:=this i (by omega)
    simp only[Array.getElem_toList]at he;rw[he]at this;exact this
   clear R;generalize fs.toList=l at h J;clear p lT;induction l generalizing r with
   |nil=>
    simp only[jA,Y5]at h;subst h;rfl
   |cons f l QV=>
    simp only[jA]at h;split at h
    ·rename_i a b ha hb;injection h with h;subst h;have hf:=J f (by simp)
     simp only[Yi,YB]at hf;obtain⟨⟨HW,z⟩,hf3⟩:=hf;have T:f.name≠ "_" :=by simpa using HW
     have O:∀(us:Array Value) (zs:List AV),bA S w ι zs us.toList→c+P.cellsOf t≤zs.length→
      ∃q,(part f.type us (c+f.offset)).run P w=.ok q w∧(part f.type (us.extract c (c+P.cellsOf t)) f.offset).run P w=.ok q w:=by
      intro us zs hz ua;have GZ:=hz.1;simp only[WA]at GZ;have one:(isAgg f.type).run P w=.ok false w→P.cellsOf f.type=1→∃q,(part f.type us (c+f.offset)).run P w=.ok q w∧(part f.type (us.extract c (c+P.cellsOf t)) f.offset).run P w=.ok q w:=by
       intro Q rK;have iU:c+f.offset<us.size:=by omega
       have h1:us[c+f.offset]? =some us[c+f.offset]:=W6 iU;have X:(us.extract c (c+P.cellsOf t))[f.offset]? =some us[c+f.offset]:=by
        rw[Array.getElem?_extract,if_pos (by omega),h1]
       refine⟨us[c+f.offset],?_,?_⟩
       ·unfold part;simp_all
       ·unfold part;simp_all
      cases d with
      |zero=>simp[lK]at z
      |succ d=>
       unfold lK at z;split at z
       ·rename_i dO j;simp only[Yi]at z;obtain⟨⟨bb,n⟩,A⟩:=Wj.1 z.1.2;have G9:(sizeOf f.type).run P w=.ok (P.cellsOf f.type) w:=by
         unfold dS at A;split at A
         ·cases A
         ·split at A
          ·cases A
          ·rename_i i V;rw[sy V];simp[Program.cellsOf,V]
        have Q:(isAgg f.type).run P w=.ok true w:=by unfold isAgg;simp[Yb j]
        refine⟨.agg (us.extract (c+f.offset) (c+f.offset+P.cellsOf f.type)),by unfold part;simp_all,?_⟩
        unfold part;simp only[Yc,Q,Y6,Yz,G9,Yd,Array.extract_extract];grind
       ·rename_i kk j;exact one (by unfold isAgg;simp[Yb j]) (by simp_all)
       ·rename_i j;exact one (by unfold isAgg;simp[Yb j]) (by simp_all)
       ·rename_i j;exact one (by unfold isAgg;simp[Yb j]) (by simp_all)
       simp_all
     obtain⟨q1,yV,Hk⟩:=O us xs Y Ec;obtain⟨q2,vE,Z⟩:=O vs ys hv R8;have he:=ih f.type xs ys (c+f.offset) a ha z us vs Y hv (by omega) (by omega) q1 q2 yV vE
     simp only[Op.eqFields,T,ne_eq,not_false_iff,Yz,Yc,Hk,Y6,Z,he];cases a
     all_goals simp_all
    ·cases h
  ·cases h
end
end
section
variable {t:TypeId}
def gK(C:Cx)(un:Nat→Prop)(id:Nat)(o:Oper)(f:FS)(v:AV)(U:List (Nat×Option AO))(next:Act→World→Prop):Prop:=
 ∀S' ι' a' w',Inv C S' ι' (λ x=>un x∧¬(id≤x∧x<id+W)) (f.fq o.dst v U) a' w'→next a' w'
section
variable {C:Cx}{S:Nat→Prop}{w:World}{ι:bp}{P:Program}{un:Nat→Prop}{f:FS}{a:Act}{id:Nat}{o:Oper}
 {next:Act→World→Prop} {Q:Exit→Act→World→Prop}
theorem Inv.goes{v:AV}{U:List (Nat×Option AO)}{S':Nat→Prop}{ι':bp}{sL:Nat→Prop}{w':World}{v':Value}
 (hn:gK C un id o f v U next) (h:Inv C S' ι' sL {f with os:=bw f.os U} a w') (i:∀x,un x∧¬(id≤x∧x<id+W)→sL x)
 (j:cz S' w' ι' v v') (hd:∀d,o.dst=some d→C.N.lo≤d∧d<C.N.n):next (a.put o.dst v') w':=by
 refine hn S' ι' _ w' ?_;have:=(h.put (dst:=o.dst) j hd).less i;have e:({f with os:=bw f.os U}:FS).put o.dst v=f.fq o.dst v U:=by
  unfold FS.fq;cases o.dst<;>rfl
 simp_all
theorem Inv.BI{v:AV}{v':Value}(hn:gK C un id o f v [] next)(h:Inv C S ι un f a w)
 (j:cz S w ι v v') (hd:∀d,o.dst=some d→C.N.lo≤d∧d<C.N.n):next (a.put o.dst v') w:=
 Inv.goes hn (U:=[]) (S':=S) (ι':=ι) (sL:=un) h (λ _ i=>i.1) j hd
theorem im{v:AV}{v':Value}(hn:gK C un id o f v [] next)(h:Inv C S ι un f a w)(hd:∀d,o.dst=some d→C.N.lo≤d∧d<C.N.n)
 (i:(execOp a.eval o).run P w=.ok (.value v') w) (j:cz S w ι v v'):o.wp P a w next Q:=by
 unfold Oper.wp;rw[i,YT];exact Inv.BI hn h j hd
theorem L6{cs:List AV}{bB:Obj}{vs:Array Value}(hn:gK C un id o f (.ptr id 0 0) [(id,some (.rows false [cs]))] next)
 (h:Inv C S ι un f a w) (hd:∀d,o.dst=some d→C.N.lo≤d∧d<C.N.n) (A:∀x,id≤x→x<id+W→un x)
 (E:bB=.cells vs t) (p:bA S w ι cs vs.toList) (F:∀v∈vs.toList,v.oneCell'=true) (q:(execOp a.eval o).run P w=.ok (.value (.pointer (some ⟨w.heap.size,0,none⟩))) (w.alloc bB)):
 o.wp P a w next Q:=by
 unfold Oper.wp;rw[q,YT];subst E;have u:=p.1;simp only[WA]at u;obtain⟨ι',z,hι',y⟩:=h.alloc (A id (Yg _) (by simp[W])) (.cells vs t) ⟨w.heap.size,0,cs.length,cs.length,1⟩ rfl (.rows false [cs]) rfl (λ _ h=>iY rfl h) (λ ι' z hι'=>by
  refine .inr ⟨_,λ _=>vs.toList,hι',rfl,λ j=>⟨λ hj=>?_,λ _=>by simp⟩,⟨by simp,λ i J=>by grind,λ i j v J hv=>?_⟩,λ i r B=>?_⟩
  ·simp_all
  ·simp only[W9]at J;have:i=0:=by omega
   subst this;simp only[VV,Wf,fC];rw[World.cell?_alloc_new];grind
  ·have:i=0:=by have:=fD B;simp at this;omega
   subst this;simp only[Yv,Y5]at B;subst B;simp only[YN,Ym];exact p.mono (λ _ x=>x) (λ b E=>so w _ b (h.sb b E)) z)
 refine Inv.goes hn y (λ x H=>⟨H.1,λ e=>H.2 ⟨by omega,by subst e;simp[W]⟩⟩) ?_ hd
 have:=cz.ptr (S:=S) (w:=w.alloc (.cells vs t)) (ι:=ι') id 0 0 _ hι';simp_all
theorem wx{cs:List AV}{vs:List Value}(h:bA S w ι cs vs)(o:cs.all kp=true):∀v∈vs,v.oneCell'=true:=by
 intro v p;obtain⟨j,hj⟩:=WM p;have i:j<cs.length:=by rw[h.1];exact fD hj
 exact(h.2 j _ v (Y3 i) hj).cell (YW.1 o _ (Wz i))
theorem Oy{cs:List AV}(h:iM P t=some cs):
 ∃z,(zeroValue t).run P w=.ok z w∧bA S w ι cs z.cells.toList∧∀v∈z.cells.toList,v.oneCell'=true:=by
 unfold iM at h;split at h
 ·cases h
 ·rename_i i o;split at h
  ·rename_i z p;have j:=zL (S:=S) (w:=w) (ι:=ι) h (.cu _ _ (uP z));exact⟨z,by simp[zeroValue,typeInfo,o,p],j.1,wx j.1 j.2⟩
  ·cases h
theorem J5{e:TypeId}{i:Addr}{len cap:Nat}{k:IntKind}{n:Int}{b:Bool}{sz:Nat}(p:P.underlying t=some (.slice e))(q:dS P e=some (b,sz))
 (h0:0≤n) (h1:n<len) (o:i.spot=none):(Instr.indexAt t (.slice (some i) len cap) (.int k n)).run P w=.ok (.pointer (some ⟨i.block,i.off+n.toNat*sz,none⟩)) w:=by
 have j:P.elem t=e:=by simp[Program.elem,p]
 have:=run_indexAt_slice (P:=P) w t i len cap k n (by simp_all)
 rw[this,j,if_pos ⟨h0,h1⟩,(qQ q w).2];obtain⟨bl,of,sp⟩:=i;simp only at o;subst o;simp only[Y6,xS]
theorem Ph{e:TypeId}{o of len:Nat}{k:IntKind}{n:Int}{b:Bool}{sz:Nat}(p:P.underlying t=some (.array len e))(q:dS P e=some (b,sz))
 (h0:0≤n) (h1:n<len):(Instr.indexAt t (.pointer (some ⟨o,of,none⟩)) (.int k n)).run P w=.ok (.pointer (some ⟨o,of+n.toNat*sz,none⟩)) w:=by
 have i:P.elem t=e:=by simp[Program.elem,p]
 have j:P.arrayLen t=len:=by simp[Program.arrayLen,p]
 have:=run_indexAt_array (P:=P) w t ⟨o,of,none⟩ k n (by simp_all)
 rw[this,i,j,if_pos ⟨h0,h1⟩,(qQ q w).2];simp only[Y6,xS]
theorem xI{o' off len room:Nat}{v:Value}(h:cz S w ι (.fp o' off len room) v):
 (∃l a cap,ι o'=some (some l)∧v=.slice (some a) len cap∧len≤room∧room≤cap∧l.base+(off+cap)*l.bX≤l.size∧len≤bI∧off+room≤l.eA∧
  (cap≠0→a=⟨l.bB,l.base+off*l.bX,none⟩))∨(ι o'=some none∧off=0∧len=0∧room=0∧∃a,v=.slice a 0 0):=by
 cases h with
 |cu _ _ h=>cases h
 |fp _ _ _ _ cap a l h h1 h2 h3 h4 h5 ha=>grind
 |jg _ a h=>simp_all
theorem kZ{o' z:Nat}{v:Value}(h:cz S w ι (.bf o' z) v):
 (∃l a cap,ι o'=some (some l)∧v=.slice (some a) l.eA cap∧l.eA≤cap∧l.base+cap*l.bX≤l.size∧l.eA≤bI∧(l.eA=0→cap≠0→l.bX=z)∧
  (cap≠0→a=⟨l.bB,l.base,none⟩))∨(ι o'=some none∧∃a,v=.slice a 0 0):=by
 cases h with
 |cu _ _ h=>cases h
 |bf _ _ cap a l h h2 h3 h4 hz ha=>grind
 |fW _ _ a h=>simp_all
end
end
section
variable {a b cap len:Nat}{e:Bool}{k:AV}{kt t:TypeId}{lo:Option Value}{u:Value}
section
variable {S:Nat→Prop}{w:World}{ι:bp}{P:Program}
theorem Xp{d i:Nat}(ih:∀t xs ys c r,lJ P d t xs ys c=some r→lJ P i t xs ys c=some r):
 ∀(l:List Field) (xs ys:List AV) (c:Nat) (r:Bool),jA (lJ P d) l xs ys c=some r→jA (lJ P i) l xs ys c=some r:=by
 intro l;induction l with
 |nil=>intro xs ys c r h;simpa[jA]using h
 |cons f l QV=>
  intro xs ys c r h;simp only[jA]at h⊢;grind
theorem Zn0:∀(d:Nat) (t:TypeId) (xs ys:List AV) (c:Nat) (r:Bool),lJ P d t xs ys c=some r→lJ P (d+1) t xs ys c=some r:=by
 intro d;induction d with
 |zero=>intro t xs ys c r h;simp[lJ]at h
 |succ d ih=>
  intro t xs ys c r h;unfold lJ at h;unfold lJ;split at h
  ·exact h
  ·exact h
  ·exact h
  ·exact Xp ih _ _ _ _ _ h
  ·cases h
theorem Zpw(k:Nat):∀(d:Nat) (t:TypeId) (xs ys:List AV) (c:Nat) (r:Bool),lJ P d t xs ys c=some r→lJ P (d+k) t xs ys c=some r:=by
 induction k with
 |zero=>simp
 |succ k ih=>intro d t xs ys c r h;exact Zn0 (d+k) t xs ys c r (ih d t xs ys c r h)
theorem ZnJ:∀(d:Nat) (t:TypeId),lK P d t=true→lK P (d+1) t=true:=by
 intro d;induction d with
 |zero=>intro t h;simp[lK]at h
 |succ d ih=>
  intro t h;unfold lK at h;unfold lK;grind
theorem Zph(k:Nat):∀(d:Nat) (t:TypeId),lK P d t=true→lK P (d+k) t=true:=by
 induction k with
 |zero=>simp
 |succ k ih=>intro d t h;exact ZnJ (d+k) t (ih d t h)
theorem IF{cs ds:List AV}{us vs:Array Value}{r:Bool}(h1:bA S w ι cs us.toList)(x:bA S w ι ds vs.toList)(p:lK P 20 t=true)
 (hc:cs.length=P.cellsOf t) (hd:ds.length=P.cellsOf t) (z:lJ P 20 t cs ds 0=some r) (u:∃fs,P.underlying t=some (.struct fs)):(Op.equalIn 10000 t (.agg us) (.agg vs)).run P w=.ok r w:=by
 have l1:=h1.1;have l2:=x.1;simp only[WA]at l1 l2;obtain⟨fs,q⟩:=u;have j:(dS P t).isSome=true:=by
  unfold lK at p;rw[q]at p;simp only[Yi]at p;exact p.1.2
 obtain⟨⟨b,n⟩,j⟩:=Wj.1 j;obtain⟨E,y⟩:=qQ j w;have B:b=true:=by
  unfold dS at j;rw[q]at j;simp only at j;split at j
  ·cases j
  ·simp_all
 have hn:n=P.cellsOf t:=by
  unfold dS at j;rw[q]at j;simp only at j;split at j
  ·cases j
  ·rename_i i C;simp only[Y5,WV]at j;rw[←j.2];simp[Program.cellsOf,C]
 subst B;have o:∀(xs:Array Value),xs.size=P.cellsOf t→(part t xs 0).run P w=.ok (.agg xs) w:=by
  intro xs A;unfold part;simp only[Yc,E,Y6,Yz,y,Yd,Wf,hn,←A];congr 2;simp
 exact Zpx 9999 t cs ds 0 r (Zpw 9979 20 t cs ds 0 r z) (Zph 9979 20 t p) us vs h1 x (by omega) (by omega) _ _ (o us (by omega)) (o vs (by omega))
def kU(o:Option Value)(d n:Nat):Prop:=
 match o with
 |none=>n=d
 |some v=>∃k i,v=.int k i∧0≤i∧i.toNat=n
theorem OS{o:Bool}{x:Option Value}(j:kU lo 0 a)(q:kU x len b)(y:a≤b)(z:b≤cap):
 (Instr.sliceBounds o len cap lo x none).run P w=.ok (a,b,cap) w:=by
 unfold Instr.sliceBounds;cases x with
 |none=>
  simp only[kU]at q;subst q;cases lo with
  |none=>simp only[kU]at j;simp_all
  |some v=>
   obtain⟨k,i,rfl,h0,rfl⟩:=j;simp only[Yc,Yd,Y6];rw[U0 w k i b _ h0 (by omega)]
   simp
 |some u=>
  obtain⟨k,i,rfl,h0,rfl⟩:=q;simp only[Yc,Yd,Y6];rw[U0 w k i cap _ h0 (by omega)]
  cases lo with
  |none=>simp only[kU]at j;simp_all
  |some v=>
   obtain⟨k',A,rfl,p,rfl⟩:=j;simp only[Yc,Yd,Y6];rw[U0 w k' A i.toNat _ p (by omega)]
   simp
theorem Zp7{l:aj}{p:Option Value}(o:P.underlying t=some .string)(x:kU lo 0 a)(u:kU p l.length b)(i:a≤b)(j:b≤l.length):
 (Instr.sliceAt t (.string ⟨l.toArray⟩) lo p none).run P w=.ok (.string ⟨((l.take b).drop a).toArray⟩) w:=by
 have e:(⟨l.toArray⟩:ByteArray).size=l.length:=by show l.toArray.size=_;simp
 have q:((⟨l.toArray⟩:ByteArray).extract a b)=⟨((l.take b).drop a).toArray⟩:=by
  apply ByteArray.ext;simp[ByteArray.data_extract,List.extract_eq_take_drop,List.drop_take]
 unfold Instr.sliceAt;simp only[Yc,Yb o,Y6];unfold Instr.slice;simp only[Yc,Yb o,Y6,Vx,YN,Ym,Yd,e,OS x u i j,q]
theorem xP{e:TypeId}{ad:Option Addr}{sz:Nat}{x:Option Value}(u:P.underlying t=some (.slice e)){i:TypeInfo}(j:P.info? e=some i)(o:i.size=sz)
 (y:kU lo 0 a) (z:kU x len b) (q:a≤b) (p:b≤cap):
 (Instr.sliceAt t (.slice ad len cap) lo x none).run P w=.ok (.slice (if cap=a then ad else ad.map (·.add (a*sz))) (b-a) (cap-a)) w:=by
 unfold Instr.sliceAt;simp only[Yc,Yb u,Y6];unfold Instr.slice;simp only[Yc,Yb u,Y6,OS y z q p,sy j,o,Yd]
theorem Zo7{e:TypeId}{ad:Option Addr}{sz:Nat}{k k':IntKind}(p:P.underlying t=some (.slice e)){i:TypeInfo}(j:P.info? e=some i)(o:i.size=sz)(u:kU lo 0 0):
 (Instr.sliceAt t (.slice ad len cap) lo (some (.int k 0)) (some (.int k' 0))).run P w=.ok (.slice ad 0 0) w:=by
 unfold Instr.sliceAt;simp only[Yc,Yb p,Y6];unfold Instr.slice;have q:(Instr.sliceBounds true len cap lo (some (.int k 0)) (some (.int k' 0))).run P w=.ok (0,0,0) w:=by
  unfold Instr.sliceBounds;simp only[Yc];rw[U0 w k' 0 cap _ (by omega) (by omega)]
  simp only[Y6];rw[U0 w k 0 _ _ (by omega) (by simp)]
  cases lo with
  |none=>simp
  |some v=>
   obtain⟨k2,i,rfl,h0,h1⟩:=u;have:i=0:=by omega
   subst this;rfl
 simp only[Yc,Yb p,Y6,q,sy j,o,Yd,Yz,V7]
theorem Ut{xs:List (List AV)}{ad:Option Addr}{sz:Nat}(h:cz S w ι (.sl xs) (.slice ad len cap))(y:a=0∨∀r∈xs,r.length=sz)(X:a≤b)(V:b≤xs.length):
 len=xs.length∧len≤cap∧cz S w ι (.sl ((xs.take b).drop a)) (.slice (if cap=a then ad else ad.map (·.add (a*sz))) (b-a) (cap-a)):=by
 cases h with
 |cu _ _ h=>
  generalize J:Value.slice ad len cap=v at h;cases h with
  |gG=>
   injection J with h1 B E;subst h1;subst B;subst E;simp only[Yx]at V;refine⟨rfl,Yg _,.cu _ _ ?_⟩;have M:b=0:=by omega
   have Q:a=0:=by omega
   subst M;subst Q;simp only[List.take_nil,List.drop_nil,Yz,V7];exact .gG
  |sl _ a' BS Gu bc iH cS hS hl dC du=>
   injection J with h1 B E;subst h1;subst B;subst E;refine⟨rfl,iH,.cu _ _ ?_⟩;have p:((xs.take b).drop a).length=b-a:=by simp;omega
   have u:∀(i:Nat) r,((xs.take b).drop a)[i]? =some r→i<b-a∧xs[a+i]? =some r:=by
    intro i r o;have A:=fD o;rw[p]at A;rw[YP,Ww]at o;rw[if_pos (by omega)]at o
    exact⟨A,o⟩
   have F:∀q:Addr,((xs.take b).drop a≠[]→q=⟨a'.block,a'.off+a*Gu,none⟩)→cE S w (.sl ((xs.take b).drop a)) (.slice (some q) (b-a) (cap-a)):=by
    intro q U;have:=cE.sl (S:=S) (w:=w) ((xs.take b).drop a) q (cap-a) Gu (λ i=>bc (a+i)) (by omega) (by omega) (λ z=>by
     grind) (λ i r o=>hl _ r (u i r o).2) (λ i j v H J=>by
     have z:(xs.take b).drop a≠[]:=by intro e;rw[e]at H;simp at H
     grind) (λ i j r x v h1 B E=>du _ j r x v (u i r h1).2 B E)
    rw[p]at this;exact this
   split
   ·grind
   ·refine F (a'.add (a*sz)) (λ z=>?_);have R:xs≠[]:=by intro e;subst e;simp at z
    have C:=(hS R).2;obtain⟨x,O⟩:=V4 xs R;obtain⟨i,H⟩:=WM O;have e1:=(hl i x H).1;have T:a*sz=a*Gu:=by
     rcases y with rfl|y
     ·simp
     ·simp_all
    rw[T];obtain⟨bl,of,sp⟩:=a';simp only at C;subst C;exact xS _ _ _
theorem Ix{n:Nat}{k q:IntKind}{i:Int}(h:P.underlying kt=some (.int k)):(Instr.checkKey e (n+1) kt (.int q i)).run P w=.ok () w:=by
 rw[VQ];simp only[Yc,Yb h,Y6,Yd]
theorem Tt{n:Nat}{b:ByteArray}(h:P.underlying kt=some .string):(Instr.checkKey e (n+1) kt (.string b)).run P w=.ok () w:=by
 rw[VQ];simp only[Yc,Yb h,Y6,Yd]
theorem Tl{n:Nat}{b:Bool}(h:P.underlying kt=some .bool):(Instr.checkKey e (n+1) kt (.bool b)).run P w=.ok () w:=by
 rw[VQ];simp only[Yc,Yb h,Y6,Yd]
theorem IG(n:Nat)(k:IntKind)(i:Int):Instr.sameBits n (.int k i) (.int k i)=true:=by rw[Instr.sameBits.eq_2];simp
theorem L9(n:Nat)(l:aj):Instr.sameBits n (.string ⟨l.toArray⟩) (.string ⟨l.toArray⟩)=true:=by rw[Instr.sameBits.eq_5,Nr];simp
theorem MJ(n:Nat)(b:Bool):Instr.sameBits n (.bool b) (.bool b)=true:=by rw[Instr.sameBits.eq_1];simp
theorem MK(q r:IntKind)(a b:Int):Instr.sameBits 10000 (.agg #[.int q a,.int r b]) (.agg #[.int q a,.int r b])=true:=by
 rw[show(10000:Nat)=9999+1 from rfl,Instr.sameBits.eq_10]
 simp[IG]
theorem sk{q r:IntKind}{a b:Int}(o:cz S w ι (.agg [.int q a,.int r b]) u):u=.agg #[.int q a,.int r b]:=by
 obtain⟨vs,rfl,j,i⟩:=o.eg
 match vs,j with
 |⟨[x,y]⟩,_=>
  have h1:=(i 0 _ x rfl rfl).bU;have h2:=(i 1 _ y rfl rfl).bU;simp_all
theorem OJ{k':AV}{v:Value}(h:dE P kt k k'=some true)(j:cz S w ι k u)(o:cE S w k' v):Instr.sameBits 10000 v u=true:=by
 unfold dE at h;split at h
 ·rename_i q0 q a x b' p;split at h
  ·rename_i e;subst e;injection h with h;rw[j.bU];cases o;have:a=b':=by simpa using h
   subst this;exact IG _ _ _
  ·cases h
 ·rename_i a b' p;injection h with h;rw[j.dk];have i:=(cz.cu (ι:=ι) _ _ o).dk;rw[i];have:a=b':=by simpa using h
  subst this;exact L9 _ _
 ·rename_i a b' p;injection h with h;rw[j.dJ];cases o;have:a=b':=by simpa using h
  subst this;exact MJ _ _
 ·rename_i fs q a r b x a' r' b' p;split at h
  ·rename_i e;obtain⟨e1,y⟩:=e;subst e1;subst y;injection h with h;have i:=sk (cz.cu (ι:=ι) _ _ o);rw[sk j,i];simp only[Yi,Vy]at h;obtain⟨rfl,rfl⟩:=h;exact MK _ _ _ _
  ·cases h
 ·cases h
theorem OE{k':AV}{b:Bool}{v:Value}{d:TypeDesc}(hd:P.underlying kt=some d)(x:∀fs,d≠.struct fs)(h:dE P kt k k'=some b)(j:cz S w ι k u)(p:cE S w k' v):
 Instr.sameNow d u v=some b:=by
 unfold dE at h;split at h
 ·rename_i q0 q a q' b' i;rw[hd]at i;injection i with i;subst i;split at h
  ·rename_i e;subst e;injection h with h;subst h;rw[j.bU];cases p;simp[Instr.sameNow]
  ·cases h
 ·rename_i a b' i;rw[hd]at i;injection i with i;subst i;injection h with h;subst h;rw[j.dk];have o:=(cz.cu (ι:=ι) _ _ p).dk;rw[o];simp[Instr.sameNow,Nr]
 ·rename_i a b' i;rw[hd]at i;injection i with i;subst i;injection h with h;subst h;rw[j.dJ];cases p;rfl
 all_goals grind
theorem Zpu{p:Bool}{d:TypeDesc}(hd:P.underlying kt=some d)(z:∀fs,d≠.struct fs)(C:cz S w ι k u):
 ∀(es:List (AV×AV)) (xs:List MapEntry) (i:Nat) (r:Option Nat),jH p S w ι es xs→gM P kt k es i r→
  (∃e,Instr.findNow d u xs i=some e∧e.map (·.1)=r∧∀j y,e=some (j,y)→i≤j∧∃q,xs[j-i]? =some q∧q.val=y):=by
 intro es;induction es with
 |nil=>
  intro xs i r o h;have:xs=[]:=YR.1 o.1.symm;subst this;simp only[gM]at h;subst h;exact⟨none,rfl,rfl,by simp⟩
 |cons e es ih=>
  intro xs i r o h;cases xs with
  |nil=>have:=o.1;grind
  |cons x xs=>
   have B:jH p S w ι es xs:=⟨by simpa using o.1,λ j a b ha hb=>o.2 (j+1) a b (by simp_all) (by simp_all)⟩
   have E:=o.2 0 e x rfl rfl;simp only[gM]at h;rcases h with ⟨h1,rfl⟩|⟨h1,H⟩
   ·have A:=OE hd z h1 C E.1;refine⟨some (i,x.val),by simp[Instr.findNow,A],rfl,?_⟩
    simp
   ·have A:=OE hd z h1 C E.1;obtain⟨M,F,J,h5⟩:=ih xs (i+1) r B H;refine⟨M,by simp[Instr.findNow,A,F],J,?_⟩
    grind
theorem Oo(h:oI P kt=true):∃f g:Field,P.underlying kt=some (.struct #[f,g])∧f.name≠ "_" ∧g.name≠ "_" ∧f.offset=0∧g.offset=1∧
 (∃k,P.underlying f.type=some (.int k))∧(∃k,P.underlying g.type=some (.int k))∧(dS P f.type).map (·.1)=some false∧(dS P g.type).map (·.1)=some false∧lK P 20 kt=true∧P.cellsOf kt=2:=by
 unfold oI at h;split at h
 ·rename_i fs ht;split at h
  ·rename_i f g i;simp only[Yi,YB,bne_iff_ne,ne_eq]at h;obtain⟨⟨⟨⟨⟨⟨⟨⟨h1,h2⟩,h3⟩,h4⟩,h5⟩,h6⟩,h7⟩,h8⟩,h9⟩:=h;have e:fs=#[f,g]:=by apply Array.ext';simpa using i
   grind
  ·cases h
 ·cases h
theorem M9{xs:Array Value}{c:Nat}{v:Value}(h:(dS P t).map (·.1)=some false)(hv:xs[c]? =some v):(part t xs c).run P w=.ok v w:=by
 rw[Yq]at h;obtain⟨⟨b,n⟩,j,i⟩:=h;simp only at i;subst i;obtain⟨ha,hs⟩:=qQ j w;unfold part;simp_all
theorem Tn{q r:IntKind}{a b:Int}(h:oI P kt=true):(Instr.checkKey e 10000 kt (.agg #[.int q a,.int r b])).run P w=.ok () w:=by
 obtain⟨f,g,i,h1,p,h3,h4,⟨k1,j⟩,⟨k2,o⟩,y,u,_,_⟩:=Oo h;have p1:(part f.type #[.int q a,.int r b] f.offset).run P w=.ok (.int q a) w:=M9 y (by grind)
 have p2:(part g.type #[.int q a,.int r b] g.offset).run P w=.ok (.int r b) w:=M9 u (by grind)
 have c1:(Instr.checkKey e 9999 f.type (.int q a)).run P w=.ok () w:=Ix j;have x:(Instr.checkKey e 9999 g.type (.int r b)).run P w=.ok () w:=Ix o;rw[show(10000:Nat)=9999+1 from rfl,VQ]
 simp[Yb i,h1,p,p1,p2,c1,x]
theorem Xr{p:Bool}(C:dT P kt k=true){fs:Array Field}(hd:P.underlying kt=some (.struct fs))(E:cz S w ι k u):
 ∀(es:List (AV×AV)) (xs:List MapEntry) (i:Nat) (r:Option Nat),jH p S w ι es xs→gM P kt k es i r→
  (∃e,(Instr.findAsking kt u xs i).run P w=.ok e w∧e.map (·.1)=r∧∀j y,e=some (j,y)→i≤j∧∃q,xs[j-i]? =some q∧q.val=y):=by
 unfold dT at C;rw[hd]at C;split at C
 ·simp_all
 ·simp_all
 ·simp_all
 ·rename_i _ q a r0 b ht;obtain⟨f,g,H,_,_,M,V,⟨ki,Q⟩,⟨kj,O⟩,_,_,R,B⟩:=Oo C;have BO:∀(k':AV) (v:Value) (c:Bool),dE P kt (.agg [.int q a,.int r0 b]) k'=some c→cE S w k' v→(Op.equal kt u v).run P w=.ok c w:=by
   intro k' v c o hv;unfold dE at o;rw[hd]at o;split at o
   ·simp_all
   ·simp_all
   ·simp_all
   ·rename_i _ q1 a1 r1 b1 q' a' r' b' _ e1;injection e1 with e1;simp only[Vz,AV.int.injEq,VD]at e1;obtain⟨⟨rfl,rfl⟩,rfl,rfl⟩:=e1;split at o
    ·rename_i e;obtain⟨e2,e3⟩:=e;subst e2;subst e3;injection o with o;subst o;rw[sk E,sk (cz.cu (ι:=ι) _ _ hv)];have h1:=E;rw[sk E]at h1;have A:=cz.cu (ι:=ι) _ _ hv;rw[sk A]at A;obtain⟨_,Y,X⟩:=h1.eg;injection Y with Y;subst Y;obtain⟨_,T,J⟩:=A.eg;injection T with T;subst T;refine IF X J R B.symm B.symm ?_ ⟨_,hd⟩;simp only[lJ,H,jA,Q,O,M,V];simp
    grind
   ·cases o
  intro es;induction es with
  |nil=>
   intro xs i r z h;have:xs=[]:=YR.1 z.1.symm;subst this;simp only[gM]at h;subst h;exact⟨none,rfl,rfl,by simp⟩
  |cons e es ih=>
   intro xs i r z h;cases xs with
   |nil=>have:=z.1;grind
   |cons x xs=>
    have U:jH p S w ι es xs:=⟨by simpa using z.1,λ j a b ha hb=>z.2 (j+1) a b (by simp_all) (by simp_all)⟩
    have Z:=z.2 0 e x rfl rfl;simp only[gM]at h;rcases h with ⟨h1,rfl⟩|⟨h1,A⟩
    ·have F:=BO _ _ _ h1 Z.1;refine⟨some (i,x.val),by simp[Instr.findAsking,F],rfl,?_⟩
     simp
    ·have F:=BO _ _ _ h1 Z.1;obtain⟨e',h3,h4,h5⟩:=ih xs (i+1) r U A;refine⟨e',by simp[Instr.findAsking,F,h3],h4,?_⟩
     grind
 grind
theorem qO{p:Bool}{d:TypeDesc}(hd:P.underlying kt=some d)(C:dT P kt k=true)(x:cz S w ι k u)
 {es:List (AV×AV)} {xs:List MapEntry} {r:Option Nat} (o:jH p S w ι es xs) (h:gM P kt k es 0 r):
 ∃e,(Instr.findKey kt u xs).run P w=.ok e w∧e.map (·.1)=r∧∀j y,e=some (j,y)→∃q,xs[j]? =some q∧q.val=y:=by
 by_cases z:∃fs,d=.struct fs
 ·obtain⟨fs,rfl⟩:=z;obtain⟨e,h1,i,A⟩:=Xr C hd x es xs 0 r o h;refine⟨e,?_,i,λ j y B=>by simp_all⟩
  rw[run_findKey_eq w (by rw[hd])]
  exact h1
 ·obtain⟨e,h1,i,A⟩:=Zpu hd (λ fs e=>z ⟨fs,e⟩) x es xs 0 r o h;refine⟨e,?_,i,λ j y B=>by simp_all⟩
  simp only[Instr.findKey,Yc,Yb hd,Y6,h1,Yd]
end
end
section
variable {as cs:List AV}{bX:Nat}{rs:List (List AV)}{us vs:List Value}
def dQ(p:Bool)(S:Nat→Prop)(w:World)(ι:bp)(cs:List AV)(vs:List Value):Prop:=if p=true then cy S w cs vs else bA S w ι cs vs
section
variable {p:Bool}{S:Nat→Prop}{w:World}{ι:bp}{P:Program}
theorem cy.append{bs:List AV}(i:cy S w as us)(q:cy S w bs vs):cy S w (as++bs) (us++vs):=by
 refine⟨by simp[i.1,q.1],λ j x v o p=>?_⟩
 by_cases hj:j<as.length
 ·rw[Yt hj]at o;rw[Yt (by have:=i.1;omega)]at p
  exact i.2 j x v o p
 ·rw[Yl (by omega)]at o
  rw[Yl (by have:=i.1;omega)]at p
  refine q.2 (j-as.length) x v o ?_;rw[i.1];exact p
theorem cy.take(n:Nat)(h:cy S w as us):cy S w (as.take n) (us.take n):=by
 refine⟨by simp[h.1],λ j x v o p=>?_⟩
 rw[Ww]at o p;split at o
 ·rename_i i;simp only[i,Yz]at p;exact h.2 j x v o p
 grind
theorem cy.drop(n:Nat)(h:cy S w as us):cy S w (as.drop n) (us.drop n):=by
 refine⟨by simp[h.1],λ j x v i o=>?_⟩
 rw[YP]at i o;exact h.2 _ x v i o
theorem dQ.len(h:dQ p S w ι cs vs):cs.length=vs.length:=by
 cases p
 ·simp only[dQ]at h;exact(show bA S w ι cs vs from by grind).1
 ·simp only[dQ]at h;exact(show cy S w cs vs from by grind).1
theorem dQ.rep(h:dQ p S w ι cs vs):bA S w ι cs vs:=by
 cases p
 ·simpa[dQ]using h
 ·exact(show cy S w cs vs from by simpa[dQ]using h).rep
theorem dQ.qZ{q:Bool}(h:dQ p S w ι cs vs)(hq:q=true→p=true):dQ q S w ι cs vs:=by
 cases q
 ·simpa[dQ]using h.rep
 simp_all
theorem dQ.nil:dQ p S w ι [] []:=by cases p<;>simp[dQ,bA,cy]
theorem dQ.append{bs:List AV}(i:dQ p S w ι as us)(j:dQ p S w ι bs vs):dQ p S w ι (as++bs) (us++vs):=by
 cases p
 ·simp only[dQ,YN,Ym]at*;exact bA.append i j
 ·simp only[dQ,Yz]at*;exact cy.append i j
theorem dQ.take(n:Nat)(h:dQ p S w ι as us):dQ p S w ι (as.take n) (us.take n):=by
 cases p
 ·simp only[dQ,YN,Ym]at*;exact bA.take n h
 ·simp only[dQ,Yz]at*;exact cy.take n h
theorem dQ.drop(n:Nat)(h:dQ p S w ι as us):dQ p S w ι (as.drop n) (us.drop n):=by
 cases p
 ·simp only[dQ,YN,Ym]at*;exact bA.drop n h
 ·simp only[dQ,Yz]at*;exact cy.drop n h
theorem dQ.mono{S':Nat→Prop}{w':World}{ι':bp}(i:∀b,S b→S' b)(j:gA S w w')(hι:ι.le ι')(h:dQ p S w ι cs vs):dQ p S' w' ι' cs vs:=by
 cases p
 ·simp only[dQ,YN,Ym]at*;exact bA.mono i j hι h
 ·simp only[dQ,Yz]at*;exact cy.mono i j h
structure Flat(p:Bool)(S:Nat→Prop)(w:World)(ι:bp)(bX:Nat)(rs:List (List AV))(us:List Value):Prop where
 rl:∀r∈rs,r.length=bX
 len:us.length=rs.length*bX
 one:∀v∈us,v.oneCell'=true
 rep:dQ p S w ι rs.flatten us
theorem IY{cell:Nat→Option Value}:∀(rs:List (List AV)) (bc:Nat→List Value) (off:Nat),(∀i<rs.length,(bc i).length=bX)→
 (∀(i j:Nat) v,i<rs.length→(bc i)[j]? =some v→cell (off+(i*bX+j))=some v∧v.oneCell'=true)→ka p S w ι rs bc→
 ∃us,Flat p S w ι bX rs us∧∀(j:Nat) v,us[j]? =some v→cell (off+j)=some v:=by
 intro rs;induction rs with
 |nil=>intro bc off _ _ _;exact⟨[],⟨by simp,by simp,by simp,dQ.nil⟩,by simp⟩
 |cons r rs ih=>
  intro bc off B hc A;obtain⟨us,u,z⟩:=ih (λ i=>bc (i+1)) (off+bX) (λ i C=>B (i+1) (by grind)) (λ i j v C o=>by
   grind) (λ i x y=>A (i+1) x (by simp_all))
  have h0:=B 0 (by simp)
  have q:dQ p S w ι r (bc 0):=A 0 r rfl;refine⟨bc 0++us,⟨?_,?_,?_,?_⟩,?_⟩
  ·intro x y;rcases Yr.1 y with rfl|y
   ·rw[q.len];exact h0
   ·exact u.rl x y
  ·rw[Y8,h0,u.len,Yh,Wg];omega
  ·intro v o;rcases YA.1 o with o|o
   ·obtain⟨j,hj⟩:=WM o;grind
   ·exact u.one v o
  ·rw[Wu];exact q.append u.rep
  grind
theorem ZnW:∀(rs:List (List AV)) (i:Nat) (r:List AV),(∀r∈rs,r.length=bX)→rs[i]? =some r→(rs.flatten.drop (i*bX)).take bX=r:=by
 intro rs;induction rs with
 |nil=>simp
 |cons x rs ih=>
  intro i r j h;have o:=j x (by simp)
  cases i with
  |zero=>
   simp_all
  |succ i=>
   have:=ih i r (λ y p=>j y (by simp[p])) (by grind)
   rw[Wu,Wg,Nat.one_mul,Nat.add_comm,←o,List.drop_append,o];rw[WQ (by omega),YQ,U1]
   exact this
theorem Flat.rows(h:Flat p S w ι bX rs us):ka p S w ι rs (λ i=>(us.drop (i*bX)).take bX):=by
 intro i r j;have:=(h.rep.drop (i*bX)).take bX;rw[ZnW rs i r h.rl j]at this;exact this
theorem Flat.at{l:Loc}(h:Flat p S w ι l.bX rs us)(o:∀(j:Nat) v,us[j]? =some v→fC w l.bB (l.base+j)=some v)
 (q:l.base+rs.length*l.bX≤l.size):p9 w l rs.length (λ i=>(us.drop (i*l.bX)).take l.bX):=by
 refine⟨q,λ i x=>?_,λ i j v x u=>?_⟩
 ·have:(i+1)*l.bX≤rs.length*l.bX:=YK _ x;rw[Wg]at this;simp[h.len];omega
 ·simp only[Ww,YP]at u;split at u
  ·exact⟨o _ v u,h.one v (YO u)⟩
  grind
theorem Flat.append{u:List (List AV)}{q:Bool}(h:Flat p S w ι bX rs us)(o:Flat q S w ι bX u vs):Flat (p&&q) S w ι bX (rs++u) (us++vs):=by
 refine⟨λ r i=>?_,by rw[Y8,Y8,h.len,o.len,Wg],λ v j=>?_,?_⟩
 ·rcases YA.1 i with i|i
  ·exact h.rl r i
  ·exact o.rl r i
 ·rcases YA.1 j with j|j
  ·exact h.one v j
  ·exact o.one v j
 ·rw[List.flatten_append];exact(h.rep.qZ (λ e=>by simp_all)).append (o.rep.qZ (λ e=>by simp_all))
theorem Flat.mono{S':Nat→Prop}{w':World}{ι':bp}(i:∀b,S b→S' b)(j:gA S w w')(hι:ι.le ι')(h:Flat p S w ι bX rs us):Flat p S' w' ι' bX rs us:=
 ⟨h.rl,h.len,h.one,h.rep.mono i j hι⟩
theorem Flat.nil:Flat p S w ι bX [] []:=⟨by simp,by simp,by simp,dQ.nil⟩
theorem Pz{n len cap:Nat}{bB off:Nat}(i:us.length=n*bX)(h:∀(j:Nat) v,us[j]? =some v→fC w bB (off+j)=some v)
 {w':World} (o:w'.heap=w.heap):(Builtin.firstCells bX n (.slice (some ⟨bB,off,none⟩) len cap)).run P w'=.ok us.toArray w':=by
 refine run_firstCells_some w' bX n _ len cap us i (λ j v p=>?_);have:=h j v p
 rw[xS];simp only[fC,World.cell?,o]at this⊢;exact this
theorem yq{n:Nat}{v:Value}(hn:n*bX=0)(i:(∃a len cap,v=.slice a len cap)∨(n=0∧∃s,v=.string s))(w':World):
 (Builtin.firstCells bX n v).run P w'=.ok #[] w':=by
 rcases i with ⟨a,len,cap,rfl⟩|⟨rfl,s,rfl⟩
 ·cases a with
  |none=>rfl
  |some a=>simp[Builtin.firstCells,hn,loadCells,loadCellsFrom]
 ·simp[Builtin.firstCells]
structure ov(P:Program)(w:World)(bX:Nat)(v:Value)(len n:Nat)(us:List Value):Prop where
 len:∀w':World,(Builtin.lenOf v).run P w'=.ok len w'
 cells:∀w':World,w'.heap=w.heap→(Builtin.firstCells bX n v).run P w'=.ok us.toArray w'
theorem Z'{bc:Nat→List Value}(h:ka p S w ι rs bc)(off n:Nat):ka p S w ι ((rs.drop off).take n) (λ i=>bc (off+i)):=by
 intro i r j;rw[Ww]at j;split at j
 ·rw[YP]at j;exact h _ _ j
 grind
theorem JF{o:Nat}{y:AO}{p:Bool}(h:cX S w ι o y)(x:y=.rows p rs∨(p=true∧y=.dD rs)):
 (ι o=some none∧rs=[])∨∃l bc,ι o=some (some l)∧rs.length=l.eA∧p9 w l rs.length bc∧ka p S w ι rs bc:=by
 rcases x with rfl|⟨rfl,rfl⟩
 ·rcases h with h|⟨l,bc,h1,q,j,u,i⟩
  all_goals grind
 ·rcases h with h|⟨l,bc,h1,q,j,u,i⟩
  all_goals grind
theorem E4{bc:Nat→List Value}{l:Loc}(o:p9 w l rs.length bc)(u:ka p S w ι rs bc)(off n:Nat)(h:off+n≤rs.length):
 ∃us,Flat p S w ι l.bX ((rs.drop off).take n) us∧∀(j:Nat) v,us[j]? =some v→fC w l.bB (l.base+off*l.bX+j)=some v:=by
 have q:((rs.drop off).take n).length=n:=by simp;omega
 refine IY (cell:=fC w l.bB) _ (λ i=>bc (off+i)) (l.base+off*l.bX) (λ i y=>o.2.1 _ (by omega)) (λ i j v y x=>?_) (Z' u off n)
 have:=o.2.2 (off+i) j v (by omega) x
 grind
theorem B1{ol:Nat→Option AO}(gm:∀o x,ol o=some x→cX S w ι o x){x:AV}{v:Value}(hx:cz S w ι x v){ro:bL}
 (R:dG ol x=some (p,rs,ro)) (hl:∀r∈rs,r.length=bX) (n:Nat) (hn:n≤rs.length):
 ∃us,Flat p S w ι bX (rs.take n) us∧ov P w bX v rs.length n us:=by
 have obj:∀(o off len:Nat) (y:AO) (u:List (List AV)),ol o=some y→(y=.rows p u∨(p=true∧y=.dD u))→rs=(u.drop off).take len→
  ((∃l a cap,ι o=some (some l)∧v=.slice (some a) len cap∧len≤cap∧off+len≤l.eA∧(cap≠0→a=⟨l.bB,l.base+off*l.bX,none⟩))∨(ι o=some none∧len=0∧∃a,v=.slice a 0 0))→
  ∃us,Flat p S w ι bX (rs.take n) us∧ov P w bX v rs.length n us:=by
  intro o off len y u hy A B X;rcases JF (gm o y hy) A with ⟨q,h0⟩|⟨l,bc,q,V,eY,Q⟩
  ·rcases X with ⟨l,a,cap,H,_⟩|⟨H,Y,a,rfl⟩
   ·simp_all
   ·subst h0;subst Y;simp only[List.drop_nil,List.take_nil]at B;subst B;simp only[Yx]at hn;have:n=0:=by omega
    subst this;exact⟨[],by simpa using Flat.nil,⟨λ _=>rfl,λ w' _=>yq (by simp) (.inl ⟨_,_,_,rfl⟩) w'⟩⟩
  ·rcases X with ⟨l',a,cap,H,rfl,h1,F,ha⟩|⟨H,_⟩
   ·rw[q]at H;injection H with H;injection H with H;subst H;have E:rs.length=len:=by rw[B];simp;omega
    by_cases J:n=0
    ·subst J;refine⟨[],by simpa using Flat.nil,⟨λ _=>by rw[E];rfl,λ w' _=>yq (by simp) (.inl ⟨_,_,_,rfl⟩) w'⟩⟩
    ·have Hr:off+n≤u.length:=by omega
     obtain⟨us,hF,hc⟩:=E4 eY Q off n Hr;have e:rs.take n=(u.drop off).take n:=by rw[B,WH,YY (by omega)]
     have M:bX=l.bX:=by
      have T:rs.take n≠[]:=by intro e;have:=YU List.length e;rw[Y9,Yx]at this;omega
      obtain⟨r,U⟩:=V4 _ T;have h3:=hl r (YZ U);rw[e]at U;have h4:=hF.rl r U;omega
     subst M;rw[e];have Z:((u.drop off).take n).length=n:=by simp;omega
     refine⟨us,hF,⟨λ _=>by rw[E];rfl,λ w' hw=>?_⟩⟩
     rw[ha (by omega)]
     exact Pz (by rw[hF.len,Z]) hc hw
   simp_all
 cases x with
 |sl xs=>
  simp only[dG,Y5,WV]at R;obtain⟨rfl,rfl,rfl⟩:=R;cases hx with
  |cu _ _ h=>
   generalize nT:v=v' at h;cases h with
   |gG=>
    subst nT;simp only[Yx]at hn;have:n=0:=by omega
    subst this;exact⟨[],by simpa using Flat.nil,⟨λ _=>rfl,λ w' _=>yq (by simp) (.inl ⟨_,_,_,rfl⟩) w'⟩⟩
   |sl _ a cap sz bc iH cS hS E dC Q=>
    subst nT;by_cases J:n=0
    ·subst J;exact⟨[],by simpa using Flat.nil,⟨λ _=>rfl,λ w' _=>yq (by simp) (.inl ⟨_,_,_,rfl⟩) w'⟩⟩
    ·have T:xs≠[]:=by intro e;subst e;simp at hn;omega
     obtain⟨r,U⟩:=V4 _ T;obtain⟨i,hi⟩:=WM U;have M:bX=sz:=by rw[←hl r U];exact(E i r hi).1
     subst M;have rG:ka true S w ι xs bc:=by
      intro i r O;simp only[Yz];refine⟨by grind,λ j x v h1 F=>Q i j r x v O h1 F⟩
     have Z:(xs.take n).length=n:=by simp;omega
     obtain⟨us,hF,hc⟩:=IY (cell:=fC w a.block) (xs.take n) bc a.off (λ i hi=>by
      grind) (λ i j v hi X=>dC i j v (by omega) X) (λ i r O=>by
      rw[Ww]at O;split at O
      ·exact rG i r O
      grind)
     refine⟨us,hF,⟨λ _=>rfl,λ w' hw=>?_⟩⟩;obtain⟨bl,of,sp⟩:=a
     have rB:=(hS T).2;simp only at rB;subst rB;exact Pz (by rw[hF.len,Z]) hc hw
 |dK=>
  simp only[dG,Y5,WV]at R;obtain⟨rfl,rfl,rfl⟩:=R;simp only[Yx]at hn;have:n=0:=by omega
  subst this;cases hx with
  |cu _ _ h=>
   cases h with
   |dK a=>exact⟨[],by simpa using Flat.nil,⟨λ _=>rfl,λ w' _=>yq (by simp) (.inl ⟨_,_,_,rfl⟩) w'⟩⟩
 |str l=>
  simp only[dG,Y5,WV]at R;obtain⟨rfl,rfl,rfl⟩:=R;have X:=hx.dk;subst X;simp only[Ya]at hn;have C:∀w':World,(Builtin.lenOf (.string ⟨l.toArray⟩)).run P w'=.ok (l.map λ b=>[AV.int .u8 b.toNat]).length w':=by
   intro w';have:(⟨l.toArray⟩:ByteArray).size=l.length:=by show l.toArray.size=_;simp
   simp[Builtin.lenOf,this]
  by_cases J:n=0
  ·subst J;exact⟨[],by simpa using Flat.nil,⟨C,λ w' _=>yq (by simp) (.inr ⟨rfl,_,rfl⟩) w'⟩⟩
  ·have M:bX=1:=by
    cases l with
    |nil=>simp_all
    |cons b l=>simp_all
   subst M;refine⟨(l.take n).map λ b=>Value.int .u8 b.toNat,⟨λ r U=>hl r (YZ U),by simp,λ v X=>?_,?_⟩,⟨C,λ w' _=>?_⟩⟩
   ·obtain⟨b,_,rfl⟩:=W0.1 X;rfl
   ·have oc:((l.map λ b=>[AV.int .u8 b.toNat]).take n).flatten=(l.take n).map λ b=>AV.int .u8 b.toNat:=by
     rw[←Ub];generalize l.take n=m;induction m with
     |nil=>rfl
     |cons b m ih=>simp[ih]
    rw[oc];simp only[dQ,Yz];refine⟨by simp,λ j x v h1 F=>?_⟩
    rw[YD,Yq]at h1 F;obtain⟨b,h1,rfl⟩:=h1;obtain⟨b',F,rfl⟩:=F;rw[h1]at F;injection F with F;subst F;exact .int _ _
   ·simp only[Builtin.firstCells,Yd];simp
 |bf o z=>
  simp only[dG]at R;have key:∀y u,ol o=some y→(y=.rows p u∨(p=true∧y=.dD u))→rs=u→∃us,Flat p S w ι bX (rs.take n) us∧ov P w bX v rs.length n us:=by
   intro y u hy A B;refine obj o 0 u.length y u hy A (by simp_all) ?_
   rcases kZ hx with ⟨l,a,cap,q,rfl,h1,F,h3,_,ha⟩|⟨q,a,rfl⟩
   ·have hc:u.length=l.eA:=by
     rcases JF (gm o y hy) A with ⟨H,_⟩|⟨l',bc,H,V,_⟩
     ·simp_all
     ·simp_all
    grind
   ·have hc:u=[]:=by
     rcases JF (gm o y hy) A with ⟨_,h⟩|⟨l',bc,H,V,_⟩
     ·exact h
     ·simp_all
    simp_all
  grind
 |fp o off len room=>
  simp only[dG]at R;have key:∀y u,ol o=some y→(y=.rows p u∨(p=true∧y=.dD u))→rs=(u.drop off).take len→∃us,Flat p S w ι bX (rs.take n) us∧ov P w bX v rs.length n us:=by
   intro y u hy A B;refine obj o off len y u hy A B ?_;rcases xI hx with ⟨l,a,cap,q,rfl,h1,F,h3,h4,h5,ha⟩|⟨q,rfl,rfl,rfl,a,rfl⟩
   ·grind
   ·simp_all
  grind
 |_=>simp[dG]at R
end
end
end Go.Ab
