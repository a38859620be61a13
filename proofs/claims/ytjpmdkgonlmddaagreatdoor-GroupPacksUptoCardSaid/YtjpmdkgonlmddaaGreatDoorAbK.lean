import Derived.Test.YtjpmdkgonlmddaaGreatDoorAbI
import Derived.ProofKit
set_option linter.unusedVariables false
namespace Go.Ab
open Go.ChangeShapes Go.WideShapes Go.ChangeAt Go.RowKit
section
variable {B n:Nat}
mutual
def fP{H:Type}:DataW H→Nat
 |.lit (.string bytes)=>bytes.length+1
 |.lit _=>1
 |.nil=>1
 |.ptr d=>fP d+1
 |.slice elems spare=>nI elems+nI spare+1
 |.agg parts=>nI parts+1
 |.iface _ d=>fP d+1
 |.map entries=>Cv entries+1
 |.held _=>1
def nI{H:Type}:List (DataW H)→Nat
 | []=>0
 |d::r=>fP d+nI r
def Cv{H:Type}:List (Lit×DataW H)→Nat
 | []=>0
 |x::r=>NU x+Cv r
def NU{H:Type}:Lit×DataW H→Nat
 |(.string bytes,d)=>bytes.length+fP d+1
 |(_,d)=>fP d+1
end
theorem X2{H:Type}(d:DataW H):1≤fP d:=by
 cases d with
 |lit l=>cases l<;>simp[fP]
 |_=>simp[fP]
theorem ZL{H:Type}{d:DataW H}{l:List (DataW H)}(h:d∈l):fP d≤nI l:=by
 induction l with
 |nil=>cases h
 |cons x r ih=>
  simp only[nI];grind
theorem X1{H:Type}(l:List (DataW H)):l.length≤nI l:=by
 induction l with
 |nil=>simp
 |cons x r ih=>have:=X2 x;simp only[nI,Yh];omega
theorem NM{α β:Type}{f:α→Option β}:∀{l:List α} {r:List β},l.mapM f=some r→l.length=r.length∧∀(i:Nat) x,l[i]? =some x→∃y,r[i]? =some y∧f x=some y:=by
 intro l;induction l with
 |nil=>simp
 |cons a l ih=>
  intro r h;rw[List.mapM_cons]at h;cases hf:f a with
  |none=>simp_all
  |some y=>
   rw[hf]at h;cases hl:l.mapM f with
   |none=>simp_all
   |some s=>
    grind
def vT(P:Program):List Field→Nat→Nat→Bool
 | [],o,eK=>o==eK
 |f::r,o,eK=>f.offset==o&&vT P r (o+P.cellsOf f.type) eK
def qu(P:Program):Nat→TypeId→Bool
 |0,_=>false
 |n+1,t=>match P.underlying t with
  |some .bool=>true
  |some (.int _)=>true
  |some .string=>true
  |some (.slice e)=>qu P n e&&decide (0<P.cellsOf e)
  |some (.struct fs)=>vT P fs.toList 0 (P.cellsOf t)&&fs.toList.all λ f=>qu P n f.type
  |_=>false
def Al(R:TypeId→List AV→Prop):List Field→List AV→Prop
 | [],cells=>cells=[]
 |f::r,cells=>∃a b,cells=a++b∧R f.type a∧Al R r b
def WT(P:Program)(B:Nat):Nat→TypeId→List AV→Prop
 |0,_,_=>False
 |n+1,t,cells=>match P.underlying t with
  |some .bool=>∃b,cells=[.bool b]
  |some (.int k)=>∃m,cells=[.int k m]∧(Lit.int k m).wf=true
  |some .string=>∃l,cells=[.str l]∧l.length≤B
  |some (.slice e)=>∃rows,cells=[.sl rows]∧rows.length≤B∧∀r∈rows,WT P B n e r
  |some (.struct fs)=>Al (WT P B n) fs.toList cells
  |_=>False
theorem Ta{R:TypeId→List AV→Prop}(hR:∀t cs,R t cs→∀x∈cs,kp x=true):∀(fs:List Field) (cs:List AV),Al R fs cs→∀x∈cs,kp x=true:=by
 intro fs;induction fs with
 |nil=>intro cs h x i;simp only[Al]at h;simp_all
 |cons f r ih=>
  rintro cs ⟨a,b,rfl,h1,h2⟩ x i;grind
theorem XZ{P:Program}:∀(n:Nat) (t:TypeId) (cs:List AV),WT P B n t cs→∀x∈cs,kp x=true:=by
 intro n;induction n with
 |zero=>intro t cs h;exact h.elim
 |succ n ih=>
  intro t cs h x i;unfold WT at h;split at h
  ·obtain⟨b,rfl⟩:=h;simp at i;subst i;rfl
  ·obtain⟨m,rfl,_⟩:=h;simp at i;subst i;rfl
  ·obtain⟨l,rfl,_⟩:=h;simp at i;subst i;rfl
  ·obtain⟨rows,rfl,_⟩:=h;simp at i;subst i;rfl
  ·exact Ta ih _ _ h x i
  simp_all
theorem Tb{P:Program}(t:TypeId)(cs:List AV)(h:WT P B n t cs):∀x∈cs,kp x=true:=XZ n t cs h
section
variable {H:Type}{enc:TypeId×Value→H}{P:Program}{w:World}
theorem cy.one{S:Nat→Prop}{x:AV}{v:Value}(h:cE S w x v):cy S w [x] [v]:=
 ⟨rfl,λ j y u hy hu=>by
  grind⟩
theorem cy.app{S:Nat→Prop}{as bs:List AV}{us vs:List Value}(i:cy S w as us)(q:cy S w bs vs):cy S w (as++bs) (us++vs):=by
 refine⟨by simp[i.1,q.1],λ j x v o p=>?_⟩
 by_cases hj:j<as.length
 ·rw[Yt hj]at o;rw[Yt (by have:=i.1;omega)]at p
  exact i.2 j x v o p
 ·rw[Yl (by omega)]at o
  rw[Yl (by have:=i.1;omega)]at p
  refine q.2 (j-as.length) x v o ?_;rw[i.1];exact p
theorem NV{b:Nat}{a:Addr}{cs:List Value}(h:w.cells? b a n=some cs):cs.length=n∧∀j<n,∃v,cs[j]? =some v∧w.cell? (a.add j)=some v:=by
 unfold World.cells? at h;split at h
 ·obtain⟨h1,i⟩:=NM h;refine⟨by simp_all,λ j hj=>?_⟩
  exact i j j (by simp_all)
 ·cases h
theorem Zt{S:Nat→Prop}{i:Nat}(z:∀(t:TypeId) (cs:List Value) (d:DataW H) (ps:List MemPlace),qu P n t=true→DataW.trod enc P w 0 (λ _=>true) true i t cs=some (d,ps)→fP d≤B→
 ∃cells,WT P B n t cells∧cy S w cells cs):
 ∀(fs:List Field) (o eK:Nat) (cs:List Value) (xs:List (DataW H×List MemPlace)),vT P fs o eK=true→(fs.all λ f=>qu P n f.type)=true→cs.length=eK→o≤eK→
  (fs.mapM λ f=>DataW.trod enc P w 0 (λ _=>true) true i f.type ((cs.drop f.offset).take (P.cellsOf f.type)))=some xs→nI (xs.map (·.1))≤B→
  ∃cells,Al (WT P B n) fs cells∧cy S w cells (cs.drop o):=by
 intro fs;induction fs with
 |nil=>
  intro o eK cs xs q _ A ho h _;simp only[vT,Vy]at q;refine⟨[],rfl,?_⟩;rw[List.drop_eq_nil_of_le (by omega)]
  exact⟨rfl,λ j x v hx=>by simp⟩
 |cons f r QW=>
  intro o eK cs xs q p A ho h F;simp only[vT,Yi,Vy]at q;simp only[Ua,Yi]at p;rw[List.mapM_cons]at h;cases h1:DataW.trod enc P w 0 (λ _=>true) true i f.type ((cs.drop f.offset).take (P.cellsOf f.type))with
  |none=>simp_all
  |some x=>
   rw[h1]at h;cases h2:(r.mapM λ f=>DataW.trod enc P w 0 (λ _=>true) true i f.type ((cs.drop f.offset).take (P.cellsOf f.type)))with
   |none=>simp_all
   |some ys=>
    rw[h2]at h;have h:some (x::ys)=some xs:=h;injection h with h;subst h;simp only[Yy,nI]at F;have u:∀(r:List Field) (o:Nat),vT P r o eK=true→o≤eK:=by
     intro r;induction r with
     |nil=>intro o h;simp only[vT,Vy]at h;omega
     |cons g r z=>intro o h;simp only[vT,Yi,Vy]at h;grind
    have y:=u r _ q.2;obtain⟨c1,w1,r1⟩:=z f.type _ x.1 x.2 p.1 h1 (by omega)
    obtain⟨C,E,r2⟩:=QW (o+P.cellsOf f.type) eK cs ys q.2 p.2 A y h2 (by omega)
    refine⟨c1++C,⟨c1,C,rfl,w1,E⟩,?_⟩;have:cs.drop o=(cs.drop o).take (P.cellsOf f.type)++cs.drop (o+P.cellsOf f.type):=by
     rw[←WX,V0]
    rw[this];rw[q.1]at r1;exact r1.app r2
theorem Xj(hB:B≤bI):∀(n:Nat) (t:TypeId) (z:Nat) (cs:List Value) (d:DataW H) (ps:List MemPlace),qu P n t=true→
 DataW.trod enc P w 0 (λ _=>true) true z t cs=some (d,ps)→fP d≤B→∃cells,WT P B n t cells∧cy (λ b=>b<w.heap.size) w cells cs:=by
 intro n;induction n with
 |zero=>intro t z cs d ps h;simp[qu]at h
 |succ n ih=>
  intro t z cs d ps A h hb;cases z with
  |zero=>simp[DataW.trod]at h
  |succ z=>
   unfold qu at A;unfold WT;unfold DataW.trod at h;cases hu:P.underlying t with
   |none=>rw[hu]at A;cases A
   |some u=>
    rw[hu]at A h;cases u with
    |bool=>
     simp only at h⊢;split at h<;>first|(rename_i e;cases e;done)|cases h|skip
     all_goals first
      |(rename_i b e;exact⟨[.bool b],⟨b,rfl⟩,.one (.bool b)⟩)
      |(exfalso;simp_all;done)
    |int k=>
     simp only at h⊢;split at h
     all_goals first
      |(
       rename_i k' m e;split at h
       ·rename_i hc;obtain⟨rfl,hw⟩:=hc;injection e with e;injection e with e;subst e;exact⟨[.int k m],⟨m,rfl,hw⟩,.one (.int k m)⟩
       ·cases h)
      |(exfalso;simp_all;done)
    |string=>
     simp only at h⊢;split at h
     all_goals first
      |(
       rename_i s e;split at h
       ·injection h with h;injection h with h1 V;subst h1;simp only[fP]at hb;exact⟨[.str s.data.toList],⟨_,rfl,by omega⟩,.one (.str s)⟩
       ·cases h)
      |(exfalso;simp_all;done)
    |slice e=>
     simp only[Yi,YB]at A;simp only at h⊢;split at h
     all_goals try (rename_i q;cases q;done)
     all_goals try (cases h;done)
     ·injection h with h;injection h with h1 V;subst h1;exact⟨[.sl []],⟨[],rfl,YL _,λ r F=>by cases F⟩,.one .gG⟩
     rename_i e' a len cap Q5;cases Q5;split at h
     ·rename_i Se;cases hm:((List.range len).mapM λ i=>(w.cells? 0 (a.add (i*P.cellsOf e)) (P.cellsOf e)).bind (DataW.trod enc P w 0 (λ _=>true) true z e))with
      |none=>rw[hm]at h;cases h
      |some elems=>
       rw[hm]at h;simp only[Y1,Yz]at h;rw[Yq]at h;obtain⟨rest,_,h⟩:=h;injection h with h1 V;subst h1;simp only[fP]at hb;obtain⟨hlen,Z⟩:=NM hm;simp only[List.length_range]at hlen;have gL:=X1 (elems.map (·.1));rw[Ya]at gL;have U:∀i<len,∃cells cs,WT P B n e cells∧w.cells? 0 (a.add (i*P.cellsOf e)) (P.cellsOf e)=some cs∧cy (λ b=>b<w.heap.size) w cells cs:=by
        intro i p;obtain⟨y,hy,Y⟩:=Z i i (by simp[List.getElem?_range p])
        cases hc:w.cells? 0 (a.add (i*P.cellsOf e)) (P.cellsOf e)with
        |none=>rw[hc]at Y;cases Y
        |some cs=>
         rw[hc]at Y;have Y:DataW.trod enc P w 0 (λ _=>true) true z e cs=some (y.1,y.2):=Y;have xg:y.1∈elems.map (·.1):=W0.2 ⟨y,YO hy,rfl⟩
         have:=ZL xg;obtain⟨cells,h1,V⟩:=ih e z cs y.1 y.2 A.1 Y (by omega)
         exact⟨cells,cs,h1,rfl,V⟩
       have hex:∃(g:Nat→List AV) (bc:Nat→List Value),∀i<len,WT P B n e (g i)∧w.cells? 0 (a.add (i*P.cellsOf e)) (P.cellsOf e)=some (bc i)∧cy (λ b=>b<w.heap.size) w (g i) (bc i):=by
        refine⟨λ i=>if p:i<len then(U i p).choose else [],λ i=>if p:i<len then(U i p).choose_spec.choose else [],λ i p=>?_⟩;simp only[p,dite_true];exact(U i p).choose_spec.choose_spec
       obtain⟨g,bc,X⟩:=hex;refine⟨[.sl ((List.range len).map g)],⟨_,rfl,by simp;omega,λ r F=>?_⟩,?_⟩
       ·obtain⟨i,p,rfl⟩:=W0.1 F;exact(X i (List.mem_range.1 p)).1
       ·have T:∀(i:Nat) r,((List.range len).map g)[i]? =some r→i<len∧r=g i:=by
         intro i r F;rw[YD]at F;by_cases p:i<len
         ·rw[List.getElem?_range p]at F;simp at F;exact⟨p,F.symm⟩
         ·rw[Wn (by simp;omega)]at F;cases F
        have J:∀i j,i<len→j<P.cellsOf e→∃v,(bc i)[j]? =some v∧w.cell? ((a.add (i*P.cellsOf e)).add j)=some v:=λ i j p hj=>(NV (X i p).2.1).2 j hj;have R:∀i j,i<len→j<P.cellsOf e→w.cell? ((a.add (i*P.cellsOf e)).add j)=fC w a.block (a.off+(i*P.cellsOf e+j))∧(i*P.cellsOf e+j=0→a.spot=none):=by
         intro i j p hj;obtain⟨v,_,C⟩:=J i j p hj;by_cases hz:i*P.cellsOf e+j=0
         ·have h0:i*P.cellsOf e=0:=by omega
          have M:j=0:=by omega
          rw[h0,M]at C⊢;have e1:(a.add 0).add 0=a:=by simp[Addr.add]
          rw[e1]at C⊢;have hs:a.spot=none:=by
           unfold World.cell? at C;split at C
           ·split at C
            ·cases C
            ·rename_i q;cases rB:a.spot with|none=>rfl|some _=>simp[rB]at q
           ·cases C
          refine⟨?_,λ _=>hs⟩;unfold fC;congr 1
          cases a with
          |mk b o s=>simp only at hs;subst hs;simp
         ·refine⟨?_,λ q=>absurd q hz⟩;unfold fC;congr 1;unfold Addr.add
          by_cases h0:i*P.cellsOf e=0
          ·rw[if_pos h0,if_neg (by omega)]
           simp
          ·rw[if_neg h0];by_cases M:j=0
           ·rw[if_pos M];simp
           ·rw[if_neg M];simp;omega
        have E:∀i<len,(bc i).length=P.cellsOf e:=λ i p=>(NV (X i p).2.1).1;have RS:=cE.sl (S:=λ b=>b<w.heap.size) (w:=w) ((List.range len).map g) a cap (P.cellsOf e) bc (by simpa using Se.2.1) (by simp;omega) ?_ ?_ ?_ ?_
        ·have:=cy.one RS;rw[Ya,List.length_range]at this;exact this
        ·intro iF;have h0:0<len:=by
          rcases VW len with q|q
          ·subst q;simp at iF
          ·exact q
         obtain⟨v,_,C⟩:=J 0 0 h0 A.2;have h1:=R 0 0 h0 A.2;refine⟨?_,h1.2 (by simp)⟩
         rw[h1.1]at C;unfold fC World.cell? at C;rcases Wo a.block w.heap.size with q|q
         ·exact q
         ·simp only[Array.getElem?_eq_none q]at C;cases C
        ·intro i r F;obtain⟨p,rfl⟩:=T i r F;exact⟨by rw[(X i p).2.2.1];exact E i p,E i p⟩
        ·intro i j v p C;simp only[Ya,List.length_range]at p;have hj:j<P.cellsOf e:=by
          rw[←E i p];rcases Wo j (bc i).length with q|q
          ·exact q
          ·rw[Wn q]at C;cases C
         obtain⟨v',O,y7⟩:=J i j p hj;rw[C]at O;injection O with O;subst O;rw[(R i j p hj).1]at y7;refine⟨y7,?_⟩;have F:=(X i p).2.2;have Q:j<(g i).length:=by rw[F.1,E i p];exact hj
         exact(F.2 j _ v (Y3 Q) C).cell (Tb _ _ (X i p).1 _ (Wz Q))
        ·intro i j r x v F hx C;obtain⟨p,rfl⟩:=T i r F;exact(X i p).2.2.2 j x v hx C
     ·cases h
    |struct fs=>
     simp only[Yi]at A;simp only at h⊢;split at h
     all_goals try (rename_i q;cases q;done)
     all_goals try (cases h;done)
     rename_i Q
     ·skip
      rw[Yq]at h;obtain⟨xs,sO,h⟩:=h;injection h with h1 V;subst h1;simp only[fP]at hb;obtain⟨cells,h1,V⟩:=Zt (S:=λ b=>b<w.heap.size) (λ t cs d ps a b c=>ih t z cs d ps a b c) fs.toList 0 _ cs xs A.1 A.2 Q (YL _) sO (by omega)
      exact⟨cells,h1,by simpa using V⟩
    |_=>cases A
def yH(P:Program)(B n:Nat)(t:TypeId)(x:AV):Prop:=
 match P.underlying t with
 |some (.struct _)=>∃cells,x=.agg cells∧WT P B n t cells
 |_=>WT P B n t [x]
theorem XU(E:B≤bI){t:TypeId}{base:Nat}{v:Value}{d:DataW H}{ps:List MemPlace}(p:qu P n t=true)(q:Value.okWide P w .any base t v)
 (h:DataW.Trod enc P w 0 (λ _=>true) true t v d ps) (i:fP d≤B):∃x,yH P B n t x∧cE (λ b=>b<w.heap.size) w x v:=by
 obtain⟨z,h⟩:=h;obtain⟨cells,h1,A⟩:=Xj E n t z _ d ps p h i;unfold yH;cases n with
 |zero=>simp[qu]at p
 |succ n=>
  unfold qu at p;unfold Value.okWide at q;cases hu:P.underlying t with
  |none=>simp_all
  |some u=>
   have one:∀x,cells=[x]→(∀cs,v≠.agg cs)→cE (λ b=>b<w.heap.size) w x v:=by
    intro x C F;subst C;have y:v.cells=#[v]:=by cases v<;>first|rfl|simp_all
    rw[y]at A;exact A.2 0 x v rfl rfl
   have o:=h1;unfold WT at o;rw[hu]at p q o;cases u with
   |bool=>
    obtain⟨b,i⟩:=o;exact⟨_,i▸h1,one _ i (λ cs e=>by subst e;simp[Cell.okWide,Cell.ok,hu]at q)⟩
   |int k=>
    obtain⟨m,i,_⟩:=o;exact⟨_,i▸h1,one _ i (λ cs e=>by subst e;simp[Cell.okWide,Cell.ok,hu]at q)⟩
   |string=>
    obtain⟨l,i,_⟩:=o;exact⟨_,i▸h1,one _ i (λ cs e=>by subst e;simp[Cell.okWide,Cell.ok,hu]at q)⟩
   |slice e=>
    obtain⟨rows,i,_⟩:=o;exact⟨_,i▸h1,one _ i (λ cs e=>by subst e;simp[Cell.okWide,Cell.ok,hu]at q)⟩
   |struct fs=>
    obtain⟨cs,rfl,_,_⟩:=q;refine⟨.agg cells,⟨cells,rfl,h1⟩,.agg cells cs ?_ (λ j x v C q=>A.2 j x v C (by simpa[Value.cells]using q))⟩
    have:=A.1;simpa[Value.cells]using this
   |_=>cases p
def wS(P:Program)(B n:Nat):List TypeId→List AV→Prop
 | [],xs=>xs=[]
 |t::ts,xs=>∃x r,xs=x::r∧yH P B n t x∧wS P B n ts r
theorem Z5(z:B≤bI){base:Nat}:∀(ts:List TypeId) (vs:List Value) (ds:List (DataW H)) (ps:List MemPlace),(ts.all λ t=>qu P n t)=true→
 (∀(j:Nat) t v,ts[j]? =some t→vs[j]? =some v→Value.okWide P w .any base t v)→DataW.TrodAll enc P w 0 (λ _=>true) true ts vs ds ps→nI ds≤B→
 ∃xs,wS P B n ts xs∧cy (λ b=>b<w.heap.size) w xs vs:=by
 intro ts;induction ts with
 |nil=>
  intro vs ds ps _ _ h _;cases vs with
  |nil=>exact⟨[],rfl,rfl,λ j x v hx=>by simp⟩
  |cons v r=>simp[DataW.TrodAll]at h
 |cons t ts ih=>
  intro vs ds ps i o h C;cases vs with
  |nil=>cases ds<;>simp[DataW.TrodAll]at h
  |cons v vs=>
   cases ds with
   |nil=>simp[DataW.TrodAll]at h
   |cons d ds=>
    obtain⟨p,q,h1,A,rfl⟩:=h;simp only[Ua,Yi]at i;simp only[nI]at C;obtain⟨x,w1,r1⟩:=XU z i.1 (o 0 t v rfl rfl) h1 (by omega)
    obtain⟨xs,y,r2⟩:=ih vs ds q i.2 (λ j u v' a b=>o (j+1) u v' (by grind) (by grind)) A (by omega)
    exact⟨x::xs,⟨x,xs,rfl,w1,y⟩,cy.app (cy.one r1) r2⟩
theorem ZJ{W':World}(B:laidOutB P=true)(j:∀b<w.heap.size,W'.heap[b]? =w.heap[b]?){z:Nat→Bool}:∀(ts:List TypeId) (vs:List Value) (ds:List (DataW H)) (ps:List MemPlace),
 (ts.all λ t=>P.readableRec t&&decide (t<P.types.size))=true→DataW.TrodAll enc P w 0 (λ _=>true) true ts vs ds ps→(∀p∈ps,p.block<w.heap.size∧z p.block=true)→
 DataW.TrodAll enc P W' 0 z true ts vs ds ps:=by
 intro ts;induction ts with
 |nil=>intro vs ds ps _ h _;cases vs<;>cases ds<;>simp_all[DataW.TrodAll]
 |cons t ts ih=>
  intro vs ds ps i h y;cases vs with
  |nil=>cases ds<;>simp[DataW.TrodAll]at h
  |cons v vs=>
   cases ds with
   |nil=>simp[DataW.TrodAll]at h
   |cons d ds=>
    obtain⟨p,q,h1,A,rfl⟩:=h;simp only[Ua,Yi,YB]at i;refine⟨p,q,?_,ih vs ds q i.2 A (λ x o=>y x (List.mem_append_right _ o)),rfl⟩;refine WideElems.Trod_stays B i.1.1 i.1.2 h1 (λ x o=>?_) (λ x o=>(y x (Vl _ o)).2)
    have u:=(y x (Vl _ o)).1;have e:=j _ u;cases x with
    |cell b off=>simp only[MemPlace.block]at e;simp only[World.sameAt,World.cell?,e]
    |map b=>simp only[MemPlace.block]at e;simp only[World.sameAt,e]
theorem XF{G:eo}{f:Func}{s:ChangeSpec}{K:Nat}{args:Array Value}{ds gs:List (DataW H)}{j:List MemPlace}{xs:List AV}{tb:TypeId}{z:Bool}
 (hl:laidOutB P=true) (hr:(f.params.toList.all λ t=>P.readableRec t&&decide (t<P.types.size))=true)
 (T:s.vars=[]) (hW:DataW.Whole enc P f.params.toList s.vars z w args.toList ds gs j) (hG:pE G (λ b=>b<w.heap.size) w)
 (y:cy (λ b=>b<w.heap.size) w xs args.toList) (Ea:FC P G K [] xs (.bool true) [])
 (U:(s.fn H (ds++gs)).results=[.lit (.bool true)]) (F:(s.fn H (ds++gs)).args=ds) (J:(s.fn H (ds++gs)).vars=[])
 (Hg:f.resultTypes=#[tb]) (Q9:P.underlying tb=some .bool):
 Calls P K args w λ e W'=>∃v,e=.returned v∧s.post enc P f z true false false w args v W':=by
 have Q:∀p∈j,p.block<w.heap.size:=λ p hp=>hW.lt p hp;have Sh:=hW
 obtain⟨p,q,hA,hV,rfl,X,xf⟩:=Sh;rw[T]at hV;have Z:gs=[]∧q=[]:=by cases gs<;>simp_all[DataW.TrodVars]
 obtain⟨rfl,rfl⟩:=Z;rw[YI]at hW Q X xf;refine(Ea.2.2 (λ b=>b<w.heap.size) (λ _=>none) w args (λ b hb=>hb) hG ⟨λ o x y=>by simp[lk]at y,λ o x y=>by simp,λ o o' x x' y=>by simp⟩ (λ _ _=>rfl) y.rep).mono ?_
 rintro e W' ⟨v,S',ι',rfl,M, -, -, -, -,V, -⟩;obtain rfl:=V.dJ;have u:∀b<w.heap.size,W'.heap[b]? =w.heap[b]? :=λ b hb=>M.old b hb (by
  rintro(q|⟨o,x,l,q,_⟩)
  all_goals grind)
 refine⟨_,rfl,?_⟩;have O:∀(b:Nat) (B:Nat→Bool) (hd:Bool),DataW.TrodAll enc P W' b B hd f.resultTypes.toList ((Value.bool true).resultList f.resultTypes.size) (s.fn H (ds++[])).results []:=by
  intro b B hd;rw[U,Hg];exact trodAll_mk1 (shut_bool Q9 true)
 have A:∀B:Nat→Bool,(∀x∈p,B x.block=true)→DataW.TrodAll enc P W' 0 B true f.params.toList args.toList (s.fn H (ds++[])).args p:=by
  intro B Y;rw[F];exact ZJ hl u _ _ _ _ hr hA (λ x y=>⟨Q x y,Y x y⟩)
 have C:∀B:Nat→Bool,DataW.TrodVars enc P W' B s.vars (s.fn H (ds++[])).vars []:=by
  intro B;rw[T,J];rfl
 have E:w.keptBut W' (λ _=>False):=by
  refine⟨M.os,M.output,λ i hi=>?_⟩;rw[u i hi]
  cases ho:w.heap[i]? with
  |none=>simp
  |some o=>grind
 have R:∀x∈p,(λ b=>decide (b<w.heap.size)) x.block=true:=λ x y=>by simp_all
 exact⟨ds,[],p,[],p,[],by omega,O _ _ _,A _ R,C _,World.keptBut_mono (λ x y=>y.elim) E,λ h=>by cases h⟩
end
section
variable {P:Program}{B n:Nat}{t:TypeId}{cells:List AV}
theorem Xh(hu:P.underlying t=some .bool)(h:WT P B n t cells):∃b:Bool,cells=vQ b∧True:=by
 cases n with
 |zero=>exact h.elim
 |succ n=>unfold WT at h;simp_all
theorem lF{k:IntKind}(i:P.underlying t=some (.int k))(h:WT P B n t cells):∃m:Int,cells=cn k m∧eM k m:=by
 cases n with
 |zero=>exact h.elim
 |succ n=>unfold WT at h;rw[i]at h;obtain⟨b,rfl,j⟩:=h;exact⟨b,rfl,j⟩
theorem zj(hu:P.underlying t=some .string)(h:WT P B n t cells):∃l:aj,cells=gy l∧l.length≤B:=by
 cases n with
 |zero=>exact h.elim
 |succ n=>unfold WT at h;simp_all
theorem Xi{α:Type}{c:α→List AV}{ok:α→Prop}:∀(rows:List (List AV)),(∀r∈rows,∃x,r=c x∧ok x)→∃l:List α,rows=l.map c∧∀y∈l,ok y:=by
 intro rows;induction rows with
 |nil=>simp
 |cons r rows ih=>
  intro h;obtain⟨x,rfl,hx⟩:=h r Yp;obtain⟨l,rfl,hl⟩:=ih (λ q i=>h q (Yn _ i));refine⟨x::l,rfl,λ y hy=>?_⟩
  grind
theorem vr{e:TypeId}{α:Type}{c:α→List AV}{ok:α→Prop}(j:P.underlying t=some (.slice e))(p:∀n cells,WT P B n e cells→∃x,cells=c x∧ok x)
 (h:WT P B n t cells):∃l:List α,cells=fJ c l∧(l.length≤B∧∀y∈l,ok y):=by
 cases n with
 |zero=>exact h.elim
 |succ n=>
  unfold WT at h;rw[j]at h;obtain⟨rows,rfl,hw,o⟩:=h;obtain⟨l,rfl,q⟩:=Xi rows (λ r i=>p n r (o r i));exact⟨l,rfl,by simp_all,q⟩
theorem JG{fs:Array Field}(hu:P.underlying t=some (.struct fs))(h:WT P B n t cells):∃i,Al (WT P B i) fs.toList cells:=by
 cases n with
 |zero=>exact h.elim
 |succ n=>unfold WT at h;grind
end
end
end Go.Ab
